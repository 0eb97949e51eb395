/-
  Plain laws: the join of two elements is their least upper bound; closed descriptions close.
  Plain laws: the algebra of joins; how large they become; the join of a list.
-/
import Derived.Test.YtaecccdkjmipeaaGreatB17
import Derived.Test.YtaecccdkjmipeaaGreatB20
import Derived.Test.YtaecccdkjmipeaaGreatB12
import Derived.Test.YtaecccdkjmipeaaGreatB13
namespace Go.Proofs.YtaecccdkjmipeaaGreat
open Go.RowKit

/-! ### closed descriptions -/
theorem sys_ok {l : Lat} (hO : OkL l) (hk : l.k = 10) : SysOk l.nm l.rs := by
 obtain ⟨h1, h2, h3⟩ := spell_ok hO
 have h := hO.four.1
 unfold limitsX whenE at h
 rw [hk, show mostN 10 = 12 from rfl] at h
 have hl : (decide ((l.nm.length : Int) > 12) || decide ((l.rs.length : Int) > 32)) = false := by
  cases hb : (decide ((l.nm.length : Int) > 12) || decide ((l.rs.length : Int) > 32))
  ·rfl
  rw [hb] at h; cases h
 simp only [Bool.or_eq_false_iff, decide_eq_false_iff_not] at hl
 exact ⟨h2 (by omega), h1, by omega, by omega, h3⟩
theorem JoL.of (l : Lat) (hO : OkL l) : JoL l := .mk l (fun hk s h1 h2 => closeAll_fc l.nm l.rs (sys_ok hO hk) s h1 h2) (fun p hp => JoL.of p (hO.part p hp))
termination_by l
decreasing_by exact Lat.sizeOf_ps ‹_›
section
variable {rs : List Ru} {s t c : List Nm}
theorem step_sup {x : Nm} (h : x ∈ s) : x ∈ stepC rs s := by
 unfold stepC
 split
 ·exact List.mem_append_left _ h
 exact h
theorem iter_sup : ∀ (n : Nat) (s : List Nm) {x : Nm}, x ∈ s → x ∈ iterC rs n s
 | 0, _, _, h => h
 | n + 1, s, _, h => iter_sup n (stepC rs s) (step_sup h)
theorem step_sub (hc : closedB rs c = true) (h : ∀ x ∈ s, x ∈ c) : ∀ x ∈ stepC rs s, x ∈ c := by
 unfold stepC
 split
 ·rename_i r hr
  have h1 := List.find?_some hr
  simp only [Bool.and_eq_true] at h1
  have h2 := List.all_eq_true.1 hc r (List.mem_of_find?_eq_some hr)
  simp only [okRule, Bool.not_eq_true', Bool.and_eq_false_iff, Bool.not_eq_false'] at h2
  have h3 : subsetB r.i c = true := subset_iff.2 fun x hx => h x (subset_iff.1 h1.1 x hx)
  rw [h3] at h2
  have h4 := has_iff.1 (h2.resolve_left (by decide))
  intro x hx
  rcases List.mem_append.1 hx with hx | hx
  ·exact h x hx
  rw [List.mem_singleton.1 hx]; exact h4
 exact h
theorem iter_sub (hc : closedB rs c = true) : ∀ (n : Nat) (s : List Nm), (∀ x ∈ s, x ∈ c) → ∀ x ∈ iterC rs n s, x ∈ c
 | 0, _, h => h
 | n + 1, s, h => iter_sub hc n (stepC rs s) (step_sub hc h)
/-- after as many rounds as there are rules none fires -/
theorem iter_full : fstR (firesR (iterC rs rs.length s)) rs 0 = none := by
 cases hf : fstR (firesR (iterC rs rs.length s)) rs 0 with
 | none => rfl
 | some p =>
  obtain ⟨h1, h2⟩ := fst_some _ rs 0 (j := p.1) (r := p.2) hf
  have key : ∀ (n : Nat) (t : List Nm), todo rs t ≤ n → todo rs (iterC rs n t) = 0 ∨ fstR (firesR (iterC rs n t)) rs 0 = none := by
   intro n
   induction n with
   | zero => intro t h; exact .inl (by simp only [iterC]; omega)
   | succ n ih =>
    intro t h
    cases hf : fstR (firesR t) rs 0 with
    | none => right; rw [iter_stay (step_stay hf)]; exact hf
    | some p =>
     obtain ⟨h1, h2⟩ := fst_some _ rs 0 (j := p.1) (r := p.2) hf
     have h3 : stepC rs t = t ++ [p.2.t] := by rw [stepC_eq, hf]
     have h4 := todo_lt h2 h1
     show todo rs (iterC rs n (stepC rs t)) = 0 ∨ fstR (firesR (iterC rs n (stepC rs t))) rs 0 = none
     rw [h3]
     exact ih _ (by omega)
  rcases key rs.length s todo_le with h | h
  ·have := todo_lt h2 h1; omega
  rw [hf] at h; cases h
end
theorem close_mem {u : List Nm} {rs : List Ru} {s : List Nm} {x : Nm} : x ∈ closeV u rs s ↔ x ∈ u ∧ x ∈ iterC rs rs.length s := by
 unfold closeV
 rw [List.mem_filter, has_iff]
theorem close_sorted {u : List Nm} {rs : List Ru} {s : List Nm} (h : sortedB u = true) : sortedB (closeV u rs s) = true := sorted_of_pw ((sorted_pw h).filter _)
theorem close_closed {u : List Nm} {rs : List Ru} {s : List Nm} (h : ∀ r ∈ rs, r.t ∈ u) : closedB rs (closeV u rs s) = true := by
 unfold closedB
 rw [List.all_eq_true]
 intro r hr
 have h1 := fst_none (iter_full (rs := rs) (s := s)) r hr
 simp only [okRule, Bool.not_eq_true', Bool.and_eq_false_iff, Bool.not_eq_false']
 cases hs : subsetB r.i (closeV u rs s)
 ·exact .inl rfl
 ·right
  have h2 : subsetB r.i (iterC rs rs.length s) = true := subset_iff.2 fun x hx => (close_mem.1 (subset_iff.1 hs x hx)).2
  rw [firesR, h2] at h1
  have h3 : hasB (iterC rs rs.length s) r.t = true := by simpa using h1
  exact has_iff.2 (close_mem.2 ⟨h r hr, has_iff.1 h3⟩)

/-! ### registers -/
section
variable {a b : List En}
theorem merged_mem (ha : RegOk a) (hb : RegOk b) {x : En} : x ∈ mergedE a b ↔ (x ∈ a ∧ ¬ ∃ y ∈ b, leE x y) ∨ (x ∈ b ∧ ¬ ∃ y ∈ a, ltE x y) := by
 unfold mergedE
 rw [List.mem_mergeSort, List.mem_append, List.mem_filter, List.mem_filter]
 refine or_congr (and_congr_right fun hx => ?_) (and_congr_right fun hx => ?_)
 ·rw [← covered_iff (ha.valid x hx) hb.valid, keepB]; simp
 unfold keepA
 rw [Bool.not_eq_true', List.any_eq_false]
 constructor
 ·rintro h ⟨y, hy, hl⟩
  exact h y hy ((isBef_iff (hb.valid x hx) (ha.valid y hy)).2 hl)
 intro h y hy hl
 exact h ⟨y, hy, (isBef_iff (hb.valid x hx) (ha.valid y hy)).1 hl⟩
theorem merged_sub (ha : RegOk a) (hb : RegOk b) {x : En} (h : x ∈ mergedE a b) : x ∈ a ∨ x ∈ b := by
 rcases (merged_mem ha hb).1 h with h | h
 ·exact .inl h.1
 exact .inr h.1
theorem merged_ok (ha : RegOk a) (hb : RegOk b) : RegOk (mergedE a b) := by
 have each : ∀ {P : En → Prop}, (∀ x ∈ a, P x) → (∀ x ∈ b, P x) → ∀ x ∈ mergedE a b, P x := fun h1 h2 x hx => by
  rcases merged_sub ha hb hx with h | h
  ·exact h1 x h
  exact h2 x h
 refine ⟨each ha.valid hb.valid, each ha.ne hb.ne, each ha.name hb.name, ?_, fun x hx y hy hl => ?_⟩
 ·have hn : (mergedE a b).Nodup := by
   unfold mergedE
   rw [(List.mergeSort_perm _ _).nodup_iff, List.nodup_append]
   refine ⟨ha.nodup.filter _, hb.nodup.filter _, fun x hx y hy e => ?_⟩
   subst e
   obtain ⟨h1, h2⟩ := List.mem_filter.1 hx
   have h3 := (List.mem_filter.1 hy).1
   have : coveredB b x = true := (covered_iff (ha.valid x h1) hb.valid).2 ⟨x, h3, leE_refl x⟩
   simp [keepB, this] at h2
  have hs : (mergedE a b).Pairwise (fun x y => leEn x y = true) := List.pairwise_mergeSort (fun x y z h1 h2 => by
    simp only [leEn, decide_eq_true_eq] at *
    exact cmpEn_ok.trans _ _ _ h1 h2) (fun x y => by
    have := cmpEn_ok.anti x y
    simp only [leEn, Bool.or_eq_true, decide_eq_true_eq]
    omega) _
  refine (hs.and hn).imp fun {x y} h => ?_
  have h1 : cmpEn x y ≤ 0 := of_decide_eq_true h.1
  have h2 : cmpEn x y ≠ 0 := fun e => h.2 (cmpEn_ok.eq x y e)
  omega
 rcases (merged_mem ha hb).1 hx with h1 | h1 <;> rcases (merged_mem ha hb).1 hy with h2 | h2
 ·exact ha.anti x h1.1 y h2.1 hl
 ·exact h1.2 ⟨y, h2.1, .inl hl⟩
 ·exact h1.2 ⟨y, h2.1, hl⟩
 exact hb.anti x h1.1 y h2.1 hl
theorem merged_left (ha : RegOk a) (hb : RegOk b) : ∀ x ∈ a, ∃ y ∈ mergedE a b, leE x y := fun x hx => by
 by_cases h : ∃ y ∈ b, leE x y
 ·obtain ⟨y, hy, hl⟩ := h
  refine ⟨y, (merged_mem ha hb).2 (.inr ⟨hy, fun ⟨z, hz, hlt⟩ => ?_⟩), hl⟩
  exact ha.anti x hx z hz (leE_ltE hl hlt)
 exact ⟨x, (merged_mem ha hb).2 (.inl ⟨hx, h⟩), leE_refl x⟩
theorem merged_right (ha : RegOk a) (hb : RegOk b) : ∀ x ∈ b, ∃ y ∈ mergedE a b, leE x y := fun x hx => by
 by_cases h : ∃ y ∈ a, ltE x y
 ·obtain ⟨y, hy, hl⟩ := h
  refine ⟨y, (merged_mem ha hb).2 (.inl ⟨hy, fun ⟨z, hz, hle⟩ => ?_⟩), .inl hl⟩
  exact hb.anti x hx z hz (ltE_leE hl hle)
 exact ⟨x, (merged_mem ha hb).2 (.inr ⟨hx, h⟩), leE_refl x⟩
end

/-! ### least upper bounds -/
structure Lub (l : Lat) (a b j : Val) : Prop where
 el : elemB j l = true
 le1 : leqB l a j = true
 le2 : leqB l b j = true
 least : ∀ c, elemB c l = true → leqB l a c = true → leqB l b c = true → leqB l j c = true
theorem lub_left {l : Lat} (hO : OkL l) {a b : Val} (ha : elemB a l = true) (h : leqB l b a = true) : Lub l a b a := ⟨ha, leq_refl l hO a ha, h, fun _ _ h1 _ => h1⟩
theorem lub_right {l : Lat} (hO : OkL l) {a b : Val} (hb : elemB b l = true) (h : leqB l a b = true) : Lub l a b b := ⟨hb, h, leq_refl l hO b hb, fun _ _ _ h2 => h2⟩
/-- where the part of a joined map comes from -/
theorem joinF_of {q : Lat} {a b : Val} (p3 : a.nm.length = a.ps.length) (p4 : sortedB a.nm = true) (q3 : b.nm.length = b.ps.length) (q4 : sortedB b.nm = true) {s : Nm} (h : s ∈ a.nm ∨ s ∈ b.nm) :
  (∃ (i : Nat) (p : Val), a.nm[i]? = some s ∧ a.ps[i]? = some p ∧ s ∉ b.nm ∧ joinF q a b s = p) ∨ (∃ (j : Nat) (y : Val), b.nm[j]? = some s ∧ b.ps[j]? = some y ∧ s ∉ a.nm ∧ joinF q a b s = y) ∨
  ∃ (i : Nat) (p : Val) (j : Nat) (y : Val), a.nm[i]? = some s ∧ a.ps[i]? = some p ∧ b.nm[j]? = some s ∧ b.ps[j]? = some y ∧ joinF q a b s = joinV q p y := by
 have at_ : ∀ {v : Val}, v.nm.length = v.ps.length → sortedB v.nm = true → s ∈ v.nm → ∃ (i : Nat) (p : Val), v.nm[i]? = some s ∧ v.ps[i]? = some p ∧ partOf v s = some p := fun {v} h1 h2 h3 => by
  obtain ⟨i, hi⟩ := List.mem_iff_getElem?.1 h3
  obtain ⟨p, hp⟩ := get_lt (show i < v.ps.length by have := (List.getElem?_eq_some_iff.1 hi).1; omega)
  exact ⟨i, p, hi, hp, by rw [partOf_at h2 hi, hp]⟩
 by_cases m1 : s ∈ a.nm <;> by_cases m2 : s ∈ b.nm
 ·obtain ⟨i, p, e1, e2, e3⟩ := at_ p3 p4 m1
  obtain ⟨j, y, f1, f2, f3⟩ := at_ q3 q4 m2
  exact .inr (.inr ⟨i, p, j, y, e1, e2, f1, f2, jf_2 e3 f3⟩)
 ·obtain ⟨i, p, e1, e2, e3⟩ := at_ p3 p4 m1
  exact .inl ⟨i, p, e1, e2, m2, jf_a e3 (partOf_no m2)⟩
 ·obtain ⟨j, y, f1, f2, f3⟩ := at_ q3 q4 m2
  exact .inr (.inl ⟨j, y, f1, f2, m1, jf_b (partOf_no m1) f3⟩)
 rcases h with h | h
 ·exact absurd h m1
 exact absurd h m2
theorem same_at {l : List Nm} (h : sortedB l = true) {i j : Nat} {s : Nm} (hi : l[i]? = some s) (hj : l[j]? = some s) : i = j := nodup_at (nodup_of h) hi hj

theorem join_lub_s (l : Lat) (hO : OkL l) (ih : ∀ q ∈ l.ps, ∀ x y, elemB x q = true → elemB y q = true → Lub q x y (joinV q x y)) (a b : Val) (ha : elemB a l = true) (hb : elemB b l = true) : Lub l a b (joinV l a b) := by
 have tot : l.k ≠ 4 → l.k ≠ 10 → l.k ≠ 9 → l.k ≠ 5 → l.k ≠ 6 → (l.k = 7 → joinX l.ps a.ps b.ps = none) → leqB l a b = true ∨ leqB l b a = true → Lub l a b (joinV l a b) := fun h4 h10 h9 h5 h6 hx h => by
  rw [joinV_else h4 h10 h9 h5 h6 hx]
  by_cases h1 : leqB l a b = true
  ·rw [if_pos h1]; exact lub_right hO hb h1
  rw [if_neg h1]
  have h2 := h.resolve_left h1
  rw [if_pos h2]; exact lub_left hO ha h2
 rcases kinds hO with hk | hk | hk | hk | hk | hk | hk | hk | hk | hk
 ·exact tot (by omega) (by omega) (by omega) (by omega) (by omega) (fun h => by omega) (by rw [lq_num (.inl hk), lq_num (.inl hk)]; omega)
 ·exact tot (by omega) (by omega) (by omega) (by omega) (by omega) (fun h => by omega) (by rw [lq_num (.inr hk), lq_num (.inr hk)]; omega)
 ·exact tot (by omega) (by omega) (by omega) (by omega) (by omega) (fun h => by omega) (by rw [lq_min hk, lq_min hk]; omega)
 ·-- sets
  obtain ⟨p1, p2, p3, p4, p5, p6⟩ := el_set ha (.inl hk)
  obtain ⟨q1, q2, q3, q4, q5, q6⟩ := el_set hb (.inl hk)
  have hE : joinV l a b = .mk 0 (uni a.nm b.nm) [] [] := by rw [joinV_eq, hk]; rfl
  rw [hE]
  have hm : ∀ z, z ∈ uni a.nm b.nm ↔ z ∈ a.nm ∨ z ∈ b.nm := fun z => uni_mem p4 q4
  refine ⟨mk_set hk rfl rfl rfl (uni_sorted p4 q4) fun s hs => ?_, (lq_set (.inl hk)).2 fun x hx => (hm x).2 (.inl hx), (lq_set (.inl hk)).2 fun x hx => (hm x).2 (.inr hx), fun c _ h1 h2 => (lq_set (.inl hk)).2 fun x hx => ?_⟩
  ·rcases (hm s).1 hs with h | h
   ·exact p5 s h
   exact q5 s h
  rcases (hm x).1 hx with h | h
  ·exact (lq_set (.inl hk)).1 h1 x h
  exact (lq_set (.inl hk)).1 h2 x h
 ·-- maps
  obtain ⟨q, hp⟩ := shape_56 hO hk
  have mq : q ∈ l.ps := by rw [hp]; simp
  obtain ⟨p1, p2, p3, p4, p5, p6⟩ := el_map ha hk hp
  obtain ⟨q1, q2, q3, q4, q5, q6⟩ := el_map hb hk hp
  obtain ⟨U, hU⟩ : ∃ U, U = uni a.nm b.nm := ⟨_, rfl⟩
  have hE : joinV l a b = .mk 0 U (U.map (joinF q a b)) [] := by rw [joinV_eq, hk, hp, joinM_map, hU]; rfl
  rw [hE]
  have hm : ∀ z, z ∈ U ↔ z ∈ a.nm ∨ z ∈ b.nm := fun z => by rw [hU]; exact uni_mem p4 q4
  have hs : sortedB U = true := by rw [hU]; exact uni_sorted p4 q4
  have hlen : U.length = (U.map (joinF q a b)).length := by simp
  have oq := hO.part q mq
  have G : ∀ {i j : Nat} {x y : Val}, a.ps[i]? = some x → b.ps[j]? = some y → Lub q x y (joinV q x y) := fun h1 h2 => ih q mq _ _ (p6 _ (List.mem_of_getElem? h1)).1 (q6 _ (List.mem_of_getElem? h2)).1
  have at_ : ∀ {i : Nat} {s : Nm} {z : Val}, U[i]? = some s → (U.map (joinF q a b))[i]? = some z → z = joinF q a b s ∧ (s ∈ a.nm ∨ s ∈ b.nm) := fun h1 h2 => by
   rw [List.getElem?_map, h1] at h2
   cases h2
   exact ⟨rfl, (hm _).1 (List.mem_of_getElem? h1)⟩
  have jl : (Val.mk 0 U (U.map (joinF q a b)) []).nm.length = (Val.mk 0 U (U.map (joinF q a b)) []).ps.length := hlen
  refine ⟨mk_map hk hp rfl rfl hlen hs (fun s hs => ?_) (fun z hz => ?_), (lq_map hk hp p3 jl hs).2 fun i s p h1 h2 => ?_, (lq_map hk hp q3 jl hs).2 fun i s p h1 h2 => ?_, fun c hc h1 h2 => ?_⟩
  ·rcases (hm s).1 hs with h | h
   ·exact p5 s h
   exact q5 s h
  ·have hz : z ∈ U.map (joinF q a b) := hz
   obtain ⟨s, hsU, rfl⟩ := List.mem_map.1 hz
   rcases joinF_of (q := q) p3 p4 q3 q4 ((hm s).1 hsU) with ⟨i, p, e1, e2, -, e4⟩ | ⟨j, y, e1, e2, -, e4⟩ | ⟨i, p, j, y, e1, e2, e3, e4, e5⟩
   ·rw [e4]; exact p6 p (List.mem_of_getElem? e2)
   ·rw [e4]; exact q6 y (List.mem_of_getElem? e2)
   rw [e5]
   have L := G e2 e4
   refine ⟨L.el, fun e => ?_⟩
   have hpm := p6 p (List.mem_of_getElem? e2)
   exact hpm.2 (leq_anti q oq p _ hpm.1 (bot_elem q oq) (by rw [← e]; exact L.le1) (bot_least q oq p hpm.1))
  ·obtain ⟨j, hj⟩ := List.mem_iff_getElem?.1 ((hm s).2 (.inl (List.mem_of_getElem? h1)))
   refine ⟨j, joinF q a b s, hj, by show (U.map (joinF q a b))[j]? = _; rw [List.getElem?_map, hj]; rfl, ?_⟩
   rcases joinF_of (q := q) p3 p4 q3 q4 (.inl (List.mem_of_getElem? h1)) with ⟨i', p', e1, e2, -, e4⟩ | ⟨_, _, _, _, e3, _⟩ | ⟨i', p', j', y, e1, e2, e3, e4, e5⟩
   ·have := same_at p4 h1 e1; subst this
    rw [h2] at e2; cases e2
    rw [e4]; exact leq_refl q oq p (p6 p (List.mem_of_getElem? h2)).1
   ·exact absurd (List.mem_of_getElem? h1) e3
   have := same_at p4 h1 e1; subst this
   rw [h2] at e2; cases e2
   rw [e5]; exact (G h2 e4).le1
  ·obtain ⟨j, hj⟩ := List.mem_iff_getElem?.1 ((hm s).2 (.inr (List.mem_of_getElem? h1)))
   refine ⟨j, joinF q a b s, hj, by show (U.map (joinF q a b))[j]? = _; rw [List.getElem?_map, hj]; rfl, ?_⟩
   rcases joinF_of (q := q) p3 p4 q3 q4 (.inr (List.mem_of_getElem? h1)) with ⟨_, _, _, _, e3, _⟩ | ⟨i', p', e1, e2, -, e4⟩ | ⟨i', p', j', y, e1, e2, e3, e4, e5⟩
   ·exact absurd (List.mem_of_getElem? h1) e3
   ·have := same_at q4 h1 e1; subst this
    rw [h2] at e2; cases e2
    rw [e4]; exact leq_refl q oq p (q6 p (List.mem_of_getElem? h2)).1
   have := same_at q4 h1 e3; subst this
   rw [h2] at e4; cases e4
   rw [e5]; exact (G e2 h2).le2
  obtain ⟨-, -, r3, r4, -, r6⟩ := el_map hc hk hp
  have l1 := (lq_map hk hp p3 r3 r4).1 h1
  have l2 := (lq_map hk hp q3 r3 r4).1 h2
  refine (lq_map hk hp jl r3 r4).2 fun i s z hs hz => ?_
  obtain ⟨rfl, hor⟩ := at_ hs hz
  rcases joinF_of (q := q) p3 p4 q3 q4 hor with ⟨i', p, e1, e2, -, e4⟩ | ⟨j', y, e1, e2, -, e4⟩ | ⟨i', p, j', y, e1, e2, e3, e4, e5⟩
  ·rw [e4]; exact l1 i' s p e1 e2
  ·rw [e4]; exact l2 j' s y e1 e2
  obtain ⟨k1, z1, g1, g2, g3⟩ := l1 i' s p e1 e2
  obtain ⟨k2, z2, g4, g5, g6⟩ := l2 j' s y e3 e4
  have := same_at r4 g1 g4; subst this
  rw [g2] at g5; cases g5
  exact ⟨k1, z1, g1, g2, by rw [e5]; exact (G e2 e4).least z1 (r6 z1 (List.mem_of_getElem? g2)).1 g3 g6⟩
 ·-- products
  obtain ⟨p1, p2, p3, p4, p5⟩ := el_prod ha (.inl hk)
  obtain ⟨q1, q2, q3, q4, q5⟩ := el_prod hb (.inl hk)
  have hE : joinV l a b = .mk 0 [] (joinZ l.ps a.ps b.ps) [] := by rw [joinV_eq, hk]; rfl
  rw [hE]
  have hlen := jz_len p4 q4
  have hat : ∀ {k : Nat} {z : Val}, (joinZ l.ps a.ps b.ps)[k]? = some z → ∃ q x y, l.ps[k]? = some q ∧ a.ps[k]? = some x ∧ b.ps[k]? = some y ∧ z = joinV q x y := fun hz => get_3 p4 q4 hz hlen (fun q x y h1 h2 h3 => jz_get h1 h2 h3)
  have G : ∀ {k : Nat} {q : Lat} {x y : Val}, l.ps[k]? = some q → a.ps[k]? = some x → b.ps[k]? = some y → Lub q x y (joinV q x y) := fun h1 h2 h3 => ih _ (List.mem_of_getElem? h1) _ _ (elemZ_get p5 h2 h1) (elemZ_get q5 h3 h1)
  refine ⟨mk_prod (.inl hk) rfl rfl rfl hlen ((elemZ_iff hlen).2 fun k z q hz hq => ?_), ?_, ?_, fun c hc h1 h2 => ?_⟩
  ·obtain ⟨q', x, y, e1, e2, e3, rfl⟩ := hat hz
   rw [hq] at e1; cases e1
   exact (G hq e2 e3).el
  ·rw [lq_prod hk]
   refine leqZ_at p4 hlen fun k q x z hq hx hz => ?_
   obtain ⟨q', x', y, e1, e2, e3, rfl⟩ := hat hz
   rw [hq] at e1; cases e1
   rw [hx] at e2; cases e2
   exact (G hq hx e3).le1
  ·rw [lq_prod hk]
   refine leqZ_at q4 hlen fun k q y z hq hy hz => ?_
   obtain ⟨q', x, y', e1, e2, e3, rfl⟩ := hat hz
   rw [hq] at e1; cases e1
   rw [hy] at e3; cases e3
   exact (G hq e2 hy).le2
  obtain ⟨-, -, -, r4, r5⟩ := el_prod hc (.inl hk)
  rw [lq_prod hk, leqZ_iff p4 r4] at h1
  rw [lq_prod hk, leqZ_iff q4 r4] at h2
  rw [lq_prod hk]
  refine leqZ_at hlen r4 fun k q z u hq hz hu => ?_
  obtain ⟨q', x, y, e1, e2, e3, rfl⟩ := hat hz
  rw [hq] at e1; cases e1
  exact (G hq e2 e3).least u (elemZ_get r5 hu hq) (h1 k q x u hq e2 hu) (h2 k q y u hq e3 hu)
 ·-- pairs
  obtain ⟨p, q, hp⟩ := shape_72 hO.shape hk
  have mq : q ∈ l.ps := by rw [hp]; simp
  obtain ⟨x1, x2, ea, u1, u2⟩ := two_of ha hk hp
  obtain ⟨y1, y2, eb, v1, v2⟩ := two_of hb hk hp
  by_cases e : x1 = y1
  ·subst e
   have hE : joinV l a b = .mk 0 [] [x1, joinV q x2 y2] [] := by rw [joinV_eq, hk, hp, ea, eb]; simp [joinX, (eqV_iff x1 x1).2 rfl]
   rw [hE]
   have G := ih q mq x2 y2 u2 v2
   have hps : (Val.mk 0 [] [x1, joinV q x2 y2] []).ps = [x1, joinV q x2 y2] := rfl
   refine ⟨mk_prod (.inr hk) rfl rfl rfl (by rw [hps, hp]; rfl) (by rw [hps, hp]; simp [elemZ, u1, G.el]), (lq_lex hk hp ea hps).2 (.inl ⟨rfl, G.le1⟩), (lq_lex hk hp eb hps).2 (.inl ⟨rfl, G.le2⟩), fun c hc h1 h2 => ?_⟩
   obtain ⟨z1, z2, ec, w1, w2⟩ := two_of hc hk hp
   refine (lq_lex hk hp hps ec).2 ?_
   rcases (lq_lex hk hp ea ec).1 h1 with ⟨e1, g1⟩ | ⟨e1, g1⟩
   ·rcases (lq_lex hk hp eb ec).1 h2 with ⟨e2, g2⟩ | ⟨e2, g2⟩
    ·exact .inl ⟨e1, G.least z2 w2 g1 g2⟩
    exact absurd e1 e2
   exact .inr ⟨e1, g1⟩
  have hx : joinX l.ps a.ps b.ps = none := by rw [hp, ea, eb, joinX, if_neg (fun h => e ((eqV_iff _ _).1 h))]
  refine tot (by omega) (by omega) (by omega) (by omega) (by omega) (fun _ => hx) ?_
  rw [lq_lex hk hp ea eb, lq_lex hk hp eb ea]
  rcases lex_total hO hk hp u1 v1 with h | h
  ·exact .inl (.inr ⟨e, h⟩)
  exact .inr (.inr ⟨fun e' => e e'.symm, h⟩)
 ·-- flat lattices
  by_cases h1 : leqB l a b = true
  ·exact tot (by omega) (by omega) (by omega) (by omega) (by omega) (fun h => by omega) (.inl h1)
  by_cases h2 : leqB l b a = true
  ·exact tot (by omega) (by omega) (by omega) (by omega) (by omega) (fun h => by omega) (.inr h2)
  have hE : joinV l a b = .mk 2 [] [] [] := by rw [joinV_else (by omega) (by omega) (by omega) (by omega) (by omega) (fun h => by omega), if_neg h1, if_neg h2]
  rw [hE]
  rw [lq_flat hk] at h1 h2
  have hz : elemB (.mk 2 [] [] []) l = true := by rw [elemB_eq, hk]; rfl
  refine ⟨hz, (lq_flat hk).2 (.inr (.inl rfl)), (lq_flat hk).2 (.inr (.inl rfl)), fun c hc g1 g2 => (lq_flat hk).2 ?_⟩
  rcases (lq_flat hk).1 g1 with g | g | g
  ·exact absurd (.inl g) h1
  ·exact .inr (.inl g)
  rcases (lq_flat hk).1 g2 with g' | g' | g'
  ·exact absurd (.inl g') h2
  ·exact .inr (.inl g')
  exact absurd (.inr (.inr (g.trans g'.symm))) h1
 ·-- registers
  obtain ⟨p1, p2, p3, p4⟩ := el_reg ha hk
  obtain ⟨q1, q2, q3, q4⟩ := el_reg hb hk
  have hE : joinV l a b = .mk 0 [] [] (mergedE a.es b.es) := by rw [joinV_eq, hk]; rfl
  rw [hE]
  have hM : RegOk (Val.mk 0 [] [] (mergedE a.es b.es)).es := merged_ok p4 q4
  refine ⟨by rw [elemB_eq, hk]; simp [used_iff, Val.N, Val.nm, Val.ps]; exact hM.regB_, (lq_reg hk p4 hM).2 (merged_left p4 q4), (lq_reg hk q4 hM).2 (merged_right p4 q4), fun c hc h1 h2 => ?_⟩
  obtain ⟨-, -, -, r4⟩ := el_reg hc hk
  refine (lq_reg hk hM r4).2 fun x hx => ?_
  rcases merged_sub p4 q4 hx with h | h
  ·exact (lq_reg hk p4 r4).1 h1 x h
  exact (lq_reg hk q4 r4).1 h2 x h
 -- closed sets
 obtain ⟨p1, p2, p3, p4, p5, p6⟩ := el_set ha (.inr hk)
 obtain ⟨q1, q2, q3, q4, q5, q6⟩ := el_set hb (.inr hk)
 have hE : joinV l a b = .mk 0 (closeV l.nm l.rs (uni a.nm b.nm)) [] [] := by rw [joinV_eq, hk]; rfl
 rw [hE]
 have sy := sys_ok hO hk
 have hm : ∀ z, z ∈ uni a.nm b.nm ↔ z ∈ a.nm ∨ z ∈ b.nm := fun z => uni_mem p4 q4
 have up : ∀ {z}, z ∈ a.nm ∨ z ∈ b.nm → z ∈ closeV l.nm l.rs (uni a.nm b.nm) := fun {z} h => by
  refine close_mem.2 ⟨?_, iter_sup _ _ ((hm z).2 h)⟩
  rcases h with h | h
  ·exact closed_mem hO hk ha z h
  exact closed_mem hO hk hb z h
 refine ⟨mk_closed hk rfl rfl rfl (close_sorted sy.s) (fun s hs => ?_) (close_closed fun r hr => (sy.r r hr).2.2), (lq_set (.inr hk)).2 fun x hx => up (.inl hx), (lq_set (.inr hk)).2 fun x hx => up (.inr hx), fun c hc h1 h2 => (lq_set (.inr hk)).2 fun x hx => ?_⟩
 ·have hu := (close_mem.1 hs).1
  simp [okName, sy.v s hu, has_iff.2 hu]
 obtain ⟨-, -, -, -, -, r6⟩ := el_set hc (.inr hk)
 refine iter_sub (r6 hk) _ _ (fun z hz => ?_) x (close_mem.1 hx).2
 rcases (hm z).1 hz with h | h
 ·exact (lq_set (.inr hk)).1 h1 z h
 exact (lq_set (.inr hk)).1 h2 z h
theorem join_lub (l : Lat) (hO : OkL l) (a b : Val) (ha : elemB a l = true) (hb : elemB b l = true) : Lub l a b (joinV l a b) := join_lub_s l hO (fun q hq x y hx hy => join_lub q (hO.part q hq) x y hx hy) a b ha hb
termination_by l
decreasing_by exact Lat.sizeOf_ps ‹_›
end Go.Proofs.YtaecccdkjmipeaaGreat

namespace Go.Proofs.YtaecccdkjmipeaaGreat
open Go.RowKit

section
variable {l : Lat} {a b c : Val}
theorem join_of_leq (hO : OkL l) (ha : elemB a l = true) (hb : elemB b l = true) (h : leqB l a b = true) : joinV l a b = b := by
 have L := join_lub l hO a b ha hb
 exact leq_anti l hO _ _ L.el hb (L.least b hb h (leq_refl l hO b hb)) L.le2
theorem join_bot (hO : OkL l) (ha : elemB a l = true) : joinV l (bottomV l) a = a := join_of_leq hO (bot_elem l hO) ha (bot_least l hO a ha)
end

/-! ### how large -/
theorem sm_join_s {n m : Nat} (hnm : 64 ≤ n + m) (l : Lat) (hO : OkL l) (ih : ∀ q ∈ l.ps, ∀ x y, elemB x q = true → elemB y q = true → SmV n x → SmV m y → SmV (n + m) (joinV q x y)) (a b : Val) (ha : elemB a l = true) (hb : elemB b l = true) (sa : SmV n a) (sb : SmV m b) : SmV (n + m) (joinV l a b) := by
 have na := sa.nm
 have nb := sb.nm
 have nil : ∀ {N : Int} {u : List Nm}, u.length ≤ n + m → SmV (n + m) (.mk N u [] []) := fun {N u} h => .mk _ h (Nat.zero_le _) (Nat.zero_le _) (by intro e he; cases he) (by intro e he; cases he)
 have els : ∀ {v : Val}, v = a ∨ v = b ∨ v = .mk 2 [] [] [] → SmV (n + m) v := fun h => by
  rcases h with h | h | h
  ·exact h ▸ sa.up (by omega)
  ·exact h ▸ sb.up (by omega)
  rw [h]; exact nil (Nat.zero_le _)
 have tot : l.k ≠ 4 → l.k ≠ 10 → l.k ≠ 9 → l.k ≠ 5 → l.k ≠ 6 → (l.k = 7 → joinX l.ps a.ps b.ps = none) → SmV (n + m) (joinV l a b) := fun h4 h10 h9 h5 h6 hx => by
  rw [joinV_else h4 h10 h9 h5 h6 hx]
  split
  ·exact els (.inr (.inl rfl))
  split
  ·exact els (.inl rfl)
  exact els (.inr (.inr rfl))
 rcases kinds hO with hk | hk | hk | hk | hk | hk | hk | hk | hk | hk
 ·exact tot (by omega) (by omega) (by omega) (by omega) (by omega) (fun h => by omega)
 ·exact tot (by omega) (by omega) (by omega) (by omega) (by omega) (fun h => by omega)
 ·exact tot (by omega) (by omega) (by omega) (by omega) (by omega) (fun h => by omega)
 ·obtain ⟨-, -, -, p4, -, -⟩ := el_set ha (.inl hk)
  obtain ⟨-, -, -, q4, -, -⟩ := el_set hb (.inl hk)
  have hE : joinV l a b = .mk 0 (uni a.nm b.nm) [] [] := by rw [joinV_eq, hk]; rfl
  have := uni_len p4 q4
  rw [hE]; exact nil (by omega)
 ·obtain ⟨q, hp⟩ := shape_56 hO hk
  have mq : q ∈ l.ps := by rw [hp]; simp
  obtain ⟨-, -, p3, p4, -, p6⟩ := el_map ha hk hp
  obtain ⟨-, -, q3, q4, -, q6⟩ := el_map hb hk hp
  have hE : joinV l a b = .mk 0 (uni a.nm b.nm) ((uni a.nm b.nm).map (joinF q a b)) [] := by rw [joinV_eq, hk, hp, joinM_map]; rfl
  have hl := uni_len p4 q4
  rw [hE]
  refine .mk _ (show (uni a.nm b.nm).length ≤ n + m by omega) (show ((uni a.nm b.nm).map (joinF q a b)).length ≤ n + m by rw [List.length_map]; omega) (Nat.zero_le _) (by intro e he; cases he) (fun z hz => ?_)
  obtain ⟨s, hs, rfl⟩ := List.mem_map.1 (show z ∈ (uni a.nm b.nm).map (joinF q a b) from hz)
  rcases joinF_of (q := q) p3 p4 q3 q4 ((uni_mem p4 q4).1 hs) with ⟨i, p, e1, e2, -, e4⟩ | ⟨j, y, e1, e2, -, e4⟩ | ⟨i, p, j, y, e1, e2, e3, e4, e5⟩
  ·rw [e4]; exact (sa.part p (List.mem_of_getElem? e2)).up (by omega)
  ·rw [e4]; exact (sb.part y (List.mem_of_getElem? e2)).up (by omega)
  have m1 := List.mem_of_getElem? e2
  have m2 := List.mem_of_getElem? e4
  rw [e5]; exact ih q mq p y (p6 p m1).1 (q6 y m2).1 (sa.part p m1) (sb.part y m2)
 ·obtain ⟨-, -, -, p4, p5⟩ := el_prod ha (.inl hk)
  obtain ⟨-, -, -, q4, q5⟩ := el_prod hb (.inl hk)
  have hE : joinV l a b = .mk 0 [] (joinZ l.ps a.ps b.ps) [] := by rw [joinV_eq, hk]; rfl
  have hlen := jz_len p4 q4
  have := hO.small
  rw [hE]
  refine .mk _ (Nat.zero_le _) (show (joinZ l.ps a.ps b.ps).length ≤ n + m by omega) (Nat.zero_le _) (by intro e he; cases he) (fun z hz => ?_)
  obtain ⟨k, hk'⟩ := List.mem_iff_getElem?.1 (show z ∈ joinZ l.ps a.ps b.ps from hz)
  obtain ⟨q, x, y, e1, e2, e3, rfl⟩ := get_3 p4 q4 hk' hlen (fun q x y h1 h2 h3 => jz_get h1 h2 h3)
  exact ih q (List.mem_of_getElem? e1) x y (elemZ_get p5 e2 e1) (elemZ_get q5 e3 e1) (sa.part x (List.mem_of_getElem? e2)) (sb.part y (List.mem_of_getElem? e3))
 ·obtain ⟨p, q, hp⟩ := shape_72 hO.shape hk
  have mq : q ∈ l.ps := by rw [hp]; simp
  obtain ⟨x1, x2, ea, u1, u2⟩ := two_of ha hk hp
  obtain ⟨y1, y2, eb, v1, v2⟩ := two_of hb hk hp
  by_cases e : x1 = y1
  ·subst e
   have hE : joinV l a b = .mk 0 [] [x1, joinV q x2 y2] [] := by rw [joinV_eq, hk, hp, ea, eb]; simp [joinX, (eqV_iff x1 x1).2 rfl]
   rw [hE]
   refine .mk _ (Nat.zero_le _) (show 2 ≤ n + m by omega) (Nat.zero_le _) (by intro e he; cases he) (fun z hz => ?_)
   have hz : z ∈ [x1, joinV q x2 y2] := hz
   rcases List.mem_cons.1 hz with rfl | hz
   ·exact (sa.part z (by rw [ea]; simp)).up (by omega)
   rcases List.mem_cons.1 hz with rfl | hz
   ·exact ih q mq x2 y2 u2 v2 (sa.part x2 (by rw [ea]; simp)) (sb.part y2 (by rw [eb]; simp))
   cases hz
  have hx : joinX l.ps a.ps b.ps = none := by rw [hp, ea, eb, joinX, if_neg (fun h => e ((eqV_iff _ _).1 h))]
  exact tot (by omega) (by omega) (by omega) (by omega) (by omega) (fun _ => hx)
 ·exact tot (by omega) (by omega) (by omega) (by omega) (by omega) (fun h => by omega)
 ·obtain ⟨-, -, -, p4⟩ := el_reg ha hk
  obtain ⟨-, -, -, q4⟩ := el_reg hb hk
  have hE : joinV l a b = .mk 0 [] [] (mergedE a.es b.es) := by rw [joinV_eq, hk]; rfl
  have h1 := sa.es
  have h2 := sb.es
  have hl : (mergedE a.es b.es).length ≤ n + m := by
   unfold mergedE
   rw [List.length_mergeSort, List.length_append]
   have := List.length_filter_le (keepB b.es) a.es
   have := List.length_filter_le (keepA a.es) b.es
   omega
  rw [hE]
  refine .mk _ (Nat.zero_le _) (Nat.zero_le _) hl (fun e he => ?_) (by intro e he; cases he)
  rcases merged_sub p4 q4 (show e ∈ mergedE a.es b.es from he) with h | h
  ·exact sa.en e h
  exact sb.en e h
 have sy := sys_ok hO hk
 have hE : joinV l a b = .mk 0 (closeV l.nm l.rs (uni a.nm b.nm)) [] [] := by rw [joinV_eq, hk]; rfl
 obtain ⟨-, -, -, p4, -, -⟩ := el_set ha (.inr hk)
 obtain ⟨-, -, -, q4, -, -⟩ := el_set hb (.inr hk)
 have h := hO.four.1
 have hl : l.nm.length ≤ 64 := by
  unfold limitsX whenE at h
  rw [hk, show mostN 10 = 12 from rfl] at h
  by_cases hg : (l.nm.length : Int) > 12
  ·simp [hg] at h
  omega
 have := List.length_filter_le (hasB (iterC l.rs l.rs.length (uni a.nm b.nm))) l.nm
 rw [hE]; exact nil (by show (l.nm.filter _).length ≤ _; omega)
theorem sm_join {n m : Nat} (hnm : 64 ≤ n + m) (l : Lat) (hO : OkL l) (a b : Val) (ha : elemB a l = true) (hb : elemB b l = true) (sa : SmV n a) (sb : SmV m b) : SmV (n + m) (joinV l a b) := sm_join_s hnm l hO (fun q hq x y hx hy sx sy => sm_join hnm q (hO.part q hq) x y hx hy sx sy) a b ha hb sa sb
termination_by l
decreasing_by exact Lat.sizeOf_ps ‹_›
theorem sm_bot (l : Lat) (hO : OkL l) : SmV 64 (bottomV l) := by
 have h := hO.small
 refine .mk _ (by rw [bot_nm]; exact Nat.zero_le _) ?_ (by rw [bot_es]; exact Nat.zero_le _) (by rw [bot_es]; intro e he; cases he) (fun p hp => ?_)
 ·rw [bot_ps]; split <;> simp <;> omega
 rw [bot_ps] at hp
 split at hp
 ·obtain ⟨q, hq, rfl⟩ := List.mem_map.1 hp
  exact sm_bot q (hO.part q hq)
 cases hp
termination_by l
decreasing_by exact Lat.sizeOf_ps ‹_›

/-! ### the join of a list -/
theorem fold_step {l : Lat} (hO : OkL l) {vs : List Val} (h : ∀ v ∈ vs, elemB v l = true ∧ SmV 1000 v) : ∀ k, k ≤ vs.length → elemB (foldJ l (vs.take k)) l = true ∧ SmV (64 + 1000 * k) (foldJ l (vs.take k))
 | 0, _ => ⟨bot_elem l hO, sm_bot l hO⟩
 | k + 1, hk => by
  obtain ⟨x, hx⟩ := get_lt (show k < vs.length by omega)
  obtain ⟨h1, h2⟩ := fold_step hO h k (by omega)
  obtain ⟨h3, h4⟩ := h x (List.mem_of_getElem? hx)
  rw [foldJ_succ hx]
  exact ⟨(join_lub l hO _ x h1 h3).el, (sm_join (by omega) l hO _ x h1 h3 h2 h4).up (by omega)⟩
theorem fold_ok {l : Lat} (hO : OkL l) {vs : List Val} (h : ∀ v ∈ vs, elemB v l = true ∧ SmV 1000 v) (hl : vs.length ≤ 100) : FoldOk l vs :=
 ⟨JoL.of l hO, fun v hv => (h v hv).2.up (by omega), fun k hk => ⟨(fold_step hO h k hk).1, (fold_step hO h k hk).2.up (by omega)⟩⟩
theorem fold_two {l : Lat} (hO : OkL l) {a b : Val} (ha : elemB a l = true) : foldJ l [a, b] = joinV l a b := by
 show joinV l (joinV l (bottomV l) a) b = _
 rw [join_bot hO ha]
end Go.Proofs.YtaecccdkjmipeaaGreat
