/-
  Contracts: registers, meets.
-/
import Derived.Test.YtnkkokmmeplbgaaGreatB18
import Derived.Test.YtnkkokmmeplbgaaGreatB20
import Derived.Test.YtnkkokmmeplbgaaGreatB14
namespace Go.Proofs.YtnkkokmmeplbgaaGreat
open Go.RowKit
theorem QmU {l : Qv} (hO : YM l) (hk : l.k = 10) : QdM l.nm l.rs := by
 obtain ⟨h1, h2, h3⟩ := Qgv hO
 have h := hO.four.1
 unfold JK Yb at h
 rw [hk, show Ky 10 = 12 from rfl] at h
 have hl : (decide ((l.nm.length : Int) > 12) || decide ((l.rs.length : Int) > 32)) = false := by
  cases hb : (decide ((l.nm.length : Int) > 12) || decide ((l.rs.length : Int) > 32))
  ·rfl
  rw [hb] at h; cases h
 simp only [Bool.or_eq_false_iff, decide_eq_false_iff_not] at hl
 exact ⟨h2 (by omega), h1, by omega, by omega, h3⟩
theorem JoL.of (l : Qv) (hO : YM l) : JoL l := .mk l (fun hk s h1 h2 => Qkj l.nm l.rs (QmU hO hk) s h1 h2) (fun p hp => JoL.of p (hO.part p hp))
termination_by l
decreasing_by exact Qv.sizeOf_ps ‹_›
section
variable {rs : List Ru} {s t c : List Nm}
theorem QqZ {x : Nm} (h : x ∈ s) : x ∈ WO rs s := by
 unfold WO
 split
 ·exact List.mem_append_left _ h
 exact h
theorem Qlv : ∀ (n : Nat) (s : List Nm) {x : Nm}, x ∈ s → x ∈ Yk rs n s
 | 0, _, _, h => h
 | n + 1, s, _, h => Qlv n (WO rs s) (QqZ h)
theorem QqL (hc : WS rs c = true) (h : ∀ x ∈ s, x ∈ c) : ∀ x ∈ WO rs s, x ∈ c := by
 unfold WO
 split
 ·rename_i r hr
  have h1 := List.find?_some hr
  simp only [Bool.and_eq_true] at h1
  have h2 := List.all_eq_true.1 hc r (List.mem_of_find?_eq_some hr)
  simp only [WB, Bool.not_eq_true', Bool.and_eq_false_iff, Bool.not_eq_false'] at h2
  have h3 : J6 r.i c = true := Ka.2 fun x hx => h x (Ka.1 h1.1 x hx)
  rw [h3] at h2
  have h4 := Yn.1 (h2.resolve_left (by decide))
  intro x hx
  rcases List.mem_append.1 hx with hx | hx
  ·exact h x hx
  rw [List.mem_singleton.1 hx]; exact h4
 exact h
theorem Qlx (hc : WS rs c = true) : ∀ (n : Nat) (s : List Nm), (∀ x ∈ s, x ∈ c) → ∀ x ∈ Yk rs n s, x ∈ c
 | 0, _, h => h
 | n + 1, s, h => Qlx hc n (WO rs s) (QqL hc h)
theorem Qpe : Kl (X2 (Yk rs rs.length s)) rs 0 = none := by
 cases hf : Kl (X2 (Yk rs rs.length s)) rs 0 with
 | none => rfl
 | some p =>
  obtain ⟨h1, h2⟩ := Y0 _ rs 0 (j := p.1) (r := p.2) hf
  have key : ∀ (n : Nat) (t : List Nm), QbM rs t ≤ n → QbM rs (Yk rs n t) = 0 ∨ Kl (X2 (Yk rs n t)) rs 0 = none := by
   intro n
   induction n with
   | zero => intro t h; exact .inl (by simp only [Yk]; omega)
   | succ n ih =>
    intro t h
    cases hf : Kl (X2 t) rs 0 with
    | none => right; rw [K2 (Qan hf)]; exact hf
    | some p =>
     obtain ⟨h1, h2⟩ := Y0 _ rs 0 (j := p.1) (r := p.2) hf
     have h3 : WO rs t = t ++ [p.2.t] := by rw [QeL, hf]
     have h4 := Kv h2 h1
     show QbM rs (Yk rs n (WO rs t)) = 0 ∨ Kl (X2 (Yk rs n (WO rs t))) rs 0 = none
     rw [h3];exact ih _ (by omega)
  rcases key rs.length s Qe0 with h | h
  ·have := Kv h2 h1; omega
  rw [hf] at h; cases h
end
theorem QbS {u : List Nm} {rs : List Ru} {s : List Nm} {x : Nm} : x ∈ KG u rs s ↔ x ∈ u ∧ x ∈ Yk rs rs.length s := by
 unfold KG
 rw [List.mem_filter, Yn]
theorem Qjc {u : List Nm} {rs : List Ru} {s : List Nm} (h : Qt u = true) : Qt (KG u rs s) = true := W1 ((XU h).filter _)
theorem Qjz {u : List Nm} {rs : List Ru} {s : List Nm} (h : ∀ r ∈ rs, r.t ∈ u) : WS rs (KG u rs s) = true := by
 unfold WS
 rw [List.all_eq_true];intro r hr
 have h1 := Qrq (Qpe (rs := rs) (s := s)) r hr
 simp only [WB, Bool.not_eq_true', Bool.and_eq_false_iff, Bool.not_eq_false']
 cases hs : J6 r.i (KG u rs s)
 ·exact .inl rfl
 ·right
  have h2 : J6 r.i (Yk rs rs.length s) = true := Ka.2 fun x hx => (QbS.1 (Ka.1 hs x hx)).2
  rw [X2, h2] at h1
  have h3 : X6 (Yk rs rs.length s) r.t = true := by simpa using h1
  exact Yn.2 (QbS.2 ⟨h r hr, Yn.1 h3⟩)
section
variable {a b : List En}
theorem KA (ha : J0 a) (hb : J0 b) {x : En} : x ∈ JE a b ↔ (x ∈ a ∧ ¬ ∃ y ∈ b, leE x y) ∨ (x ∈ b ∧ ¬ ∃ y ∈ a, ltE x y) := by
 unfold JE
 rw [List.mem_mergeSort, List.mem_append, List.mem_filter, List.mem_filter];refine or_congr (and_congr_right fun hx => ?_) (and_congr_right fun hx => ?_)
 ·rw [← Qbq (ha.valid x hx) hb.valid, QaR]; simp
 unfold QbT
 rw [Bool.not_eq_true', List.any_eq_false]
 constructor
 ·rintro h ⟨y, hy, hl⟩
  exact h y hy ((Qir (hb.valid x hx) (ha.valid y hy)).2 hl)
 intro h y hy hl;exact h ⟨y, hy, (Qir (hb.valid x hx) (ha.valid y hy)).1 hl⟩
theorem Qee (ha : J0 a) (hb : J0 b) {x : En} (h : x ∈ JE a b) : x ∈ a ∨ x ∈ b := by
 rcases (KA ha hb).1 h with h | h
 ·exact .inl h.1
 exact .inr h.1
theorem QiA (ha : J0 a) (hb : J0 b) : J0 (JE a b) := by
 have each : ∀ {P : En → Prop}, (∀ x ∈ a, P x) → (∀ x ∈ b, P x) → ∀ x ∈ JE a b, P x := fun h1 h2 x hx => by
  rcases Qee ha hb hx with h | h
  ·exact h1 x h
  exact h2 x h
 refine ⟨each ha.valid hb.valid, each ha.ne hb.ne, each ha.name hb.name, ?_, fun x hx y hy hl => ?_⟩
 ·have hn : (JE a b).Nodup := by
   unfold JE
   rw [(List.mergeSort_perm _ _).nodup_iff, List.nodup_append];refine ⟨ha.nodup.filter _, hb.nodup.filter _, fun x hx y hy e => ?_⟩
   subst e
   obtain ⟨h1, h2⟩ := List.mem_filter.1 hx
   have h3 := (List.mem_filter.1 hy).1
   have : J1 b x = true := (Qbq (ha.valid x h1) hb.valid).2 ⟨x, h3, Qet x⟩
   simp [QaR, this] at h2
  have hs : (JE a b).Pairwise (fun x y => Qd3 x y = true) := List.pairwise_mergeSort (fun x y z h1 h2 => by
    simp only [Qd3, decide_eq_true_eq] at *
    exact Jo.trans _ _ _ h1 h2) (fun x y => by
    have := Jo.anti x y
    simp only [Qd3, Bool.or_eq_true, decide_eq_true_eq]
    omega) _
  refine (hs.and hn).imp fun {x y} h => ?_
  have h1 : Jh x y ≤ 0 := of_decide_eq_true h.1
  have h2 : Jh x y ≠ 0 := fun e => h.2 (Jo.eq x y e)
  omega
 rcases (KA ha hb).1 hx with h1 | h1 <;> rcases (KA ha hb).1 hy with h2 | h2
 ·exact ha.anti x h1.1 y h2.1 hl
 ·exact h1.2 ⟨y, h2.1, .inl hl⟩
 ·exact h1.2 ⟨y, h2.1, hl⟩
 exact hb.anti x h1.1 y h2.1 hl
theorem QkV (ha : J0 a) (hb : J0 b) : ∀ x ∈ a, ∃ y ∈ JE a b, leE x y := fun x hx => by
 by_cases h : ∃ y ∈ b, leE x y
 ·obtain ⟨y, hy, hl⟩ := h
  refine ⟨y, (KA ha hb).2 (.inr ⟨hy, fun ⟨z, hz, hlt⟩ => ?_⟩), hl⟩;exact ha.anti x hx z hz (Qtv hl hlt)
 exact ⟨x, (KA ha hb).2 (.inl ⟨hx, h⟩), Qet x⟩
theorem Qi6 (ha : J0 a) (hb : J0 b) : ∀ x ∈ b, ∃ y ∈ JE a b, leE x y := fun x hx => by
 by_cases h : ∃ y ∈ a, ltE x y
 ·obtain ⟨y, hy, hl⟩ := h
  refine ⟨y, (KA ha hb).2 (.inl ⟨hy, fun ⟨z, hz, hle⟩ => ?_⟩), .inl hl⟩;exact hb.anti x hx z hz (QtK hl hle)
 exact ⟨x, (KA ha hb).2 (.inr ⟨hx, h⟩), Qet x⟩
end
structure Lub (l : Qv) (a b j : Qp) : Prop where
 el : Qw j l = true
 le1 : QJ l a j = true
 le2 : QJ l b j = true
 least : ∀ c, Qw c l = true → QJ l a c = true → QJ l b c = true → QJ l j c = true
theorem Qro {l : Qv} (hO : YM l) {a b : Qp} (ha : Qw a l = true) (h : QJ l b a = true) : Lub l a b a := ⟨ha, QaD l hO a ha, h, fun _ _ h1 _ => h1⟩
theorem QoN {l : Qv} (hO : YM l) {a b : Qp} (hb : Qw b l = true) (h : QJ l a b = true) : Lub l a b b := ⟨hb, h, QaD l hO b hb, fun _ _ _ h2 => h2⟩
theorem Qc8 {q : Qv} {a b : Qp} (p3 : a.nm.length = a.ps.length) (p4 : Qt a.nm = true) (q3 : b.nm.length = b.ps.length) (q4 : Qt b.nm = true) {s : Nm} (h : s ∈ a.nm ∨ s ∈ b.nm) :
  (∃ (i : Nat) (p : Qp), a.nm[i]? = some s ∧ a.ps[i]? = some p ∧ s ∉ b.nm ∧ Yc q a b s = p) ∨ (∃ (j : Nat) (y : Qp), b.nm[j]? = some s ∧ b.ps[j]? = some y ∧ s ∉ a.nm ∧ Yc q a b s = y) ∨
  ∃ (i : Nat) (p : Qp) (j : Nat) (y : Qp), a.nm[i]? = some s ∧ a.ps[i]? = some p ∧ b.nm[j]? = some s ∧ b.ps[j]? = some y ∧ Yc q a b s = Qk q p y := by
 have at_ : ∀ {v : Qp}, v.nm.length = v.ps.length → Qt v.nm = true → s ∈ v.nm → ∃ (i : Nat) (p : Qp), v.nm[i]? = some s ∧ v.ps[i]? = some p ∧ XB v s = some p := fun {v} h1 h2 h3 => by
  obtain ⟨i, hi⟩ := List.mem_iff_getElem?.1 h3;obtain ⟨p, hp⟩ := Qq (show i < v.ps.length by have := (List.getElem?_eq_some_iff.1 hi).1; omega);exact ⟨i, p, hi, hp, by rw [Qa0 h2 hi, hp]⟩
 by_cases m1 : s ∈ a.nm <;> by_cases m2 : s ∈ b.nm
 ·obtain ⟨i, p, e1, e2, e3⟩ := at_ p3 p4 m1
  obtain ⟨j, y, f1, f2, f3⟩ := at_ q3 q4 m2;exact .inr (.inr ⟨i, p, j, y, e1, e2, f1, f2, Qwi e3 f3⟩)
 ·obtain ⟨i, p, e1, e2, e3⟩ := at_ p3 p4 m1
  exact .inl ⟨i, p, e1, e2, m2, Qv9 e3 (Wo m2)⟩
 ·obtain ⟨j, y, f1, f2, f3⟩ := at_ q3 q4 m2
  exact .inr (.inl ⟨j, y, f1, f2, m1, QvR (Wo m1) f3⟩)
 rcases h with h | h
 ·exact absurd h m1
 exact absurd h m2
theorem Qem {l : List Nm} (h : Qt l = true) {i j : Nat} {s : Nm} (hi : l[i]? = some s) (hj : l[j]? = some s) : i = j := QhB (Qb2 h) hi hj
theorem Qmr (l : Qv) (hO : YM l) (ih : ∀ q ∈ l.ps, ∀ x y, Qw x q = true → Qw y q = true → Lub q x y (Qk q x y)) (a b : Qp) (ha : Qw a l = true) (hb : Qw b l = true) : Lub l a b (Qk l a b) := by
 have tot : l.k ≠ 4 → l.k ≠ 10 → l.k ≠ 9 → l.k ≠ 5 → l.k ≠ 6 → (l.k = 7 → Qaa l.ps a.ps b.ps = none) → QJ l a b = true ∨ QJ l b a = true → Lub l a b (Qk l a b) := fun h4 h10 h9 h5 h6 hx h => by
  rw [YK h4 h10 h9 h5 h6 hx]
  by_cases h1 : QJ l a b = true
  ·rw [if_pos h1]; exact QoN hO hb h1
  rw [if_neg h1]
  have h2 := h.resolve_left h1
  rw [if_pos h2]; exact Qro hO ha h2
 rcases QdR hO with hk | hk | hk | hk | hk | hk | hk | hk | hk | hk
 ·exact tot (by omega) (by omega) (by omega) (by omega) (by omega) (fun h => by omega) (by rw [Yg (.inl hk), Yg (.inl hk)]; omega)
 ·exact tot (by omega) (by omega) (by omega) (by omega) (by omega) (fun h => by omega) (by rw [Yg (.inr hk), Yg (.inr hk)]; omega)
 ·exact tot (by omega) (by omega) (by omega) (by omega) (by omega) (fun h => by omega) (by rw [Qad hk, Qad hk]; omega)
 ·-- sets
  obtain ⟨p1, p2, p3, p4, p5, p6⟩ := Ks ha (.inl hk);obtain ⟨q1, q2, q3, q4, q5, q6⟩ := Ks hb (.inl hk)
  have hE : Qk l a b = .mk 0 (K6 a.nm b.nm) [] [] := by rw [X9, hk]; rfl
  rw [hE]
  have hm : ∀ z, z ∈ K6 a.nm b.nm ↔ z ∈ a.nm ∨ z ∈ b.nm := fun z => WZ p4 q4
  refine ⟨QpR hk rfl rfl rfl (Qag p4 q4) fun s hs => ?_, (Ki (.inl hk)).2 fun x hx => (hm x).2 (.inl hx), (Ki (.inl hk)).2 fun x hx => (hm x).2 (.inr hx), fun c _ h1 h2 => (Ki (.inl hk)).2 fun x hx => ?_⟩
  ·rcases (hm s).1 hs with h | h
   ·exact p5 s h
   exact q5 s h
  rcases (hm x).1 hx with h | h
  ·exact (Ki (.inl hk)).1 h1 x h
  exact (Ki (.inl hk)).1 h2 x h
 ·-- maps
  obtain ⟨q, hp⟩ := Qax hO hk
  have mq : q ∈ l.ps := by rw [hp]; simp
  obtain ⟨p1, p2, p3, p4, p5, p6⟩ := Kc ha hk hp;obtain ⟨q1, q2, q3, q4, q5, q6⟩ := Kc hb hk hp
  obtain ⟨U, hU⟩ : ∃ U, U = K6 a.nm b.nm := ⟨_, rfl⟩
  have hE : Qk l a b = .mk 0 U (U.map (Yc q a b)) [] := by rw [X9, hk, hp, QdF, hU]; rfl
  rw [hE]
  have hm : ∀ z, z ∈ U ↔ z ∈ a.nm ∨ z ∈ b.nm := fun z => by rw [hU]; exact WZ p4 q4
  have hs : Qt U = true := by rw [hU]; exact Qag p4 q4
  have hlen : U.length = (U.map (Yc q a b)).length := by simp
  have oq := hO.part q mq
  have G : ∀ {i j : Nat} {x y : Qp}, a.ps[i]? = some x → b.ps[j]? = some y → Lub q x y (Qk q x y) := fun h1 h2 => ih q mq _ _ (p6 _ (List.mem_of_getElem? h1)).1 (q6 _ (List.mem_of_getElem? h2)).1
  have at_ : ∀ {i : Nat} {s : Nm} {z : Qp}, U[i]? = some s → (U.map (Yc q a b))[i]? = some z → z = Yc q a b s ∧ (s ∈ a.nm ∨ s ∈ b.nm) := fun h1 h2 => by
   rw [List.getElem?_map, h1] at h2
   cases h2
   exact ⟨rfl, (hm _).1 (List.mem_of_getElem? h1)⟩
  have jl : (Qp.mk 0 U (U.map (Yc q a b)) []).nm.length = (Qp.mk 0 U (U.map (Yc q a b)) []).ps.length := hlen
  refine ⟨Qqu hk hp rfl rfl hlen hs (fun s hs => ?_) (fun z hz => ?_), (QaK hk hp p3 jl hs).2 fun i s p h1 h2 => ?_, (QaK hk hp q3 jl hs).2 fun i s p h1 h2 => ?_, fun c hc h1 h2 => ?_⟩
  ·rcases (hm s).1 hs with h | h
   ·exact p5 s h
   exact q5 s h
  ·have hz : z ∈ U.map (Yc q a b) := hz
   obtain ⟨s, hsU, rfl⟩ := List.mem_map.1 hz
   rcases Qc8 (q := q) p3 p4 q3 q4 ((hm s).1 hsU) with ⟨i, p, e1, e2, -, e4⟩ | ⟨j, y, e1, e2, -, e4⟩ | ⟨i, p, j, y, e1, e2, e3, e4, e5⟩
   ·rw [e4]; exact p6 p (List.mem_of_getElem? e2)
   ·rw [e4]; exact q6 y (List.mem_of_getElem? e2)
   rw [e5]
   have L := G e2 e4
   refine ⟨L.el, fun e => ?_⟩
   have hpm := p6 p (List.mem_of_getElem? e2)
   exact hpm.2 (Qaw q oq p _ hpm.1 (Qbe q oq) (by rw [← e]; exact L.le1) (Ww q oq p hpm.1))
  ·obtain ⟨j, hj⟩ := List.mem_iff_getElem?.1 ((hm s).2 (.inl (List.mem_of_getElem? h1)))
   refine ⟨j, Yc q a b s, hj, by show (U.map (Yc q a b))[j]? = _; rw [List.getElem?_map, hj]; rfl, ?_⟩
   rcases Qc8 (q := q) p3 p4 q3 q4 (.inl (List.mem_of_getElem? h1)) with ⟨i', p', e1, e2, -, e4⟩ | ⟨_, _, _, _, e3, _⟩ | ⟨i', p', j', y, e1, e2, e3, e4, e5⟩
   ·have := Qem p4 h1 e1; subst this
    rw [h2] at e2; cases e2
    rw [e4]; exact QaD q oq p (p6 p (List.mem_of_getElem? h2)).1
   ·exact absurd (List.mem_of_getElem? h1) e3
   have := Qem p4 h1 e1; subst this
   rw [h2] at e2; cases e2
   rw [e5]; exact (G h2 e4).le1
  ·obtain ⟨j, hj⟩ := List.mem_iff_getElem?.1 ((hm s).2 (.inr (List.mem_of_getElem? h1)))
   refine ⟨j, Yc q a b s, hj, by show (U.map (Yc q a b))[j]? = _; rw [List.getElem?_map, hj]; rfl, ?_⟩
   rcases Qc8 (q := q) p3 p4 q3 q4 (.inr (List.mem_of_getElem? h1)) with ⟨_, _, _, _, e3, _⟩ | ⟨i', p', e1, e2, -, e4⟩ | ⟨i', p', j', y, e1, e2, e3, e4, e5⟩
   ·exact absurd (List.mem_of_getElem? h1) e3
   ·have := Qem q4 h1 e1; subst this
    rw [h2] at e2; cases e2
    rw [e4]; exact QaD q oq p (q6 p (List.mem_of_getElem? h2)).1
   have := Qem q4 h1 e3; subst this
   rw [h2] at e4; cases e4
   rw [e5]; exact (G e2 h2).le2
  obtain ⟨-, -, r3, r4, -, r6⟩ := Kc hc hk hp
  have l1 := (QaK hk hp p3 r3 r4).1 h1
  have l2 := (QaK hk hp q3 r3 r4).1 h2
  refine (QaK hk hp jl r3 r4).2 fun i s z hs hz => ?_
  obtain ⟨rfl, hor⟩ := at_ hs hz
  rcases Qc8 (q := q) p3 p4 q3 q4 hor with ⟨i', p, e1, e2, -, e4⟩ | ⟨j', y, e1, e2, -, e4⟩ | ⟨i', p, j', y, e1, e2, e3, e4, e5⟩
  ·rw [e4]; exact l1 i' s p e1 e2
  ·rw [e4]; exact l2 j' s y e1 e2
  obtain ⟨k1, z1, g1, g2, g3⟩ := l1 i' s p e1 e2;obtain ⟨k2, z2, g4, g5, g6⟩ := l2 j' s y e3 e4
  have := Qem r4 g1 g4; subst this
  rw [g2] at g5; cases g5
  exact ⟨k1, z1, g1, g2, by rw [e5]; exact (G e2 e4).least z1 (r6 z1 (List.mem_of_getElem? g2)).1 g3 g6⟩
 ·-- products
  obtain ⟨p1, p2, p3, p4, p5⟩ := Ye ha (.inl hk);obtain ⟨q1, q2, q3, q4, q5⟩ := Ye hb (.inl hk)
  have hE : Qk l a b = .mk 0 [] (Qac l.ps a.ps b.ps) [] := by rw [X9, hk]; rfl
  rw [hE]
  have hlen := QgA p4 q4
  have hat : ∀ {k : Nat} {z : Qp}, (Qac l.ps a.ps b.ps)[k]? = some z → ∃ q x y, l.ps[k]? = some q ∧ a.ps[k]? = some x ∧ b.ps[k]? = some y ∧ z = Qk q x y := fun hz => Quk p4 q4 hz hlen (fun q x y h1 h2 h3 => Qhn h1 h2 h3)
  have G : ∀ {k : Nat} {q : Qv} {x y : Qp}, l.ps[k]? = some q → a.ps[k]? = some x → b.ps[k]? = some y → Lub q x y (Qk q x y) := fun h1 h2 h3 => ih _ (List.mem_of_getElem? h1) _ _ (Jd p5 h2 h1) (Jd q5 h3 h1)
  refine ⟨Qgs (.inl hk) rfl rfl rfl hlen ((Qdy hlen).2 fun k z q hz hq => ?_), ?_, ?_, fun c hc h1 h2 => ?_⟩
  ·obtain ⟨q', x, y, e1, e2, e3, rfl⟩ := hat hz
   rw [hq] at e1; cases e1
   exact (G hq e2 e3).el
  ·rw [Wh hk]
   refine QjM p4 hlen fun k q x z hq hx hz => ?_
   obtain ⟨q', x', y, e1, e2, e3, rfl⟩ := hat hz
   rw [hq] at e1; cases e1
   rw [hx] at e2; cases e2
   exact (G hq hx e3).le1
  ·rw [Wh hk]
   refine QjM q4 hlen fun k q y z hq hy hz => ?_
   obtain ⟨q', x, y', e1, e2, e3, rfl⟩ := hat hz
   rw [hq] at e1; cases e1
   rw [hy] at e3; cases e3
   exact (G hq e2 hy).le2
  obtain ⟨-, -, -, r4, r5⟩ := Ye hc (.inl hk);rw [Wh hk, KF p4 r4] at h1;rw [Wh hk, KF q4 r4] at h2;rw [Wh hk]
  refine QjM hlen r4 fun k q z u hq hz hu => ?_
  obtain ⟨q', x, y, e1, e2, e3, rfl⟩ := hat hz
  rw [hq] at e1; cases e1
  exact (G hq e2 e3).least u (Jd r5 hu hq) (h1 k q x u hq e2 hu) (h2 k q y u hq e3 hu)
 ·-- pairs
  obtain ⟨p, q, hp⟩ := KI hO.shape hk
  have mq : q ∈ l.ps := by rw [hp]; simp
  obtain ⟨x1, x2, ea, u1, u2⟩ := Yw ha hk hp;obtain ⟨y1, y2, eb, v1, v2⟩ := Yw hb hk hp
  by_cases e : x1 = y1
  ·subst e
   have hE : Qk l a b = .mk 0 [] [x1, Qk q x2 y2] [] := by rw [X9, hk, hp, ea, eb]; simp [Qaa, (Jl x1 x1).2 rfl]
   rw [hE]
   have G := ih q mq x2 y2 u2 v2
   have hps : (Qp.mk 0 [] [x1, Qk q x2 y2] []).ps = [x1, Qk q x2 y2] := rfl
   refine ⟨Qgs (.inr hk) rfl rfl rfl (by rw [hps, hp]; rfl) (by rw [hps, hp]; simp [Kj, u1, G.el]), (Kg hk hp ea hps).2 (.inl ⟨rfl, G.le1⟩), (Kg hk hp eb hps).2 (.inl ⟨rfl, G.le2⟩), fun c hc h1 h2 => ?_⟩;obtain ⟨z1, z2, ec, w1, w2⟩ := Yw hc hk hp;refine (Kg hk hp hps ec).2 ?_
   rcases (Kg hk hp ea ec).1 h1 with ⟨e1, g1⟩ | ⟨e1, g1⟩
   ·rcases (Kg hk hp eb ec).1 h2 with ⟨e2, g2⟩ | ⟨e2, g2⟩
    ·exact .inl ⟨e1, G.least z2 w2 g1 g2⟩
    exact absurd e1 e2
   exact .inr ⟨e1, g1⟩
  have hx : Qaa l.ps a.ps b.ps = none := by rw [hp, ea, eb, Qaa, if_neg (fun h => e ((Jl _ _).1 h))]
  refine tot (by omega) (by omega) (by omega) (by omega) (by omega) (fun _ => hx) ?_;rw [Kg hk hp ea eb, Kg hk hp eb ea]
  rcases Qic hO hk hp u1 v1 with h | h
  ·exact .inl (.inr ⟨e, h⟩)
  exact .inr (.inr ⟨fun e' => e e'.symm, h⟩)
 ·-- flat lattices
  by_cases h1 : QJ l a b = true
  ·exact tot (by omega) (by omega) (by omega) (by omega) (by omega) (fun h => by omega) (.inl h1)
  by_cases h2 : QJ l b a = true
  ·exact tot (by omega) (by omega) (by omega) (by omega) (by omega) (fun h => by omega) (.inr h2)
  have hE : Qk l a b = .mk 2 [] [] [] := by rw [YK (by omega) (by omega) (by omega) (by omega) (by omega) (fun h => by omega), if_neg h1, if_neg h2]
  rw [hE];rw [KT hk] at h1 h2
  have hz : Qw (.mk 2 [] [] []) l = true := by rw [Qu, hk]; rfl
  refine ⟨hz, (KT hk).2 (.inr (.inl rfl)), (KT hk).2 (.inr (.inl rfl)), fun c hc g1 g2 => (KT hk).2 ?_⟩
  rcases (KT hk).1 g1 with g | g | g
  ·exact absurd (.inl g) h1
  ·exact .inr (.inl g)
  rcases (KT hk).1 g2 with g' | g' | g'
  ·exact absurd (.inl g') h2
  ·exact .inr (.inl g')
  exact absurd (.inr (.inr (g.trans g'.symm))) h1
 ·-- registers
  obtain ⟨p1, p2, p3, p4⟩ := KK ha hk;obtain ⟨q1, q2, q3, q4⟩ := KK hb hk
  have hE : Qk l a b = .mk 0 [] [] (JE a.es b.es) := by rw [X9, hk]; rfl
  rw [hE]
  have hM : J0 (Qp.mk 0 [] [] (JE a.es b.es)).es := QiA p4 q4
  refine ⟨by rw [Qu, hk]; simp [JP, Qp.N, Qp.nm, Qp.ps]; exact hM.regB_, (QaG hk p4 hM).2 (QkV p4 q4), (QaG hk q4 hM).2 (Qi6 p4 q4), fun c hc h1 h2 => ?_⟩;obtain ⟨-, -, -, r4⟩ := KK hc hk
  refine (QaG hk hM r4).2 fun x hx => ?_
  rcases Qee p4 q4 hx with h | h
  ·exact (QaG hk p4 r4).1 h1 x h
  exact (QaG hk q4 r4).1 h2 x h
 obtain ⟨p1, p2, p3, p4, p5, p6⟩ := Ks ha (.inr hk);obtain ⟨q1, q2, q3, q4, q5, q6⟩ := Ks hb (.inr hk)
 have hE : Qk l a b = .mk 0 (KG l.nm l.rs (K6 a.nm b.nm)) [] [] := by rw [X9, hk]; rfl
 rw [hE]
 have sy := QmU hO hk
 have hm : ∀ z, z ∈ K6 a.nm b.nm ↔ z ∈ a.nm ∨ z ∈ b.nm := fun z => WZ p4 q4
 have up : ∀ {z}, z ∈ a.nm ∨ z ∈ b.nm → z ∈ KG l.nm l.rs (K6 a.nm b.nm) := fun {z} h => by
  refine QbS.2 ⟨?_, Qlv _ _ ((hm z).2 h)⟩
  rcases h with h | h
  ·exact Qcg hO hk ha z h
  exact Qcg hO hk hb z h
 refine ⟨Qiy hk rfl rfl rfl (Qjc sy.s) (fun s hs => ?_) (Qjz fun r hr => (sy.r r hr).2.2), (Ki (.inr hk)).2 fun x hx => up (.inl hx), (Ki (.inr hk)).2 fun x hx => up (.inr hx), fun c hc h1 h2 => (Ki (.inr hk)).2 fun x hx => ?_⟩
 ·have hu := (QbS.1 hs).1
  simp [YE, sy.v s hu, Yn.2 hu]
 obtain ⟨-, -, -, -, -, r6⟩ := Ks hc (.inr hk);refine Qlx (r6 hk) _ _ (fun z hz => ?_) x (QbS.1 hx).2
 rcases (hm z).1 hz with h | h
 ·exact (Ki (.inr hk)).1 h1 z h
 exact (Ki (.inr hk)).1 h2 z h
theorem QbP (l : Qv) (hO : YM l) (a b : Qp) (ha : Qw a l = true) (hb : Qw b l = true) : Lub l a b (Qk l a b) := Qmr l hO (fun q hq x y hx hy => QbP q (hO.part q hq) x y hx hy) a b ha hb
termination_by l
decreasing_by exact Qv.sizeOf_ps ‹_›
section
variable {l : Qv} {a b c : Qp}
theorem QcU (hO : YM l) (ha : Qw a l = true) (hb : Qw b l = true) (h : QJ l a b = true) : Qk l a b = b := by
 have L := QbP l hO a b ha hb
 exact Qaw l hO _ _ L.el hb (L.least b hb h (QaD l hO b hb)) L.le2
theorem Qfc (hO : YM l) (ha : Qw a l = true) : Qk l (Qn l) a = a := QcU hO (Qbe l hO) ha (Ww l hO a ha)
end
theorem Qph {n m : Nat} (hnm : 64 ≤ n + m) (l : Qv) (hO : YM l) (ih : ∀ q ∈ l.ps, ∀ x y, Qw x q = true → Qw y q = true → SmV n x → SmV m y → SmV (n + m) (Qk q x y)) (a b : Qp) (ha : Qw a l = true) (hb : Qw b l = true) (sa : SmV n a) (sb : SmV m b) : SmV (n + m) (Qk l a b) := by
 have na := sa.nm
 have nb := sb.nm
 have nil : ∀ {N : Int} {u : List Nm}, u.length ≤ n + m → SmV (n + m) (.mk N u [] []) := fun {N u} h => .mk _ h (Nat.zero_le _) (Nat.zero_le _) (by intro e he; cases he) (by intro e he; cases he)
 have els : ∀ {v : Qp}, v = a ∨ v = b ∨ v = .mk 2 [] [] [] → SmV (n + m) v := fun h => by
  rcases h with h | h | h
  ·exact h ▸ sa.up (by omega)
  ·exact h ▸ sb.up (by omega)
  rw [h]; exact nil (Nat.zero_le _)
 have tot : l.k ≠ 4 → l.k ≠ 10 → l.k ≠ 9 → l.k ≠ 5 → l.k ≠ 6 → (l.k = 7 → Qaa l.ps a.ps b.ps = none) → SmV (n + m) (Qk l a b) := fun h4 h10 h9 h5 h6 hx => by
  rw [YK h4 h10 h9 h5 h6 hx]
  split
  ·exact els (.inr (.inl rfl))
  split
  ·exact els (.inl rfl)
  exact els (.inr (.inr rfl))
 rcases QdR hO with hk | hk | hk | hk | hk | hk | hk | hk | hk | hk
 ·exact tot (by omega) (by omega) (by omega) (by omega) (by omega) (fun h => by omega)
 ·exact tot (by omega) (by omega) (by omega) (by omega) (by omega) (fun h => by omega)
 ·exact tot (by omega) (by omega) (by omega) (by omega) (by omega) (fun h => by omega)
 ·obtain ⟨-, -, -, p4, -, -⟩ := Ks ha (.inl hk)
  obtain ⟨-, -, -, q4, -, -⟩ := Ks hb (.inl hk)
  have hE : Qk l a b = .mk 0 (K6 a.nm b.nm) [] [] := by rw [X9, hk]; rfl
  have := Qey p4 q4
  rw [hE]; exact nil (by omega)
 ·obtain ⟨q, hp⟩ := Qax hO hk
  have mq : q ∈ l.ps := by rw [hp]; simp
  obtain ⟨-, -, p3, p4, -, p6⟩ := Kc ha hk hp;obtain ⟨-, -, q3, q4, -, q6⟩ := Kc hb hk hp
  have hE : Qk l a b = .mk 0 (K6 a.nm b.nm) ((K6 a.nm b.nm).map (Yc q a b)) [] := by rw [X9, hk, hp, QdF]; rfl
  have hl := Qey p4 q4
  rw [hE];refine .mk _ (show (K6 a.nm b.nm).length ≤ n + m by omega) (show ((K6 a.nm b.nm).map (Yc q a b)).length ≤ n + m by rw [List.length_map]; omega) (Nat.zero_le _) (by intro e he; cases he) (fun z hz => ?_);obtain ⟨s, hs, rfl⟩ := List.mem_map.1 (show z ∈ (K6 a.nm b.nm).map (Yc q a b) from hz)
  rcases Qc8 (q := q) p3 p4 q3 q4 ((WZ p4 q4).1 hs) with ⟨i, p, e1, e2, -, e4⟩ | ⟨j, y, e1, e2, -, e4⟩ | ⟨i, p, j, y, e1, e2, e3, e4, e5⟩
  ·rw [e4]; exact (sa.part p (List.mem_of_getElem? e2)).up (by omega)
  ·rw [e4]; exact (sb.part y (List.mem_of_getElem? e2)).up (by omega)
  have m1 := List.mem_of_getElem? e2
  have m2 := List.mem_of_getElem? e4
  rw [e5]; exact ih q mq p y (p6 p m1).1 (q6 y m2).1 (sa.part p m1) (sb.part y m2)
 ·obtain ⟨-, -, -, p4, p5⟩ := Ye ha (.inl hk)
  obtain ⟨-, -, -, q4, q5⟩ := Ye hb (.inl hk)
  have hE : Qk l a b = .mk 0 [] (Qac l.ps a.ps b.ps) [] := by rw [X9, hk]; rfl
  have hlen := QgA p4 q4
  have := hO.small
  rw [hE];refine .mk _ (Nat.zero_le _) (show (Qac l.ps a.ps b.ps).length ≤ n + m by omega) (Nat.zero_le _) (by intro e he; cases he) (fun z hz => ?_);obtain ⟨k, hk'⟩ := List.mem_iff_getElem?.1 (show z ∈ Qac l.ps a.ps b.ps from hz);obtain ⟨q, x, y, e1, e2, e3, rfl⟩ := Quk p4 q4 hk' hlen (fun q x y h1 h2 h3 => Qhn h1 h2 h3);exact ih q (List.mem_of_getElem? e1) x y (Jd p5 e2 e1) (Jd q5 e3 e1) (sa.part x (List.mem_of_getElem? e2)) (sb.part y (List.mem_of_getElem? e3))
 ·obtain ⟨p, q, hp⟩ := KI hO.shape hk
  have mq : q ∈ l.ps := by rw [hp]; simp
  obtain ⟨x1, x2, ea, u1, u2⟩ := Yw ha hk hp;obtain ⟨y1, y2, eb, v1, v2⟩ := Yw hb hk hp
  by_cases e : x1 = y1
  ·subst e
   have hE : Qk l a b = .mk 0 [] [x1, Qk q x2 y2] [] := by rw [X9, hk, hp, ea, eb]; simp [Qaa, (Jl x1 x1).2 rfl]
   rw [hE];refine .mk _ (Nat.zero_le _) (show 2 ≤ n + m by omega) (Nat.zero_le _) (by intro e he; cases he) (fun z hz => ?_)
   have hz : z ∈ [x1, Qk q x2 y2] := hz
   rcases List.mem_cons.1 hz with rfl | hz
   ·exact (sa.part z (by rw [ea]; simp)).up (by omega)
   rcases List.mem_cons.1 hz with rfl | hz
   ·exact ih q mq x2 y2 u2 v2 (sa.part x2 (by rw [ea]; simp)) (sb.part y2 (by rw [eb]; simp))
   cases hz
  have hx : Qaa l.ps a.ps b.ps = none := by rw [hp, ea, eb, Qaa, if_neg (fun h => e ((Jl _ _).1 h))]
  exact tot (by omega) (by omega) (by omega) (by omega) (by omega) (fun _ => hx)
 ·exact tot (by omega) (by omega) (by omega) (by omega) (by omega) (fun h => by omega)
 ·obtain ⟨-, -, -, p4⟩ := KK ha hk
  obtain ⟨-, -, -, q4⟩ := KK hb hk
  have hE : Qk l a b = .mk 0 [] [] (JE a.es b.es) := by rw [X9, hk]; rfl
  have h1 := sa.es
  have h2 := sb.es
  have hl : (JE a.es b.es).length ≤ n + m := by
   unfold JE
   rw [List.length_mergeSort, List.length_append]
   have := List.length_filter_le (QaR b.es) a.es
   have := List.length_filter_le (QbT a.es) b.es
   omega
  rw [hE];refine .mk _ (Nat.zero_le _) (Nat.zero_le _) hl (fun e he => ?_) (by intro e he; cases he)
  rcases Qee p4 q4 (show e ∈ JE a.es b.es from he) with h | h
  ·exact sa.en e h
  exact sb.en e h
 have sy := QmU hO hk
 have hE : Qk l a b = .mk 0 (KG l.nm l.rs (K6 a.nm b.nm)) [] [] := by rw [X9, hk]; rfl
 obtain ⟨-, -, -, p4, -, -⟩ := Ks ha (.inr hk);obtain ⟨-, -, -, q4, -, -⟩ := Ks hb (.inr hk)
 have h := hO.four.1
 have hl : l.nm.length ≤ 64 := by
  unfold JK Yb at h
  rw [hk, show Ky 10 = 12 from rfl] at h
  by_cases hg : (l.nm.length : Int) > 12
  ·simp [hg] at h
  omega
 have := List.length_filter_le (X6 (Yk l.rs l.rs.length (K6 a.nm b.nm))) l.nm
 rw [hE]; exact nil (by show (l.nm.filter _).length ≤ _; omega)
theorem QnL {n m : Nat} (hnm : 64 ≤ n + m) (l : Qv) (hO : YM l) (a b : Qp) (ha : Qw a l = true) (hb : Qw b l = true) (sa : SmV n a) (sb : SmV m b) : SmV (n + m) (Qk l a b) := Qph hnm l hO (fun q hq x y hx hy sx sy => QnL hnm q (hO.part q hq) x y hx hy sx sy) a b ha hb sa sb
termination_by l
decreasing_by exact Qv.sizeOf_ps ‹_›
theorem QpS (l : Qv) (hO : YM l) : SmV 64 (Qn l) := by
 have h := hO.small
 refine .mk _ (by rw [Qmh]; exact Nat.zero_le _) ?_ (by rw [Qjp]; exact Nat.zero_le _) (by rw [Qjp]; intro e he; cases he) (fun p hp => ?_)
 ·rw [Qjm]; split <;> simp <;> omega
 rw [Qjm] at hp
 split at hp
 ·obtain ⟨q, hq, rfl⟩ := List.mem_map.1 hp
  exact QpS q (hO.part q hq)
 cases hp
termination_by l
decreasing_by exact Qv.sizeOf_ps ‹_›
theorem QpK {l : Qv} (hO : YM l) {a b : Qp} (ha : Qw a l = true) : YL l [a, b] = Qk l a b := by
 show Qk l (Qk l (Qn l) a) b = _
 rw [Qfc hO ha]
theorem Qku {l : Qv} (hO : YM l) : ∀ (vs : List Qp) (s : Qp), Qw s l = true → (∀ v ∈ vs, Qw v l = true) →
  Qw (vs.foldl (Qk l) s) l = true ∧ QJ l s (vs.foldl (Qk l) s) = true ∧ (∀ v ∈ vs, QJ l v (vs.foldl (Qk l) s) = true) ∧
  ∀ c, Qw c l = true → QJ l s c = true → (∀ v ∈ vs, QJ l v c = true) → QJ l (vs.foldl (Qk l) s) c = true
 | [], s, hs, _ => ⟨hs, QaD l hO s hs, by simp, fun c _ h _ => h⟩
 | x :: vs, s, hs, h => by
  have hx := h x (List.mem_cons_self ..)
  have L := QbP l hO s x hs hx
  obtain ⟨h1, h2, h3, h4⟩ := Qku hO vs (Qk l s x) L.el (fun v hv => h v (List.mem_cons_of_mem _ hv));refine ⟨h1, Qa5 l hO _ _ _ hs L.el h1 L.le1 h2, fun v hv => ?_, fun c hc g1 g2 => h4 c hc (L.least c hc g1 (g2 x (List.mem_cons_self ..))) (fun v hv => g2 v (List.mem_cons_of_mem _ hv))⟩
  rcases List.mem_cons.1 hv with rfl | hv
  ·exact Qa5 l hO _ _ _ hx L.el h1 L.le2 h2
  exact h3 v hv
theorem Ko {l : Qv} (hO : YM l) {vs : List Qp} (h : ∀ v ∈ vs, Qw v l = true) : Qw (YL l vs) l = true ∧ (∀ v ∈ vs, QJ l v (YL l vs) = true) ∧ ∀ c, Qw c l = true → (∀ v ∈ vs, QJ l v c = true) → QJ l (YL l vs) c = true := by
 obtain ⟨h1, -, h3, h4⟩ := Qku hO vs (Qn l) (Qbe l hO) h;exact ⟨h1, h3, fun c hc g => h4 c hc (Ww l hO c hc) g⟩
end Go.Proofs.YtnkkokmmeplbgaaGreat
namespace Go.Proofs.YtnkkokmmeplbgaaGreat
open Go.RowKit
end Go.Proofs.YtnkkokmmeplbgaaGreat
