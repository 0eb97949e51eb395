/-
  Contracts: registers, meets.
-/
import Derived.Test.YtaecccdkjmipeaaGreatB18
import Derived.Test.YtaecccdkjmipeaaGreatB20
import Derived.Test.YtaecccdkjmipeaaGreatB13
namespace Go.Proofs.YtaecccdkjmipeaaGreat
open Go.RowKit
theorem QnI {l : Qs} (hO : Kv l) (hk : l.k = 10) : Qd2 l.nm l.rs := by
 obtain ⟨h1, h2, h3⟩ := QrP hO
 have h := hO.four.1
 unfold J7 Yh at h
 rw [hk, show Kb 10 = 12 from rfl] at h
 have hl : (decide ((l.nm.length : Int) > 12) || decide ((l.rs.length : Int) > 32)) = false := by
  cases hb : (decide ((l.nm.length : Int) > 12) || decide ((l.rs.length : Int) > 32))
  ·rfl
  rw [hb] at h; cases h
 simp only [Bool.or_eq_false_iff, decide_eq_false_iff_not] at hl
 exact ⟨h2 (by omega), h1, by omega, by omega, h3⟩
theorem JoL.of (l : Qs) (hO : Kv l) : JoL l := .mk l (fun hk s h1 h2 => QkK l.nm l.rs (QnI hO hk) s h1 h2) (fun p hp => JoL.of p (hO.part p hp))
termination_by l
decreasing_by exact Qs.sizeOf_ps ‹_›
section
variable {rs : List Ru} {s t c : List Nm}
theorem Qq6 {x : Nm} (h : x ∈ s) : x ∈ WL rs s := by
 unfold WL
 split
 ·exact List.mem_append_left _ h
 exact h
theorem Qh1 : ∀ (n : Nat) (s : List Nm) {x : Nm}, x ∈ s → x ∈ Yt rs n s
 | 0, _, _, h => h
 | n + 1, s, _, h => Qh1 n (WL rs s) (Qq6 h)
theorem Qrr (hc : Xf rs c = true) (h : ∀ x ∈ s, x ∈ c) : ∀ x ∈ WL rs s, x ∈ c := by
 unfold WL
 split
 ·rename_i r hr
  have h1 := List.find?_some hr
  simp only [Bool.and_eq_true] at h1
  have h2 := List.all_eq_true.1 hc r (List.mem_of_find?_eq_some hr)
  simp only [Yi, Bool.not_eq_true', Bool.and_eq_false_iff, Bool.not_eq_false'] at h2
  have h3 : JR r.i c = true := Jf.2 fun x hx => h x (Jf.1 h1.1 x hx)
  rw [h3] at h2
  have h4 := Jb.1 (h2.resolve_left (by decide))
  intro x hx
  rcases List.mem_append.1 hx with hx | hx
  ·exact h x hx
  rw [List.mem_singleton.1 hx]; exact h4
 exact h
theorem Qha (hc : Xf rs c = true) : ∀ (n : Nat) (s : List Nm), (∀ x ∈ s, x ∈ c) → ∀ x ∈ Yt rs n s, x ∈ c
 | 0, _, h => h
 | n + 1, s, h => Qha hc n (WL rs s) (Qrr hc h)
theorem Qi5 : Wu (Ya (Yt rs rs.length s)) rs 0 = none := by
 cases hf : Wu (Ya (Yt rs rs.length s)) rs 0 with
 | none => rfl
 | some p =>
  obtain ⟨h1, h2⟩ := Qa3 _ rs 0 (j := p.1) (r := p.2) hf
  have key : ∀ (n : Nat) (t : List Nm), Qb7 rs t ≤ n → Qb7 rs (Yt rs n t) = 0 ∨ Wu (Ya (Yt rs n t)) rs 0 = none := by
   intro n
   induction n with
   | zero => intro t h; exact .inl (by simp only [Yt]; omega)
   | succ n ih =>
    intro t h
    cases hf : Wu (Ya t) rs 0 with
    | none => right; rw [W4 (QbF hf)]; exact hf
    | some p =>
     obtain ⟨h1, h2⟩ := Qa3 _ rs 0 (j := p.1) (r := p.2) hf
     have h3 : WL rs t = t ++ [p.2.t] := by rw [Qe5, hf]
     have h4 := Qbh h2 h1
     show Qb7 rs (Yt rs n (WL rs t)) = 0 ∨ Wu (Ya (Yt rs n (WL rs t))) rs 0 = none
     rw [h3]
     exact ih _ (by omega)
  rcases key rs.length s QgI with h | h
  ·have := Qbh h2 h1; omega
  rw [hf] at h; cases h
end
theorem Qb5 {u : List Nm} {rs : List Ru} {s : List Nm} {x : Nm} : x ∈ WR u rs s ↔ x ∈ u ∧ x ∈ Yt rs rs.length s := by
 unfold WR
 rw [List.mem_filter, Jb]
theorem Qky {u : List Nm} {rs : List Ru} {s : List Nm} (h : Qo u = true) : Qo (WR u rs s) = true := Kk ((Jm h).filter _)
theorem Qj0 {u : List Nm} {rs : List Ru} {s : List Nm} (h : ∀ r ∈ rs, r.t ∈ u) : Xf rs (WR u rs s) = true := by
 unfold Xf
 rw [List.all_eq_true]
 intro r hr
 have h1 := Qr2 (Qi5 (rs := rs) (s := s)) r hr
 simp only [Yi, Bool.not_eq_true', Bool.and_eq_false_iff, Bool.not_eq_false']
 cases hs : JR r.i (WR u rs s)
 ·exact .inl rfl
 ·right
  have h2 : JR r.i (Yt rs rs.length s) = true := Jf.2 fun x hx => (Qb5.1 (Jf.1 hs x hx)).2
  rw [Ya, h2] at h1
  have h3 : Jn (Yt rs rs.length s) r.t = true := by simpa using h1
  exact Jb.2 (Qb5.2 ⟨h r hr, Jb.1 h3⟩)
section
variable {a b : List En}
theorem Wc (ha : Y3 a) (hb : Y3 b) {x : En} : x ∈ Yo a b ↔ (x ∈ a ∧ ¬ ∃ y ∈ b, leE x y) ∨ (x ∈ b ∧ ¬ ∃ y ∈ a, ltE x y) := by
 unfold Yo
 rw [List.mem_mergeSort, List.mem_append, List.mem_filter, List.mem_filter]
 refine or_congr (and_congr_right fun hx => ?_) (and_congr_right fun hx => ?_)
 ·rw [← Qbl (ha.valid x hx) hb.valid, Qau]; simp
 unfold Qb2
 rw [Bool.not_eq_true', List.any_eq_false]
 constructor
 ·rintro h ⟨y, hy, hl⟩
  exact h y hy ((QiC (hb.valid x hx) (ha.valid y hy)).2 hl)
 intro h y hy hl
 exact h ⟨y, hy, (QiC (hb.valid x hx) (ha.valid y hy)).1 hl⟩
theorem Qeg (ha : Y3 a) (hb : Y3 b) {x : En} (h : x ∈ Yo a b) : x ∈ a ∨ x ∈ b := by
 rcases (Wc ha hb).1 h with h | h
 ·exact .inl h.1
 exact .inr h.1
theorem QpS (ha : Y3 a) (hb : Y3 b) : Y3 (Yo a b) := by
 have each : ∀ {P : En → Prop}, (∀ x ∈ a, P x) → (∀ x ∈ b, P x) → ∀ x ∈ Yo a b, P x := fun h1 h2 x hx => by
  rcases Qeg ha hb hx with h | h
  ·exact h1 x h
  exact h2 x h
 refine ⟨each ha.valid hb.valid, each ha.ne hb.ne, each ha.name hb.name, ?_, fun x hx y hy hl => ?_⟩
 ·have hn : (Yo a b).Nodup := by
   unfold Yo
   rw [(List.mergeSort_perm _ _).nodup_iff, List.nodup_append]
   refine ⟨ha.nodup.filter _, hb.nodup.filter _, fun x hx y hy e => ?_⟩
   subst e
   obtain ⟨h1, h2⟩ := List.mem_filter.1 hx
   have h3 := (List.mem_filter.1 hy).1
   have : KN b x = true := (Qbl (ha.valid x h1) hb.valid).2 ⟨x, h3, QeC x⟩
   simp [Qau, this] at h2
  have hs : (Yo a b).Pairwise (fun x y => Qd5 x y = true) := List.pairwise_mergeSort (fun x y z h1 h2 => by
    simp only [Qd5, decide_eq_true_eq] at *
    exact YR.trans _ _ _ h1 h2) (fun x y => by
    have := YR.anti x y
    simp only [Qd5, Bool.or_eq_true, decide_eq_true_eq]
    omega) _
  refine (hs.and hn).imp fun {x y} h => ?_
  have h1 : Ku x y ≤ 0 := of_decide_eq_true h.1
  have h2 : Ku x y ≠ 0 := fun e => h.2 (YR.eq x y e)
  omega
 rcases (Wc ha hb).1 hx with h1 | h1 <;> rcases (Wc ha hb).1 hy with h2 | h2
 ·exact ha.anti x h1.1 y h2.1 hl
 ·exact h1.2 ⟨y, h2.1, .inl hl⟩
 ·exact h1.2 ⟨y, h2.1, hl⟩
 exact hb.anti x h1.1 y h2.1 hl
theorem Ql5 (ha : Y3 a) (hb : Y3 b) : ∀ x ∈ a, ∃ y ∈ Yo a b, leE x y := fun x hx => by
 by_cases h : ∃ y ∈ b, leE x y
 ·obtain ⟨y, hy, hl⟩ := h
  refine ⟨y, (Wc ha hb).2 (.inr ⟨hy, fun ⟨z, hz, hlt⟩ => ?_⟩), hl⟩
  exact ha.anti x hx z hz (Qul hl hlt)
 exact ⟨x, (Wc ha hb).2 (.inl ⟨hx, h⟩), QeC x⟩
theorem QjE (ha : Y3 a) (hb : Y3 b) : ∀ x ∈ b, ∃ y ∈ Yo a b, leE x y := fun x hx => by
 by_cases h : ∃ y ∈ a, ltE x y
 ·obtain ⟨y, hy, hl⟩ := h
  refine ⟨y, (Wc ha hb).2 (.inl ⟨hy, fun ⟨z, hz, hle⟩ => ?_⟩), .inl hl⟩
  exact hb.anti x hx z hz (QtI hl hle)
 exact ⟨x, (Wc ha hb).2 (.inr ⟨hx, h⟩), QeC x⟩
end
structure Lub (l : Qs) (a b j : Qn) : Prop where
 el : Qr j l = true
 le1 : QU l a j = true
 le2 : QU l b j = true
 least : ∀ c, Qr c l = true → QU l a c = true → QU l b c = true → QU l j c = true
theorem Qrw {l : Qs} (hO : Kv l) {a b : Qn} (ha : Qr a l = true) (h : QU l b a = true) : Lub l a b a := ⟨ha, Yk l hO a ha, h, fun _ _ h1 _ => h1⟩
theorem QpO {l : Qs} (hO : Kv l) {a b : Qn} (hb : Qr b l = true) (h : QU l a b = true) : Lub l a b b := ⟨hb, h, Yk l hO b hb, fun _ _ _ h2 => h2⟩
theorem QbK {q : Qs} {a b : Qn} (p3 : a.nm.length = a.ps.length) (p4 : Qo a.nm = true) (q3 : b.nm.length = b.ps.length) (q4 : Qo b.nm = true) {s : Nm} (h : s ∈ a.nm ∨ s ∈ b.nm) :
  (∃ (i : Nat) (p : Qn), a.nm[i]? = some s ∧ a.ps[i]? = some p ∧ s ∉ b.nm ∧ Yy q a b s = p) ∨ (∃ (j : Nat) (y : Qn), b.nm[j]? = some s ∧ b.ps[j]? = some y ∧ s ∉ a.nm ∧ Yy q a b s = y) ∨
  ∃ (i : Nat) (p : Qn) (j : Nat) (y : Qn), a.nm[i]? = some s ∧ a.ps[i]? = some p ∧ b.nm[j]? = some s ∧ b.ps[j]? = some y ∧ Yy q a b s = QK q p y := by
 have at_ : ∀ {v : Qn}, v.nm.length = v.ps.length → Qo v.nm = true → s ∈ v.nm → ∃ (i : Nat) (p : Qn), v.nm[i]? = some s ∧ v.ps[i]? = some p ∧ JZ v s = some p := fun {v} h1 h2 h3 => by
  obtain ⟨i, hi⟩ := List.mem_iff_getElem?.1 h3
  obtain ⟨p, hp⟩ := Qk (show i < v.ps.length by have := (List.getElem?_eq_some_iff.1 hi).1; omega)
  exact ⟨i, p, hi, hp, by rw [Qdr h2 hi, hp]⟩
 by_cases m1 : s ∈ a.nm <;> by_cases m2 : s ∈ b.nm
 ·obtain ⟨i, p, e1, e2, e3⟩ := at_ p3 p4 m1
  obtain ⟨j, y, f1, f2, f3⟩ := at_ q3 q4 m2
  exact .inr (.inr ⟨i, p, j, y, e1, e2, f1, f2, Qwr e3 f3⟩)
 ·obtain ⟨i, p, e1, e2, e3⟩ := at_ p3 p4 m1
  exact .inl ⟨i, p, e1, e2, m2, QwG e3 (Qdp m2)⟩
 ·obtain ⟨j, y, f1, f2, f3⟩ := at_ q3 q4 m2
  exact .inr (.inl ⟨j, y, f1, f2, m1, QwM (Qdp m1) f3⟩)
 rcases h with h | h
 ·exact absurd h m1
 exact absurd h m2
theorem Qdi {l : List Nm} (h : Qo l = true) {i j : Nat} {s : Nm} (hi : l[i]? = some s) (hj : l[j]? = some s) : i = j := QhD (Kp h) hi hj
theorem Qnt (l : Qs) (hO : Kv l) (ih : ∀ q ∈ l.ps, ∀ x y, Qr x q = true → Qr y q = true → Lub q x y (QK q x y)) (a b : Qn) (ha : Qr a l = true) (hb : Qr b l = true) : Lub l a b (QK l a b) := by
 have tot : l.k ≠ 4 → l.k ≠ 10 → l.k ≠ 9 → l.k ≠ 5 → l.k ≠ 6 → (l.k = 7 → Qar l.ps a.ps b.ps = none) → QU l a b = true ∨ QU l b a = true → Lub l a b (QK l a b) := fun h4 h10 h9 h5 h6 hx h => by
  rw [Ke h4 h10 h9 h5 h6 hx]
  by_cases h1 : QU l a b = true
  ·rw [if_pos h1]; exact QpO hO hb h1
  rw [if_neg h1]
  have h2 := h.resolve_left h1
  rw [if_pos h2]; exact Qrw hO ha h2
 rcases Qbi hO with hk | hk | hk | hk | hk | hk | hk | hk | hk | hk
 ·exact tot (by omega) (by omega) (by omega) (by omega) (by omega) (fun h => by omega) (by rw [JS (.inl hk), JS (.inl hk)]; omega)
 ·exact tot (by omega) (by omega) (by omega) (by omega) (by omega) (fun h => by omega) (by rw [JS (.inr hk), JS (.inr hk)]; omega)
 ·exact tot (by omega) (by omega) (by omega) (by omega) (by omega) (fun h => by omega) (by rw [Wb hk, Wb hk]; omega)
 ·-- sets
  obtain ⟨p1, p2, p3, p4, p5, p6⟩ := Yq ha (.inl hk)
  obtain ⟨q1, q2, q3, q4, q5, q6⟩ := Yq hb (.inl hk)
  have hE : QK l a b = .mk 0 (uni a.nm b.nm) [] [] := by rw [Jh, hk]; rfl
  rw [hE]
  have hm : ∀ z, z ∈ uni a.nm b.nm ↔ z ∈ a.nm ∨ z ∈ b.nm := fun z => Qag p4 q4
  refine ⟨QjH hk rfl rfl rfl (QaV p4 q4) fun s hs => ?_, (Ys (.inl hk)).2 fun x hx => (hm x).2 (.inl hx), (Ys (.inl hk)).2 fun x hx => (hm x).2 (.inr hx), fun c _ h1 h2 => (Ys (.inl hk)).2 fun x hx => ?_⟩
  ·rcases (hm s).1 hs with h | h
   ·exact p5 s h
   exact q5 s h
  rcases (hm x).1 hx with h | h
  ·exact (Ys (.inl hk)).1 h1 x h
  exact (Ys (.inl hk)).1 h2 x h
 ·-- maps
  obtain ⟨q, hp⟩ := YP hO hk
  have mq : q ∈ l.ps := by rw [hp]; simp
  obtain ⟨p1, p2, p3, p4, p5, p6⟩ := J6 ha hk hp
  obtain ⟨q1, q2, q3, q4, q5, q6⟩ := J6 hb hk hp
  obtain ⟨U, hU⟩ : ∃ U, U = uni a.nm b.nm := ⟨_, rfl⟩
  have hE : QK l a b = .mk 0 U (U.map (Yy q a b)) [] := by rw [Jh, hk, hp, Qdx, hU]; rfl
  rw [hE]
  have hm : ∀ z, z ∈ U ↔ z ∈ a.nm ∨ z ∈ b.nm := fun z => by rw [hU]; exact Qag p4 q4
  have hs : Qo U = true := by rw [hU]; exact QaV p4 q4
  have hlen : U.length = (U.map (Yy q a b)).length := by simp
  have oq := hO.part q mq
  have G : ∀ {i j : Nat} {x y : Qn}, a.ps[i]? = some x → b.ps[j]? = some y → Lub q x y (QK q x y) := fun h1 h2 => ih q mq _ _ (p6 _ (List.mem_of_getElem? h1)).1 (q6 _ (List.mem_of_getElem? h2)).1
  have at_ : ∀ {i : Nat} {s : Nm} {z : Qn}, U[i]? = some s → (U.map (Yy q a b))[i]? = some z → z = Yy q a b s ∧ (s ∈ a.nm ∨ s ∈ b.nm) := fun h1 h2 => by
   rw [List.getElem?_map, h1] at h2
   cases h2
   exact ⟨rfl, (hm _).1 (List.mem_of_getElem? h1)⟩
  have jl : (Qn.mk 0 U (U.map (Yy q a b)) []).nm.length = (Qn.mk 0 U (U.map (Yy q a b)) []).ps.length := hlen
  refine ⟨QhM hk hp rfl rfl hlen hs (fun s hs => ?_) (fun z hz => ?_), (YM hk hp p3 jl hs).2 fun i s p h1 h2 => ?_, (YM hk hp q3 jl hs).2 fun i s p h1 h2 => ?_, fun c hc h1 h2 => ?_⟩
  ·rcases (hm s).1 hs with h | h
   ·exact p5 s h
   exact q5 s h
  ·have hz : z ∈ U.map (Yy q a b) := hz
   obtain ⟨s, hsU, rfl⟩ := List.mem_map.1 hz
   rcases QbK (q := q) p3 p4 q3 q4 ((hm s).1 hsU) with ⟨i, p, e1, e2, -, e4⟩ | ⟨j, y, e1, e2, -, e4⟩ | ⟨i, p, j, y, e1, e2, e3, e4, e5⟩
   ·rw [e4]; exact p6 p (List.mem_of_getElem? e2)
   ·rw [e4]; exact q6 y (List.mem_of_getElem? e2)
   rw [e5]
   have L := G e2 e4
   refine ⟨L.el, fun e => ?_⟩
   have hpm := p6 p (List.mem_of_getElem? e2)
   exact hpm.2 (Ko q oq p _ hpm.1 (K2 q oq) (by rw [← e]; exact L.le1) (QbB q oq p hpm.1))
  ·obtain ⟨j, hj⟩ := List.mem_iff_getElem?.1 ((hm s).2 (.inl (List.mem_of_getElem? h1)))
   refine ⟨j, Yy q a b s, hj, by show (U.map (Yy q a b))[j]? = _; rw [List.getElem?_map, hj]; rfl, ?_⟩
   rcases QbK (q := q) p3 p4 q3 q4 (.inl (List.mem_of_getElem? h1)) with ⟨i', p', e1, e2, -, e4⟩ | ⟨_, _, _, _, e3, _⟩ | ⟨i', p', j', y, e1, e2, e3, e4, e5⟩
   ·have := Qdi p4 h1 e1; subst this
    rw [h2] at e2; cases e2
    rw [e4]; exact Yk q oq p (p6 p (List.mem_of_getElem? h2)).1
   ·exact absurd (List.mem_of_getElem? h1) e3
   have := Qdi p4 h1 e1; subst this
   rw [h2] at e2; cases e2
   rw [e5]; exact (G h2 e4).le1
  ·obtain ⟨j, hj⟩ := List.mem_iff_getElem?.1 ((hm s).2 (.inr (List.mem_of_getElem? h1)))
   refine ⟨j, Yy q a b s, hj, by show (U.map (Yy q a b))[j]? = _; rw [List.getElem?_map, hj]; rfl, ?_⟩
   rcases QbK (q := q) p3 p4 q3 q4 (.inr (List.mem_of_getElem? h1)) with ⟨_, _, _, _, e3, _⟩ | ⟨i', p', e1, e2, -, e4⟩ | ⟨i', p', j', y, e1, e2, e3, e4, e5⟩
   ·exact absurd (List.mem_of_getElem? h1) e3
   ·have := Qdi q4 h1 e1; subst this
    rw [h2] at e2; cases e2
    rw [e4]; exact Yk q oq p (q6 p (List.mem_of_getElem? h2)).1
   have := Qdi q4 h1 e3; subst this
   rw [h2] at e4; cases e4
   rw [e5]; exact (G e2 h2).le2
  obtain ⟨-, -, r3, r4, -, r6⟩ := J6 hc hk hp
  have l1 := (YM hk hp p3 r3 r4).1 h1
  have l2 := (YM hk hp q3 r3 r4).1 h2
  refine (YM hk hp jl r3 r4).2 fun i s z hs hz => ?_
  obtain ⟨rfl, hor⟩ := at_ hs hz
  rcases QbK (q := q) p3 p4 q3 q4 hor with ⟨i', p, e1, e2, -, e4⟩ | ⟨j', y, e1, e2, -, e4⟩ | ⟨i', p, j', y, e1, e2, e3, e4, e5⟩
  ·rw [e4]; exact l1 i' s p e1 e2
  ·rw [e4]; exact l2 j' s y e1 e2
  obtain ⟨k1, z1, g1, g2, g3⟩ := l1 i' s p e1 e2
  obtain ⟨k2, z2, g4, g5, g6⟩ := l2 j' s y e3 e4
  have := Qdi r4 g1 g4; subst this
  rw [g2] at g5; cases g5
  exact ⟨k1, z1, g1, g2, by rw [e5]; exact (G e2 e4).least z1 (r6 z1 (List.mem_of_getElem? g2)).1 g3 g6⟩
 ·-- products
  obtain ⟨p1, p2, p3, p4, p5⟩ := JJ ha (.inl hk)
  obtain ⟨q1, q2, q3, q4, q5⟩ := JJ hb (.inl hk)
  have hE : QK l a b = .mk 0 [] (Wo l.ps a.ps b.ps) [] := by rw [Jh, hk]; rfl
  rw [hE]
  have hlen := Qfr p4 q4
  have hat : ∀ {k : Nat} {z : Qn}, (Wo l.ps a.ps b.ps)[k]? = some z → ∃ q x y, l.ps[k]? = some q ∧ a.ps[k]? = some x ∧ b.ps[k]? = some y ∧ z = QK q x y := fun hz => Qr4 p4 q4 hz hlen (fun q x y h1 h2 h3 => Qfy h1 h2 h3)
  have G : ∀ {k : Nat} {q : Qs} {x y : Qn}, l.ps[k]? = some q → a.ps[k]? = some x → b.ps[k]? = some y → Lub q x y (QK q x y) := fun h1 h2 h3 => ih _ (List.mem_of_getElem? h1) _ _ (XP p5 h2 h1) (XP q5 h3 h1)
  refine ⟨Qca (.inl hk) rfl rfl rfl hlen ((Wt hlen).2 fun k z q hz hq => ?_), ?_, ?_, fun c hc h1 h2 => ?_⟩
  ·obtain ⟨q', x, y, e1, e2, e3, rfl⟩ := hat hz
   rw [hq] at e1; cases e1
   exact (G hq e2 e3).el
  ·rw [YI hk]
   refine Qcd p4 hlen fun k q x z hq hx hz => ?_
   obtain ⟨q', x', y, e1, e2, e3, rfl⟩ := hat hz
   rw [hq] at e1; cases e1
   rw [hx] at e2; cases e2
   exact (G hq hx e3).le1
  ·rw [YI hk]
   refine Qcd q4 hlen fun k q y z hq hy hz => ?_
   obtain ⟨q', x, y', e1, e2, e3, rfl⟩ := hat hz
   rw [hq] at e1; cases e1
   rw [hy] at e3; cases e3
   exact (G hq e2 hy).le2
  obtain ⟨-, -, -, r4, r5⟩ := JJ hc (.inl hk)
  rw [YI hk, Y6 p4 r4] at h1
  rw [YI hk, Y6 q4 r4] at h2
  rw [YI hk]
  refine Qcd hlen r4 fun k q z u hq hz hu => ?_
  obtain ⟨q', x, y, e1, e2, e3, rfl⟩ := hat hz
  rw [hq] at e1; cases e1
  exact (G hq e2 e3).least u (XP r5 hu hq) (h1 k q x u hq e2 hu) (h2 k q y u hq e3 hu)
 ·-- pairs
  obtain ⟨p, q, hp⟩ := Kt hO.shape hk
  have mq : q ∈ l.ps := by rw [hp]; simp
  obtain ⟨x1, x2, ea, u1, u2⟩ := Yw ha hk hp
  obtain ⟨y1, y2, eb, v1, v2⟩ := Yw hb hk hp
  by_cases e : x1 = y1
  ·subst e
   have hE : QK l a b = .mk 0 [] [x1, QK q x2 y2] [] := by rw [Jh, hk, hp, ea, eb]; simp [Qar, (J8 x1 x1).2 rfl]
   rw [hE]
   have G := ih q mq x2 y2 u2 v2
   have hps : (Qn.mk 0 [] [x1, QK q x2 y2] []).ps = [x1, QK q x2 y2] := rfl
   refine ⟨Qca (.inr hk) rfl rfl rfl (by rw [hps, hp]; rfl) (by rw [hps, hp]; simp [KR, u1, G.el]), (Yc hk hp ea hps).2 (.inl ⟨rfl, G.le1⟩), (Yc hk hp eb hps).2 (.inl ⟨rfl, G.le2⟩), fun c hc h1 h2 => ?_⟩
   obtain ⟨z1, z2, ec, w1, w2⟩ := Yw hc hk hp
   refine (Yc hk hp hps ec).2 ?_
   rcases (Yc hk hp ea ec).1 h1 with ⟨e1, g1⟩ | ⟨e1, g1⟩
   ·rcases (Yc hk hp eb ec).1 h2 with ⟨e2, g2⟩ | ⟨e2, g2⟩
    ·exact .inl ⟨e1, G.least z2 w2 g1 g2⟩
    exact absurd e1 e2
   exact .inr ⟨e1, g1⟩
  have hx : Qar l.ps a.ps b.ps = none := by rw [hp, ea, eb, Qar, if_neg (fun h => e ((J8 _ _).1 h))]
  refine tot (by omega) (by omega) (by omega) (by omega) (by omega) (fun _ => hx) ?_
  rw [Yc hk hp ea eb, Yc hk hp eb ea]
  rcases Qfx hO hk hp u1 v1 with h | h
  ·exact .inl (.inr ⟨e, h⟩)
  exact .inr (.inr ⟨fun e' => e e'.symm, h⟩)
 ·-- flat lattices
  by_cases h1 : QU l a b = true
  ·exact tot (by omega) (by omega) (by omega) (by omega) (by omega) (fun h => by omega) (.inl h1)
  by_cases h2 : QU l b a = true
  ·exact tot (by omega) (by omega) (by omega) (by omega) (by omega) (fun h => by omega) (.inr h2)
  have hE : QK l a b = .mk 2 [] [] [] := by rw [Ke (by omega) (by omega) (by omega) (by omega) (by omega) (fun h => by omega), if_neg h1, if_neg h2]
  rw [hE]
  rw [Yx hk] at h1 h2
  have hz : Qr (.mk 2 [] [] []) l = true := by rw [QI, hk]; rfl
  refine ⟨hz, (Yx hk).2 (.inr (.inl rfl)), (Yx hk).2 (.inr (.inl rfl)), fun c hc g1 g2 => (Yx hk).2 ?_⟩
  rcases (Yx hk).1 g1 with g | g | g
  ·exact absurd (.inl g) h1
  ·exact .inr (.inl g)
  rcases (Yx hk).1 g2 with g' | g' | g'
  ·exact absurd (.inl g') h2
  ·exact .inr (.inl g')
  exact absurd (.inr (.inr (g.trans g'.symm))) h1
 ·-- registers
  obtain ⟨p1, p2, p3, p4⟩ := W6 ha hk
  obtain ⟨q1, q2, q3, q4⟩ := W6 hb hk
  have hE : QK l a b = .mk 0 [] [] (Yo a.es b.es) := by rw [Jh, hk]; rfl
  rw [hE]
  have hM : Y3 (Qn.mk 0 [] [] (Yo a.es b.es)).es := QpS p4 q4
  refine ⟨by rw [QI, hk]; simp [JO, Qn.N, Qn.nm, Qn.ps]; exact hM.regB_, (Qap hk p4 hM).2 (Ql5 p4 q4), (Qap hk q4 hM).2 (QjE p4 q4), fun c hc h1 h2 => ?_⟩
  obtain ⟨-, -, -, r4⟩ := W6 hc hk
  refine (Qap hk hM r4).2 fun x hx => ?_
  rcases Qeg p4 q4 hx with h | h
  ·exact (Qap hk p4 r4).1 h1 x h
  exact (Qap hk q4 r4).1 h2 x h
 obtain ⟨p1, p2, p3, p4, p5, p6⟩ := Yq ha (.inr hk)
 obtain ⟨q1, q2, q3, q4, q5, q6⟩ := Yq hb (.inr hk)
 have hE : QK l a b = .mk 0 (WR l.nm l.rs (uni a.nm b.nm)) [] [] := by rw [Jh, hk]; rfl
 rw [hE]
 have sy := QnI hO hk
 have hm : ∀ z, z ∈ uni a.nm b.nm ↔ z ∈ a.nm ∨ z ∈ b.nm := fun z => Qag p4 q4
 have up : ∀ {z}, z ∈ a.nm ∨ z ∈ b.nm → z ∈ WR l.nm l.rs (uni a.nm b.nm) := fun {z} h => by
  refine Qb5.2 ⟨?_, Qh1 _ _ ((hm z).2 h)⟩
  rcases h with h | h
  ·exact Qch hO hk ha z h
  exact Qch hO hk hb z h
 refine ⟨QdF hk rfl rfl rfl (Qky sy.s) (fun s hs => ?_) (Qj0 fun r hr => (sy.r r hr).2.2), (Ys (.inr hk)).2 fun x hx => up (.inl hx), (Ys (.inr hk)).2 fun x hx => up (.inr hx), fun c hc h1 h2 => (Ys (.inr hk)).2 fun x hx => ?_⟩
 ·have hu := (Qb5.1 hs).1
  simp [Y7, sy.v s hu, Jb.2 hu]
 obtain ⟨-, -, -, -, -, r6⟩ := Yq hc (.inr hk)
 refine Qha (r6 hk) _ _ (fun z hz => ?_) x (Qb5.1 hx).2
 rcases (hm z).1 hz with h | h
 ·exact (Ys (.inr hk)).1 h1 z h
 exact (Ys (.inr hk)).1 h2 z h
theorem J9 (l : Qs) (hO : Kv l) (a b : Qn) (ha : Qr a l = true) (hb : Qr b l = true) : Lub l a b (QK l a b) := Qnt l hO (fun q hq x y hx hy => J9 q (hO.part q hq) x y hx hy) a b ha hb
termination_by l
decreasing_by exact Qs.sizeOf_ps ‹_›
section
variable {l : Qs} {a b c : Qn}
theorem Qqa (hO : Kv l) (ha : Qr a l = true) (hb : Qr b l = true) : QK l a b = QK l b a := by
 have L := J9 l hO a b ha hb
 have M := J9 l hO b a hb ha
 exact Ko l hO _ _ L.el M.el (L.least _ M.el M.le2 M.le1) (M.least _ L.el L.le2 L.le1)
theorem QiZ (hO : Kv l) (ha : Qr a l = true) : QK l a a = a := by
 have L := J9 l hO a a ha ha
 exact Ko l hO _ _ L.el ha (L.least a ha (Yk l hO a ha) (Yk l hO a ha)) L.le1
theorem Qm0 (hO : Kv l) (ha : Qr a l = true) (hb : Qr b l = true) (hc : Qr c l = true) : QK l (QK l a b) c = QK l a (QK l b c) := by
 have L1 := J9 l hO a b ha hb
 have L := J9 l hO (QK l a b) c L1.el hc
 have M1 := J9 l hO b c hb hc
 have M := J9 l hO a (QK l b c) ha M1.el
 have t := fun {x y z : Qn} (hx : Qr x l = true) (hy : Qr y l = true) (hz : Qr z l = true) (h1 : QU l x y = true) (h2 : QU l y z = true) => Qaz l hO x y z hx hy hz h1 h2
 refine Ko l hO _ _ L.el M.el (L.least _ M.el (L1.least _ M.el M.le1 (t hb M1.el M.el M1.le1 M.le2)) (t hc M1.el M.el M1.le2 M.le2)) (M.least _ L.el (t ha L1.el L.el L1.le1 L.le1) (M1.least _ L.el (t hb L1.el L.el L1.le2 L.le1) L.le2))
theorem Qf3 (hO : Kv l) (ha : Qr a l = true) (hb : Qr b l = true) (h : QU l a b = true) : QK l a b = b := by
 have L := J9 l hO a b ha hb
 exact Ko l hO _ _ L.el hb (L.least b hb h (Yk l hO b hb)) L.le2
theorem QlA (hO : Kv l) (ha : Qr a l = true) : QK l (QL l) a = a := Qf3 hO (K2 l hO) ha (QbB l hO a ha)
end
theorem Qo9 {n m : Nat} (hnm : 64 ≤ n + m) (l : Qs) (hO : Kv l) (ih : ∀ q ∈ l.ps, ∀ x y, Qr x q = true → Qr y q = true → SmV n x → SmV m y → SmV (n + m) (QK q x y)) (a b : Qn) (ha : Qr a l = true) (hb : Qr b l = true) (sa : SmV n a) (sb : SmV m b) : SmV (n + m) (QK l a b) := by
 have na := sa.nm
 have nb := sb.nm
 have nil : ∀ {N : Int} {u : List Nm}, u.length ≤ n + m → SmV (n + m) (.mk N u [] []) := fun {N u} h => .mk _ h (Nat.zero_le _) (Nat.zero_le _) (by intro e he; cases he) (by intro e he; cases he)
 have els : ∀ {v : Qn}, v = a ∨ v = b ∨ v = .mk 2 [] [] [] → SmV (n + m) v := fun h => by
  rcases h with h | h | h
  ·exact h ▸ sa.up (by omega)
  ·exact h ▸ sb.up (by omega)
  rw [h]; exact nil (Nat.zero_le _)
 have tot : l.k ≠ 4 → l.k ≠ 10 → l.k ≠ 9 → l.k ≠ 5 → l.k ≠ 6 → (l.k = 7 → Qar l.ps a.ps b.ps = none) → SmV (n + m) (QK l a b) := fun h4 h10 h9 h5 h6 hx => by
  rw [Ke h4 h10 h9 h5 h6 hx]
  split
  ·exact els (.inr (.inl rfl))
  split
  ·exact els (.inl rfl)
  exact els (.inr (.inr rfl))
 rcases Qbi hO with hk | hk | hk | hk | hk | hk | hk | hk | hk | hk
 ·exact tot (by omega) (by omega) (by omega) (by omega) (by omega) (fun h => by omega)
 ·exact tot (by omega) (by omega) (by omega) (by omega) (by omega) (fun h => by omega)
 ·exact tot (by omega) (by omega) (by omega) (by omega) (by omega) (fun h => by omega)
 ·obtain ⟨-, -, -, p4, -, -⟩ := Yq ha (.inl hk)
  obtain ⟨-, -, -, q4, -, -⟩ := Yq hb (.inl hk)
  have hE : QK l a b = .mk 0 (uni a.nm b.nm) [] [] := by rw [Jh, hk]; rfl
  have := QjG p4 q4
  rw [hE]; exact nil (by omega)
 ·obtain ⟨q, hp⟩ := YP hO hk
  have mq : q ∈ l.ps := by rw [hp]; simp
  obtain ⟨-, -, p3, p4, -, p6⟩ := J6 ha hk hp
  obtain ⟨-, -, q3, q4, -, q6⟩ := J6 hb hk hp
  have hE : QK l a b = .mk 0 (uni a.nm b.nm) ((uni a.nm b.nm).map (Yy q a b)) [] := by rw [Jh, hk, hp, Qdx]; rfl
  have hl := QjG p4 q4
  rw [hE]
  refine .mk _ (show (uni a.nm b.nm).length ≤ n + m by omega) (show ((uni a.nm b.nm).map (Yy q a b)).length ≤ n + m by rw [List.length_map]; omega) (Nat.zero_le _) (by intro e he; cases he) (fun z hz => ?_)
  obtain ⟨s, hs, rfl⟩ := List.mem_map.1 (show z ∈ (uni a.nm b.nm).map (Yy q a b) from hz)
  rcases QbK (q := q) p3 p4 q3 q4 ((Qag p4 q4).1 hs) with ⟨i, p, e1, e2, -, e4⟩ | ⟨j, y, e1, e2, -, e4⟩ | ⟨i, p, j, y, e1, e2, e3, e4, e5⟩
  ·rw [e4]; exact (sa.part p (List.mem_of_getElem? e2)).up (by omega)
  ·rw [e4]; exact (sb.part y (List.mem_of_getElem? e2)).up (by omega)
  have m1 := List.mem_of_getElem? e2
  have m2 := List.mem_of_getElem? e4
  rw [e5]; exact ih q mq p y (p6 p m1).1 (q6 y m2).1 (sa.part p m1) (sb.part y m2)
 ·obtain ⟨-, -, -, p4, p5⟩ := JJ ha (.inl hk)
  obtain ⟨-, -, -, q4, q5⟩ := JJ hb (.inl hk)
  have hE : QK l a b = .mk 0 [] (Wo l.ps a.ps b.ps) [] := by rw [Jh, hk]; rfl
  have hlen := Qfr p4 q4
  have := hO.small
  rw [hE]
  refine .mk _ (Nat.zero_le _) (show (Wo l.ps a.ps b.ps).length ≤ n + m by omega) (Nat.zero_le _) (by intro e he; cases he) (fun z hz => ?_)
  obtain ⟨k, hk'⟩ := List.mem_iff_getElem?.1 (show z ∈ Wo l.ps a.ps b.ps from hz)
  obtain ⟨q, x, y, e1, e2, e3, rfl⟩ := Qr4 p4 q4 hk' hlen (fun q x y h1 h2 h3 => Qfy h1 h2 h3)
  exact ih q (List.mem_of_getElem? e1) x y (XP p5 e2 e1) (XP q5 e3 e1) (sa.part x (List.mem_of_getElem? e2)) (sb.part y (List.mem_of_getElem? e3))
 ·obtain ⟨p, q, hp⟩ := Kt hO.shape hk
  have mq : q ∈ l.ps := by rw [hp]; simp
  obtain ⟨x1, x2, ea, u1, u2⟩ := Yw ha hk hp
  obtain ⟨y1, y2, eb, v1, v2⟩ := Yw hb hk hp
  by_cases e : x1 = y1
  ·subst e
   have hE : QK l a b = .mk 0 [] [x1, QK q x2 y2] [] := by rw [Jh, hk, hp, ea, eb]; simp [Qar, (J8 x1 x1).2 rfl]
   rw [hE]
   refine .mk _ (Nat.zero_le _) (show 2 ≤ n + m by omega) (Nat.zero_le _) (by intro e he; cases he) (fun z hz => ?_)
   have hz : z ∈ [x1, QK q x2 y2] := hz
   rcases List.mem_cons.1 hz with rfl | hz
   ·exact (sa.part z (by rw [ea]; simp)).up (by omega)
   rcases List.mem_cons.1 hz with rfl | hz
   ·exact ih q mq x2 y2 u2 v2 (sa.part x2 (by rw [ea]; simp)) (sb.part y2 (by rw [eb]; simp))
   cases hz
  have hx : Qar l.ps a.ps b.ps = none := by rw [hp, ea, eb, Qar, if_neg (fun h => e ((J8 _ _).1 h))]
  exact tot (by omega) (by omega) (by omega) (by omega) (by omega) (fun _ => hx)
 ·exact tot (by omega) (by omega) (by omega) (by omega) (by omega) (fun h => by omega)
 ·obtain ⟨-, -, -, p4⟩ := W6 ha hk
  obtain ⟨-, -, -, q4⟩ := W6 hb hk
  have hE : QK l a b = .mk 0 [] [] (Yo a.es b.es) := by rw [Jh, hk]; rfl
  have h1 := sa.es
  have h2 := sb.es
  have hl : (Yo a.es b.es).length ≤ n + m := by
   unfold Yo
   rw [List.length_mergeSort, List.length_append]
   have := List.length_filter_le (Qau b.es) a.es
   have := List.length_filter_le (Qb2 a.es) b.es
   omega
  rw [hE]
  refine .mk _ (Nat.zero_le _) (Nat.zero_le _) hl (fun e he => ?_) (by intro e he; cases he)
  rcases Qeg p4 q4 (show e ∈ Yo a.es b.es from he) with h | h
  ·exact sa.en e h
  exact sb.en e h
 have sy := QnI hO hk
 have hE : QK l a b = .mk 0 (WR l.nm l.rs (uni a.nm b.nm)) [] [] := by rw [Jh, hk]; rfl
 obtain ⟨-, -, -, p4, -, -⟩ := Yq ha (.inr hk)
 obtain ⟨-, -, -, q4, -, -⟩ := Yq hb (.inr hk)
 have h := hO.four.1
 have hl : l.nm.length ≤ 64 := by
  unfold J7 Yh at h
  rw [hk, show Kb 10 = 12 from rfl] at h
  by_cases hg : (l.nm.length : Int) > 12
  ·simp [hg] at h
  omega
 have := List.length_filter_le (Jn (Yt l.rs l.rs.length (uni a.nm b.nm))) l.nm
 rw [hE]; exact nil (by show (l.nm.filter _).length ≤ _; omega)
theorem Qn5 {n m : Nat} (hnm : 64 ≤ n + m) (l : Qs) (hO : Kv l) (a b : Qn) (ha : Qr a l = true) (hb : Qr b l = true) (sa : SmV n a) (sb : SmV m b) : SmV (n + m) (QK l a b) := Qo9 hnm l hO (fun q hq x y hx hy sx sy => Qn5 hnm q (hO.part q hq) x y hx hy sx sy) a b ha hb sa sb
termination_by l
decreasing_by exact Qs.sizeOf_ps ‹_›
theorem Qr5 (l : Qs) (hO : Kv l) : SmV 64 (QL l) := by
 have h := hO.small
 refine .mk _ (by rw [QnJ]; exact Nat.zero_le _) ?_ (by rw [Qka]; exact Nat.zero_le _) (by rw [Qka]; intro e he; cases he) (fun p hp => ?_)
 ·rw [Qkf]; split <;> simp <;> omega
 rw [Qkf] at hp
 split at hp
 ·obtain ⟨q, hq, rfl⟩ := List.mem_map.1 hp
  exact Qr5 q (hO.part q hq)
 cases hp
termination_by l
decreasing_by exact Qs.sizeOf_ps ‹_›
theorem QfI {l : Qs} (hO : Kv l) {vs : List Qn} (h : ∀ v ∈ vs, Qr v l = true ∧ SmV 1000 v) : ∀ k, k ≤ vs.length → Qr (QbA l (vs.take k)) l = true ∧ SmV (64 + 1000 * k) (QbA l (vs.take k))
 | 0, _ => ⟨K2 l hO, Qr5 l hO⟩
 | k + 1, hk => by
  obtain ⟨x, hx⟩ := Qk (show k < vs.length by omega)
  obtain ⟨h1, h2⟩ := QfI hO h k (by omega)
  obtain ⟨h3, h4⟩ := h x (List.mem_of_getElem? hx)
  rw [QgT hx]
  exact ⟨(J9 l hO _ x h1 h3).el, (Qn5 (by omega) l hO _ x h1 h3 h2 h4).up (by omega)⟩
theorem Qo0 {l : Qs} (hO : Kv l) {vs : List Qn} (h : ∀ v ∈ vs, Qr v l = true ∧ SmV 1000 v) (hl : vs.length ≤ 100) : QnL l vs :=
 ⟨JoL.of l hO, fun v hv => (h v hv).2.up (by omega), fun k hk => ⟨(QfI hO h k hk).1, (QfI hO h k hk).2.up (by omega)⟩⟩
theorem QkB {l : Qs} (hO : Kv l) {a b : Qn} (ha : Qr a l = true) : QbA l [a, b] = QK l a b := by
 show QK l (QK l (QL l) a) b = _
 rw [QlA hO ha]
end Go.Proofs.YtaecccdkjmipeaaGreat
namespace Go.Proofs.YtaecccdkjmipeaaGreat
open Go.RowKit
end Go.Proofs.YtaecccdkjmipeaaGreat
namespace Go.Proofs.YtaecccdkjmipeaaGreat
open Go.RowKit
end Go.Proofs.YtaecccdkjmipeaaGreat
