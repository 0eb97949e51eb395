/-
  Plain laws: names of any list, sorted, each once.
-/
import Derived.Test.YtnkkokmmeplbgaaGreatB18
import Derived.Test.YtnkkokmmeplbgaaGreatB20
import Derived.Test.YtnkkokmmeplbgaaGreatB14
import Derived.Test.YtnkkokmmeplbgaaGreatB11
import Derived.Test.YtnkkokmmeplbgaaGreatB10
import Derived.Test.YtnkkokmmeplbgaaGreatA7
namespace Go.Proofs.YtnkkokmmeplbgaaGreat
open Go.RowKit
theorem QhN {l : Qs} (hO : Ys l) (hk : l.k = 10) : QaG l.nm l.rs := by
 obtain ⟨h1, h2, h3⟩ := Qjw hO
 have h := hO.four.1
 unfold XH X4 at h
 rw [hk, show Yy 10 = 12 from rfl] at h
 have hl : (decide ((l.nm.length : Int) > 12) || decide ((l.rs.length : Int) > 32)) = false := by
  cases hb : (decide ((l.nm.length : Int) > 12) || decide ((l.rs.length : Int) > 32))
  ·rfl
  rw [hb] at h; cases h
 simp only [Bool.or_eq_false_iff, decide_eq_false_iff_not] at hl
 exact ⟨h2 (by omega), h1, by omega, by omega, h3⟩
theorem JoL.of (l : Qs) (hO : Ys l) : JoL l := .mk l (fun hk s h1 h2 => QfZ l.nm l.rs (QhN hO hk) s h1 h2) (fun p hp => JoL.of p (hO.part p hp))
termination_by l
decreasing_by exact Qs.sizeOf_ps ‹_›
section
variable {rs : List Ru} {s t c : List Nm}
theorem QkA {x : Nm} (h : x ∈ s) : x ∈ YF rs s := by
 unfold YF
 split
 ·exact List.mem_append_left _ h
 exact h
theorem QgK : ∀ (n : Nat) (s : List Nm) {x : Nm}, x ∈ s → x ∈ Jk rs n s
 | 0, _, _, h => h
 | n + 1, s, _, h => QgK n (YF rs s) (QkA h)
theorem Qkr (hc : Y1 rs c = true) (h : ∀ x ∈ s, x ∈ c) : ∀ x ∈ YF rs s, x ∈ c := by
 unfold YF
 split
 ·rename_i r hr
  have h1 := List.find?_some hr
  simp only [Bool.and_eq_true] at h1
  have h2 := List.all_eq_true.1 hc r (List.mem_of_find?_eq_some hr)
  simp only [Wj, Bool.not_eq_true', Bool.and_eq_false_iff, Bool.not_eq_false'] at h2
  have h3 : Js r.i c = true := Yn.2 fun x hx => h x (Yn.1 h1.1 x hx)
  rw [h3] at h2
  have h4 := Yf.1 (h2.resolve_left (by decide))
  intro x hx
  rcases List.mem_append.1 hx with hx | hx
  ·exact h x hx
  rw [List.mem_singleton.1 hx]; exact h4
 exact h
theorem QgM (hc : Y1 rs c = true) : ∀ (n : Nat) (s : List Nm), (∀ x ∈ s, x ∈ c) → ∀ x ∈ Jk rs n s, x ∈ c
 | 0, _, h => h
 | n + 1, s, h => QgM hc n (YF rs s) (Qkr hc h)
theorem Qjj : YT (Ja (Jk rs rs.length s)) rs 0 = none := by
 cases hf : YT (Ja (Jk rs rs.length s)) rs 0 with
 | none => rfl
 | some p =>
  obtain ⟨h1, h2⟩ := Ky _ rs 0 (j := p.1) (r := p.2) hf
  have key : ∀ (n : Nat) (t : List Nm), QdM rs t ≤ n → QdM rs (Jk rs n t) = 0 ∨ YT (Ja (Jk rs n t)) rs 0 = none := by
   intro n
   induction n with
   | zero => intro t h; exact .inl (by simp only [Jk]; omega)
   | succ n ih =>
    intro t h
    cases hf : YT (Ja t) rs 0 with
    | none => right; rw [Y0 (Wi hf)]; exact hf
    | some p =>
     obtain ⟨h1, h2⟩ := Ky _ rs 0 (j := p.1) (r := p.2) hf
     have h3 : YF rs t = t ++ [p.2.t] := by rw [Qbn, hf]
     have h4 := Ws h2 h1
     show QdM rs (Jk rs n (YF rs t)) = 0 ∨ YT (Ja (Jk rs n (YF rs t))) rs 0 = none
     rw [h3]
     exact ih _ (by omega)
  rcases key rs.length s Qfu with h | h
  ·have := Ws h2 h1; omega
  rw [hf] at h; cases h
end
theorem Wf {u : List Nm} {rs : List Ru} {s : List Nm} {x : Nm} : x ∈ YE u rs s ↔ x ∈ u ∧ x ∈ Jk rs rs.length s := by
 unfold YE
 rw [List.mem_filter, Yf]
theorem QeZ {u : List Nm} {rs : List Ru} {s : List Nm} (h : Qn u = true) : Qn (YE u rs s) = true := WD ((XS h).filter _)
theorem Qfj {u : List Nm} {rs : List Ru} {s : List Nm} (h : ∀ r ∈ rs, r.t ∈ u) : Y1 rs (YE u rs s) = true := by
 unfold Y1
 rw [List.all_eq_true]
 intro r hr
 have h1 := Qk3 (Qjj (rs := rs) (s := s)) r hr
 simp only [Wj, Bool.not_eq_true', Bool.and_eq_false_iff, Bool.not_eq_false']
 cases hs : Js r.i (YE u rs s)
 ·exact .inl rfl
 ·right
  have h2 : Js r.i (Jk rs rs.length s) = true := Yn.2 fun x hx => (Wf.1 (Yn.1 hs x hx)).2
  rw [Ja, h2] at h1
  have h3 : XV (Jk rs rs.length s) r.t = true := by simpa using h1
  exact Yf.2 (Wf.2 ⟨h r hr, Yf.1 h3⟩)
section
variable {a b : List En}
theorem Ym (ha : Jv a) (hb : Jv b) {x : En} : x ∈ XR a b ↔ (x ∈ a ∧ ¬ ∃ y ∈ b, leE x y) ∨ (x ∈ b ∧ ¬ ∃ y ∈ a, ltE x y) := by
 unfold XR
 rw [List.mem_mergeSort, List.mem_append, List.mem_filter, List.mem_filter]
 refine or_congr (and_congr_right fun hx => ?_) (and_congr_right fun hx => ?_)
 ·rw [← KP (ha.valid x hx) hb.valid, Kj]; simp
 unfold Wg
 rw [Bool.not_eq_true', List.any_eq_false]
 constructor
 ·rintro h ⟨y, hy, hl⟩
  exact h y hy ((Qej (hb.valid x hx) (ha.valid y hy)).2 hl)
 intro h y hy hl
 exact h ⟨y, hy, (Qej (hb.valid x hx) (ha.valid y hy)).1 hl⟩
theorem Qa0 (ha : Jv a) (hb : Jv b) {x : En} (h : x ∈ XR a b) : x ∈ a ∨ x ∈ b := by
 rcases (Ym ha hb).1 h with h | h
 ·exact .inl h.1
 exact .inr h.1
theorem Qjb (ha : Jv a) (hb : Jv b) : Jv (XR a b) := by
 have each : ∀ {P : En → Prop}, (∀ x ∈ a, P x) → (∀ x ∈ b, P x) → ∀ x ∈ XR a b, P x := fun h1 h2 x hx => by
  rcases Qa0 ha hb hx with h | h
  ·exact h1 x h
  exact h2 x h
 refine ⟨each ha.valid hb.valid, each ha.ne hb.ne, each ha.name hb.name, ?_, fun x hx y hy hl => ?_⟩
 ·have hn : (XR a b).Nodup := by
   unfold XR
   rw [(List.mergeSort_perm _ _).nodup_iff, List.nodup_append]
   refine ⟨ha.nodup.filter _, hb.nodup.filter _, fun x hx y hy e => ?_⟩
   subst e
   obtain ⟨h1, h2⟩ := List.mem_filter.1 hx
   have h3 := (List.mem_filter.1 hy).1
   have : JR b x = true := (KP (ha.valid x h1) hb.valid).2 ⟨x, h3, Qbc x⟩
   simp [Kj, this] at h2
  have hs : (XR a b).Pairwise (fun x y => QaP x y = true) := List.pairwise_mergeSort (fun x y z h1 h2 => by
    simp only [QaP, decide_eq_true_eq] at *
    exact Jl.trans _ _ _ h1 h2) (fun x y => by
    have := Jl.anti x y
    simp only [QaP, Bool.or_eq_true, decide_eq_true_eq]
    omega) _
  refine (hs.and hn).imp fun {x y} h => ?_
  have h1 : XK x y ≤ 0 := of_decide_eq_true h.1
  have h2 : XK x y ≠ 0 := fun e => h.2 (Jl.eq x y e)
  omega
 rcases (Ym ha hb).1 hx with h1 | h1 <;> rcases (Ym ha hb).1 hy with h2 | h2
 ·exact ha.anti x h1.1 y h2.1 hl
 ·exact h1.2 ⟨y, h2.1, .inl hl⟩
 ·exact h1.2 ⟨y, h2.1, hl⟩
 exact hb.anti x h1.1 y h2.1 hl
theorem Qgo (ha : Jv a) (hb : Jv b) : ∀ x ∈ a, ∃ y ∈ XR a b, leE x y := fun x hx => by
 by_cases h : ∃ y ∈ b, leE x y
 ·obtain ⟨y, hy, hl⟩ := h
  refine ⟨y, (Ym ha hb).2 (.inr ⟨hy, fun ⟨z, hz, hlt⟩ => ?_⟩), hl⟩
  exact ha.anti x hx z hz (QmD hl hlt)
 exact ⟨x, (Ym ha hb).2 (.inl ⟨hx, h⟩), Qbc x⟩
theorem QeO (ha : Jv a) (hb : Jv b) : ∀ x ∈ b, ∃ y ∈ XR a b, leE x y := fun x hx => by
 by_cases h : ∃ y ∈ a, ltE x y
 ·obtain ⟨y, hy, hl⟩ := h
  refine ⟨y, (Ym ha hb).2 (.inl ⟨hy, fun ⟨z, hz, hle⟩ => ?_⟩), .inl hl⟩
  exact hb.anti x hx z hz (QmP hl hle)
 exact ⟨x, (Ym ha hb).2 (.inr ⟨hx, h⟩), Qbc x⟩
end
structure Lub (l : Qs) (a b j : Qt) : Prop where
 el : Qv j l = true
 le1 : Q0 l a j = true
 le2 : Q0 l b j = true
 least : ∀ c, Qv c l = true → Q0 l a c = true → Q0 l b c = true → Q0 l j c = true
theorem Qk2 {l : Qs} (hO : Ys l) {a b : Qt} (ha : Qv a l = true) (h : Q0 l b a = true) : Lub l a b a := ⟨ha, KC l hO a ha, h, fun _ _ h1 _ => h1⟩
theorem Qi5 {l : Qs} (hO : Ys l) {a b : Qt} (hb : Qv b l = true) (h : Q0 l a b = true) : Lub l a b b := ⟨hb, h, KC l hO b hb, fun _ _ _ h2 => h2⟩
theorem Qac {q : Qs} {a b : Qt} (p3 : a.nm.length = a.ps.length) (p4 : Qn a.nm = true) (q3 : b.nm.length = b.ps.length) (q4 : Qn b.nm = true) {s : Nm} (h : s ∈ a.nm ∨ s ∈ b.nm) :
  (∃ (i : Nat) (p : Qt), a.nm[i]? = some s ∧ a.ps[i]? = some p ∧ s ∉ b.nm ∧ Jd q a b s = p) ∨ (∃ (j : Nat) (y : Qt), b.nm[j]? = some s ∧ b.ps[j]? = some y ∧ s ∉ a.nm ∧ Jd q a b s = y) ∨
  ∃ (i : Nat) (p : Qt) (j : Nat) (y : Qt), a.nm[i]? = some s ∧ a.ps[i]? = some p ∧ b.nm[j]? = some s ∧ b.ps[j]? = some y ∧ Jd q a b s = QD q p y := by
 have at_ : ∀ {v : Qt}, v.nm.length = v.ps.length → Qn v.nm = true → s ∈ v.nm → ∃ (i : Nat) (p : Qt), v.nm[i]? = some s ∧ v.ps[i]? = some p ∧ Je v s = some p := fun {v} h1 h2 h3 => by
  obtain ⟨i, hi⟩ := List.mem_iff_getElem?.1 h3
  obtain ⟨p, hp⟩ := Qr (show i < v.ps.length by have := (List.getElem?_eq_some_iff.1 hi).1; omega)
  exact ⟨i, p, hi, hp, by rw [QbF h2 hi, hp]⟩
 by_cases m1 : s ∈ a.nm <;> by_cases m2 : s ∈ b.nm
 ·obtain ⟨i, p, e1, e2, e3⟩ := at_ p3 p4 m1
  obtain ⟨j, y, f1, f2, f3⟩ := at_ q3 q4 m2
  exact .inr (.inr ⟨i, p, j, y, e1, e2, f1, f2, Qo2 e3 f3⟩)
 ·obtain ⟨i, p, e1, e2, e3⟩ := at_ p3 p4 m1
  exact .inl ⟨i, p, e1, e2, m2, QoR e3 (QbA m2)⟩
 ·obtain ⟨j, y, f1, f2, f3⟩ := at_ q3 q4 m2
  exact .inr (.inl ⟨j, y, f1, f2, m1, QoD (QbA m1) f3⟩)
 rcases h with h | h
 ·exact absurd h m1
 exact absurd h m2
theorem Qa8 {l : List Nm} (h : Qn l = true) {i j : Nat} {s : Nm} (hi : l[i]? = some s) (hj : l[j]? = some s) : i = j := Qdy (Qbw h) hi hj
theorem Qhq (l : Qs) (hO : Ys l) (ih : ∀ q ∈ l.ps, ∀ x y, Qv x q = true → Qv y q = true → Lub q x y (QD q x y)) (a b : Qt) (ha : Qv a l = true) (hb : Qv b l = true) : Lub l a b (QD l a b) := by
 have tot : l.k ≠ 4 → l.k ≠ 10 → l.k ≠ 9 → l.k ≠ 5 → l.k ≠ 6 → (l.k = 7 → KA l.ps a.ps b.ps = none) → Q0 l a b = true ∨ Q0 l b a = true → Lub l a b (QD l a b) := fun h4 h10 h9 h5 h6 hx h => by
  rw [JB h4 h10 h9 h5 h6 hx]
  by_cases h1 : Q0 l a b = true
  ·rw [if_pos h1]; exact Qi5 hO hb h1
  rw [if_neg h1]
  have h2 := h.resolve_left h1
  rw [if_pos h2]; exact Qk2 hO ha h2
 rcases Qcf hO with hk | hk | hk | hk | hk | hk | hk | hk | hk | hk
 ·exact tot (by omega) (by omega) (by omega) (by omega) (by omega) (fun h => by omega) (by rw [Jg (.inl hk), Jg (.inl hk)]; omega)
 ·exact tot (by omega) (by omega) (by omega) (by omega) (by omega) (fun h => by omega) (by rw [Jg (.inr hk), Jg (.inr hk)]; omega)
 ·exact tot (by omega) (by omega) (by omega) (by omega) (by omega) (fun h => by omega) (by rw [Kt hk, Kt hk]; omega)
 ·-- sets
  obtain ⟨p1, p2, p3, p4, p5, p6⟩ := J5 ha (.inl hk)
  obtain ⟨q1, q2, q3, q4, q5, q6⟩ := J5 hb (.inl hk)
  have hE : QD l a b = .mk 0 (WJ a.nm b.nm) [] [] := by rw [XA, hk]; rfl
  rw [hE]
  have hm : ∀ z, z ∈ WJ a.nm b.nm ↔ z ∈ a.nm ∨ z ∈ b.nm := fun z => Qaw p4 q4
  refine ⟨QjF hk rfl rfl rfl (QaS p4 q4) fun s hs => ?_, (JD (.inl hk)).2 fun x hx => (hm x).2 (.inl hx), (JD (.inl hk)).2 fun x hx => (hm x).2 (.inr hx), fun c _ h1 h2 => (JD (.inl hk)).2 fun x hx => ?_⟩
  ·rcases (hm s).1 hs with h | h
   ·exact p5 s h
   exact q5 s h
  rcases (hm x).1 hx with h | h
  ·exact (JD (.inl hk)).1 h1 x h
  exact (JD (.inl hk)).1 h2 x h
 ·-- maps
  obtain ⟨q, hp⟩ := Y5 hO hk
  have mq : q ∈ l.ps := by rw [hp]; simp
  obtain ⟨p1, p2, p3, p4, p5, p6⟩ := Yp ha hk hp
  obtain ⟨q1, q2, q3, q4, q5, q6⟩ := Yp hb hk hp
  obtain ⟨U, hU⟩ : ∃ U, U = WJ a.nm b.nm := ⟨_, rfl⟩
  have hE : QD l a b = .mk 0 U (U.map (Jd q a b)) [] := by rw [XA, hk, hp, Qb7, hU]; rfl
  rw [hE]
  have hm : ∀ z, z ∈ U ↔ z ∈ a.nm ∨ z ∈ b.nm := fun z => by rw [hU]; exact Qaw p4 q4
  have hs : Qn U = true := by rw [hU]; exact QaS p4 q4
  have hlen : U.length = (U.map (Jd q a b)).length := by simp
  have oq := hO.part q mq
  have G : ∀ {i j : Nat} {x y : Qt}, a.ps[i]? = some x → b.ps[j]? = some y → Lub q x y (QD q x y) := fun h1 h2 => ih q mq _ _ (p6 _ (List.mem_of_getElem? h1)).1 (q6 _ (List.mem_of_getElem? h2)).1
  have at_ : ∀ {i : Nat} {s : Nm} {z : Qt}, U[i]? = some s → (U.map (Jd q a b))[i]? = some z → z = Jd q a b s ∧ (s ∈ a.nm ∨ s ∈ b.nm) := fun h1 h2 => by
   rw [List.getElem?_map, h1] at h2
   cases h2
   exact ⟨rfl, (hm _).1 (List.mem_of_getElem? h1)⟩
  have jl : (Qt.mk 0 U (U.map (Jd q a b)) []).nm.length = (Qt.mk 0 U (U.map (Jd q a b)) []).ps.length := hlen
  refine ⟨Qkc hk hp rfl rfl hlen hs (fun s hs => ?_) (fun z hz => ?_), (Kf hk hp p3 jl hs).2 fun i s p h1 h2 => ?_, (Kf hk hp q3 jl hs).2 fun i s p h1 h2 => ?_, fun c hc h1 h2 => ?_⟩
  ·rcases (hm s).1 hs with h | h
   ·exact p5 s h
   exact q5 s h
  ·have hz : z ∈ U.map (Jd q a b) := hz
   obtain ⟨s, hsU, rfl⟩ := List.mem_map.1 hz
   rcases Qac (q := q) p3 p4 q3 q4 ((hm s).1 hsU) with ⟨i, p, e1, e2, -, e4⟩ | ⟨j, y, e1, e2, -, e4⟩ | ⟨i, p, j, y, e1, e2, e3, e4, e5⟩
   ·rw [e4]; exact p6 p (List.mem_of_getElem? e2)
   ·rw [e4]; exact q6 y (List.mem_of_getElem? e2)
   rw [e5]
   have L := G e2 e4
   refine ⟨L.el, fun e => ?_⟩
   have hpm := p6 p (List.mem_of_getElem? e2)
   exact hpm.2 (WV q oq p _ hpm.1 (Qae q oq) (by rw [← e]; exact L.le1) (Ks q oq p hpm.1))
  ·obtain ⟨j, hj⟩ := List.mem_iff_getElem?.1 ((hm s).2 (.inl (List.mem_of_getElem? h1)))
   refine ⟨j, Jd q a b s, hj, by show (U.map (Jd q a b))[j]? = _; rw [List.getElem?_map, hj]; rfl, ?_⟩
   rcases Qac (q := q) p3 p4 q3 q4 (.inl (List.mem_of_getElem? h1)) with ⟨i', p', e1, e2, -, e4⟩ | ⟨_, _, _, _, e3, _⟩ | ⟨i', p', j', y, e1, e2, e3, e4, e5⟩
   ·have := Qa8 p4 h1 e1; subst this
    rw [h2] at e2; cases e2
    rw [e4]; exact KC q oq p (p6 p (List.mem_of_getElem? h2)).1
   ·exact absurd (List.mem_of_getElem? h1) e3
   have := Qa8 p4 h1 e1; subst this
   rw [h2] at e2; cases e2
   rw [e5]; exact (G h2 e4).le1
  ·obtain ⟨j, hj⟩ := List.mem_iff_getElem?.1 ((hm s).2 (.inr (List.mem_of_getElem? h1)))
   refine ⟨j, Jd q a b s, hj, by show (U.map (Jd q a b))[j]? = _; rw [List.getElem?_map, hj]; rfl, ?_⟩
   rcases Qac (q := q) p3 p4 q3 q4 (.inr (List.mem_of_getElem? h1)) with ⟨_, _, _, _, e3, _⟩ | ⟨i', p', e1, e2, -, e4⟩ | ⟨i', p', j', y, e1, e2, e3, e4, e5⟩
   ·exact absurd (List.mem_of_getElem? h1) e3
   ·have := Qa8 q4 h1 e1; subst this
    rw [h2] at e2; cases e2
    rw [e4]; exact KC q oq p (q6 p (List.mem_of_getElem? h2)).1
   have := Qa8 q4 h1 e3; subst this
   rw [h2] at e4; cases e4
   rw [e5]; exact (G e2 h2).le2
  obtain ⟨-, -, r3, r4, -, r6⟩ := Yp hc hk hp
  have l1 := (Kf hk hp p3 r3 r4).1 h1
  have l2 := (Kf hk hp q3 r3 r4).1 h2
  refine (Kf hk hp jl r3 r4).2 fun i s z hs hz => ?_
  obtain ⟨rfl, hor⟩ := at_ hs hz
  rcases Qac (q := q) p3 p4 q3 q4 hor with ⟨i', p, e1, e2, -, e4⟩ | ⟨j', y, e1, e2, -, e4⟩ | ⟨i', p, j', y, e1, e2, e3, e4, e5⟩
  ·rw [e4]; exact l1 i' s p e1 e2
  ·rw [e4]; exact l2 j' s y e1 e2
  obtain ⟨k1, z1, g1, g2, g3⟩ := l1 i' s p e1 e2
  obtain ⟨k2, z2, g4, g5, g6⟩ := l2 j' s y e3 e4
  have := Qa8 r4 g1 g4; subst this
  rw [g2] at g5; cases g5
  exact ⟨k1, z1, g1, g2, by rw [e5]; exact (G e2 e4).least z1 (r6 z1 (List.mem_of_getElem? g2)).1 g3 g6⟩
 ·-- products
  obtain ⟨p1, p2, p3, p4, p5⟩ := Jo ha (.inl hk)
  obtain ⟨q1, q2, q3, q4, q5⟩ := Jo hb (.inl hk)
  have hE : QD l a b = .mk 0 [] (Y9 l.ps a.ps b.ps) [] := by rw [XA, hk]; rfl
  rw [hE]
  have hlen := QeM p4 q4
  have hat : ∀ {k : Nat} {z : Qt}, (Y9 l.ps a.ps b.ps)[k]? = some z → ∃ q x y, l.ps[k]? = some q ∧ a.ps[k]? = some x ∧ b.ps[k]? = some y ∧ z = QD q x y := fun hz => Qni p4 q4 hz hlen (fun q x y h1 h2 h3 => Qff h1 h2 h3)
  have G : ∀ {k : Nat} {q : Qs} {x y : Qt}, l.ps[k]? = some q → a.ps[k]? = some x → b.ps[k]? = some y → Lub q x y (QD q x y) := fun h1 h2 h3 => ih _ (List.mem_of_getElem? h1) _ _ (Xt p5 h2 h1) (Xt q5 h3 h1)
  refine ⟨QcH (.inl hk) rfl rfl rfl hlen ((Qat hlen).2 fun k z q hz hq => ?_), ?_, ?_, fun c hc h1 h2 => ?_⟩
  ·obtain ⟨q', x, y, e1, e2, e3, rfl⟩ := hat hz
   rw [hq] at e1; cases e1
   exact (G hq e2 e3).el
  ·rw [Yj hk]
   refine Qfs p4 hlen fun k q x z hq hx hz => ?_
   obtain ⟨q', x', y, e1, e2, e3, rfl⟩ := hat hz
   rw [hq] at e1; cases e1
   rw [hx] at e2; cases e2
   exact (G hq hx e3).le1
  ·rw [Yj hk]
   refine Qfs q4 hlen fun k q y z hq hy hz => ?_
   obtain ⟨q', x, y', e1, e2, e3, rfl⟩ := hat hz
   rw [hq] at e1; cases e1
   rw [hy] at e3; cases e3
   exact (G hq e2 hy).le2
  obtain ⟨-, -, -, r4, r5⟩ := Jo hc (.inl hk)
  rw [Yj hk, JS p4 r4] at h1
  rw [Yj hk, JS q4 r4] at h2
  rw [Yj hk]
  refine Qfs hlen r4 fun k q z u hq hz hu => ?_
  obtain ⟨q', x, y, e1, e2, e3, rfl⟩ := hat hz
  rw [hq] at e1; cases e1
  exact (G hq e2 e3).least u (Xt r5 hu hq) (h1 k q x u hq e2 hu) (h2 k q y u hq e3 hu)
 ·-- pairs
  obtain ⟨p, q, hp⟩ := YH hO.shape hk
  have mq : q ∈ l.ps := by rw [hp]; simp
  obtain ⟨x1, x2, ea, u1, u2⟩ := JL ha hk hp
  obtain ⟨y1, y2, eb, v1, v2⟩ := JL hb hk hp
  by_cases e : x1 = y1
  ·subst e
   have hE : QD l a b = .mk 0 [] [x1, QD q x2 y2] [] := by rw [XA, hk, hp, ea, eb]; simp [KA, (Jm x1 x1).2 rfl]
   rw [hE]
   have G := ih q mq x2 y2 u2 v2
   have hps : (Qt.mk 0 [] [x1, QD q x2 y2] []).ps = [x1, QD q x2 y2] := rfl
   refine ⟨QcH (.inr hk) rfl rfl rfl (by rw [hps, hp]; rfl) (by rw [hps, hp]; simp [J3, u1, G.el]), (JU hk hp ea hps).2 (.inl ⟨rfl, G.le1⟩), (JU hk hp eb hps).2 (.inl ⟨rfl, G.le2⟩), fun c hc h1 h2 => ?_⟩
   obtain ⟨z1, z2, ec, w1, w2⟩ := JL hc hk hp
   refine (JU hk hp hps ec).2 ?_
   rcases (JU hk hp ea ec).1 h1 with ⟨e1, g1⟩ | ⟨e1, g1⟩
   ·rcases (JU hk hp eb ec).1 h2 with ⟨e2, g2⟩ | ⟨e2, g2⟩
    ·exact .inl ⟨e1, G.least z2 w2 g1 g2⟩
    exact absurd e1 e2
   exact .inr ⟨e1, g1⟩
  have hx : KA l.ps a.ps b.ps = none := by rw [hp, ea, eb, KA, if_neg (fun h => e ((Jm _ _).1 h))]
  refine tot (by omega) (by omega) (by omega) (by omega) (by omega) (fun _ => hx) ?_
  rw [JU hk hp ea eb, JU hk hp eb ea]
  rcases QiO hO hk hp u1 v1 with h | h
  ·exact .inl (.inr ⟨e, h⟩)
  exact .inr (.inr ⟨fun e' => e e'.symm, h⟩)
 ·-- flat lattices
  by_cases h1 : Q0 l a b = true
  ·exact tot (by omega) (by omega) (by omega) (by omega) (by omega) (fun h => by omega) (.inl h1)
  by_cases h2 : Q0 l b a = true
  ·exact tot (by omega) (by omega) (by omega) (by omega) (by omega) (fun h => by omega) (.inr h2)
  have hE : QD l a b = .mk 2 [] [] [] := by rw [JB (by omega) (by omega) (by omega) (by omega) (by omega) (fun h => by omega), if_neg h1, if_neg h2]
  rw [hE]
  rw [J1 hk] at h1 h2
  have hz : Qv (.mk 2 [] [] []) l = true := by rw [Qw, hk]; rfl
  refine ⟨hz, (J1 hk).2 (.inr (.inl rfl)), (J1 hk).2 (.inr (.inl rfl)), fun c hc g1 g2 => (J1 hk).2 ?_⟩
  rcases (J1 hk).1 g1 with g | g | g
  ·exact absurd (.inl g) h1
  ·exact .inr (.inl g)
  rcases (J1 hk).1 g2 with g' | g' | g'
  ·exact absurd (.inl g') h2
  ·exact .inr (.inl g')
  exact absurd (.inr (.inr (g.trans g'.symm))) h1
 ·-- registers
  obtain ⟨p1, p2, p3, p4⟩ := YV ha hk
  obtain ⟨q1, q2, q3, q4⟩ := YV hb hk
  have hE : QD l a b = .mk 0 [] [] (XR a.es b.es) := by rw [XA, hk]; rfl
  rw [hE]
  have hM : Jv (Qt.mk 0 [] [] (XR a.es b.es)).es := Qjb p4 q4
  refine ⟨by rw [Qw, hk]; simp [XI, Qt.N, Qt.nm, Qt.ps]; exact hM.regB_, (Kb hk p4 hM).2 (Qgo p4 q4), (Kb hk q4 hM).2 (QeO p4 q4), fun c hc h1 h2 => ?_⟩
  obtain ⟨-, -, -, r4⟩ := YV hc hk
  refine (Kb hk hM r4).2 fun x hx => ?_
  rcases Qa0 p4 q4 hx with h | h
  ·exact (Kb hk p4 r4).1 h1 x h
  exact (Kb hk q4 r4).1 h2 x h
 obtain ⟨p1, p2, p3, p4, p5, p6⟩ := J5 ha (.inr hk)
 obtain ⟨q1, q2, q3, q4, q5, q6⟩ := J5 hb (.inr hk)
 have hE : QD l a b = .mk 0 (YE l.nm l.rs (WJ a.nm b.nm)) [] [] := by rw [XA, hk]; rfl
 rw [hE]
 have sy := QhN hO hk
 have hm : ∀ z, z ∈ WJ a.nm b.nm ↔ z ∈ a.nm ∨ z ∈ b.nm := fun z => Qaw p4 q4
 have up : ∀ {z}, z ∈ a.nm ∨ z ∈ b.nm → z ∈ YE l.nm l.rs (WJ a.nm b.nm) := fun {z} h => by
  refine Wf.2 ⟨?_, QgK _ _ ((hm z).2 h)⟩
  rcases h with h | h
  ·exact Wx hO hk ha z h
  exact Wx hO hk hb z h
 refine ⟨Qeo hk rfl rfl rfl (QeZ sy.s) (fun s hs => ?_) (Qfj fun r hr => (sy.r r hr).2.2), (JD (.inr hk)).2 fun x hx => up (.inl hx), (JD (.inr hk)).2 fun x hx => up (.inr hx), fun c hc h1 h2 => (JD (.inr hk)).2 fun x hx => ?_⟩
 ·have hu := (Wf.1 hs).1
  simp [Yk, sy.v s hu, Yf.2 hu]
 obtain ⟨-, -, -, -, -, r6⟩ := J5 hc (.inr hk)
 refine QgM (r6 hk) _ _ (fun z hz => ?_) x (Wf.1 hx).2
 rcases (hm z).1 hz with h | h
 ·exact (JD (.inr hk)).1 h1 z h
 exact (JD (.inr hk)).1 h2 z h
theorem Qdr (l : Qs) (hO : Ys l) (a b : Qt) (ha : Qv a l = true) (hb : Qv b l = true) : Lub l a b (QD l a b) := Qhq l hO (fun q hq x y hx hy => Qdr q (hO.part q hq) x y hx hy) a b ha hb
termination_by l
decreasing_by exact Qs.sizeOf_ps ‹_›
section
variable {l : Qs} {a b c : Qt}
theorem Qgl (hO : Ys l) (ha : Qv a l = true) (hb : Qv b l = true) (h : Q0 l a b = true) : QD l a b = b := by
 have L := Qdr l hO a b ha hb
 exact WV l hO _ _ L.el hb (L.least b hb h (KC l hO b hb)) L.le2
theorem QdD (hO : Ys l) (ha : Qv a l = true) : QD l (Qm l) a = a := Qgl hO (Qae l hO) ha (Ks l hO a ha)
end
theorem Qjl {n m : Nat} (hnm : 64 ≤ n + m) (l : Qs) (hO : Ys l) (ih : ∀ q ∈ l.ps, ∀ x y, Qv x q = true → Qv y q = true → Wc n x → Wc m y → Wc (n + m) (QD q x y)) (a b : Qt) (ha : Qv a l = true) (hb : Qv b l = true) (sa : Wc n a) (sb : Wc m b) : Wc (n + m) (QD l a b) := by
 have na := sa.nm
 have nb := sb.nm
 have nil : ∀ {N : Int} {u : List Nm}, u.length ≤ n + m → Wc (n + m) (.mk N u [] []) := fun {N u} h => .mk _ h (Nat.zero_le _) (Nat.zero_le _) (by intro e he; cases he) (by intro e he; cases he)
 have els : ∀ {v : Qt}, v = a ∨ v = b ∨ v = .mk 2 [] [] [] → Wc (n + m) v := fun h => by
  rcases h with h | h | h
  ·exact h ▸ sa.up (by omega)
  ·exact h ▸ sb.up (by omega)
  rw [h]; exact nil (Nat.zero_le _)
 have tot : l.k ≠ 4 → l.k ≠ 10 → l.k ≠ 9 → l.k ≠ 5 → l.k ≠ 6 → (l.k = 7 → KA l.ps a.ps b.ps = none) → Wc (n + m) (QD l a b) := fun h4 h10 h9 h5 h6 hx => by
  rw [JB h4 h10 h9 h5 h6 hx]
  split
  ·exact els (.inr (.inl rfl))
  split
  ·exact els (.inl rfl)
  exact els (.inr (.inr rfl))
 rcases Qcf hO with hk | hk | hk | hk | hk | hk | hk | hk | hk | hk
 ·exact tot (by omega) (by omega) (by omega) (by omega) (by omega) (fun h => by omega)
 ·exact tot (by omega) (by omega) (by omega) (by omega) (by omega) (fun h => by omega)
 ·exact tot (by omega) (by omega) (by omega) (by omega) (by omega) (fun h => by omega)
 ·obtain ⟨-, -, -, p4, -, -⟩ := J5 ha (.inl hk)
  obtain ⟨-, -, -, q4, -, -⟩ := J5 hb (.inl hk)
  have hE : QD l a b = .mk 0 (WJ a.nm b.nm) [] [] := by rw [XA, hk]; rfl
  have := QeS p4 q4
  rw [hE]; exact nil (by omega)
 ·obtain ⟨q, hp⟩ := Y5 hO hk
  have mq : q ∈ l.ps := by rw [hp]; simp
  obtain ⟨-, -, p3, p4, -, p6⟩ := Yp ha hk hp
  obtain ⟨-, -, q3, q4, -, q6⟩ := Yp hb hk hp
  have hE : QD l a b = .mk 0 (WJ a.nm b.nm) ((WJ a.nm b.nm).map (Jd q a b)) [] := by rw [XA, hk, hp, Qb7]; rfl
  have hl := QeS p4 q4
  rw [hE]
  refine .mk _ (show (WJ a.nm b.nm).length ≤ n + m by omega) (show ((WJ a.nm b.nm).map (Jd q a b)).length ≤ n + m by rw [List.length_map]; omega) (Nat.zero_le _) (by intro e he; cases he) (fun z hz => ?_)
  obtain ⟨s, hs, rfl⟩ := List.mem_map.1 (show z ∈ (WJ a.nm b.nm).map (Jd q a b) from hz)
  rcases Qac (q := q) p3 p4 q3 q4 ((Qaw p4 q4).1 hs) with ⟨i, p, e1, e2, -, e4⟩ | ⟨j, y, e1, e2, -, e4⟩ | ⟨i, p, j, y, e1, e2, e3, e4, e5⟩
  ·rw [e4]; exact (sa.part p (List.mem_of_getElem? e2)).up (by omega)
  ·rw [e4]; exact (sb.part y (List.mem_of_getElem? e2)).up (by omega)
  have m1 := List.mem_of_getElem? e2
  have m2 := List.mem_of_getElem? e4
  rw [e5]; exact ih q mq p y (p6 p m1).1 (q6 y m2).1 (sa.part p m1) (sb.part y m2)
 ·obtain ⟨-, -, -, p4, p5⟩ := Jo ha (.inl hk)
  obtain ⟨-, -, -, q4, q5⟩ := Jo hb (.inl hk)
  have hE : QD l a b = .mk 0 [] (Y9 l.ps a.ps b.ps) [] := by rw [XA, hk]; rfl
  have hlen := QeM p4 q4
  have := hO.small
  rw [hE]
  refine .mk _ (Nat.zero_le _) (show (Y9 l.ps a.ps b.ps).length ≤ n + m by omega) (Nat.zero_le _) (by intro e he; cases he) (fun z hz => ?_)
  obtain ⟨k, hk'⟩ := List.mem_iff_getElem?.1 (show z ∈ Y9 l.ps a.ps b.ps from hz)
  obtain ⟨q, x, y, e1, e2, e3, rfl⟩ := Qni p4 q4 hk' hlen (fun q x y h1 h2 h3 => Qff h1 h2 h3)
  exact ih q (List.mem_of_getElem? e1) x y (Xt p5 e2 e1) (Xt q5 e3 e1) (sa.part x (List.mem_of_getElem? e2)) (sb.part y (List.mem_of_getElem? e3))
 ·obtain ⟨p, q, hp⟩ := YH hO.shape hk
  have mq : q ∈ l.ps := by rw [hp]; simp
  obtain ⟨x1, x2, ea, u1, u2⟩ := JL ha hk hp
  obtain ⟨y1, y2, eb, v1, v2⟩ := JL hb hk hp
  by_cases e : x1 = y1
  ·subst e
   have hE : QD l a b = .mk 0 [] [x1, QD q x2 y2] [] := by rw [XA, hk, hp, ea, eb]; simp [KA, (Jm x1 x1).2 rfl]
   rw [hE]
   refine .mk _ (Nat.zero_le _) (show 2 ≤ n + m by omega) (Nat.zero_le _) (by intro e he; cases he) (fun z hz => ?_)
   have hz : z ∈ [x1, QD q x2 y2] := hz
   rcases List.mem_cons.1 hz with rfl | hz
   ·exact (sa.part z (by rw [ea]; simp)).up (by omega)
   rcases List.mem_cons.1 hz with rfl | hz
   ·exact ih q mq x2 y2 u2 v2 (sa.part x2 (by rw [ea]; simp)) (sb.part y2 (by rw [eb]; simp))
   cases hz
  have hx : KA l.ps a.ps b.ps = none := by rw [hp, ea, eb, KA, if_neg (fun h => e ((Jm _ _).1 h))]
  exact tot (by omega) (by omega) (by omega) (by omega) (by omega) (fun _ => hx)
 ·exact tot (by omega) (by omega) (by omega) (by omega) (by omega) (fun h => by omega)
 ·obtain ⟨-, -, -, p4⟩ := YV ha hk
  obtain ⟨-, -, -, q4⟩ := YV hb hk
  have hE : QD l a b = .mk 0 [] [] (XR a.es b.es) := by rw [XA, hk]; rfl
  have h1 := sa.es
  have h2 := sb.es
  have hl : (XR a.es b.es).length ≤ n + m := by
   unfold XR
   rw [List.length_mergeSort, List.length_append]
   have := List.length_filter_le (Kj b.es) a.es
   have := List.length_filter_le (Wg a.es) b.es
   omega
  rw [hE]
  refine .mk _ (Nat.zero_le _) (Nat.zero_le _) hl (fun e he => ?_) (by intro e he; cases he)
  rcases Qa0 p4 q4 (show e ∈ XR a.es b.es from he) with h | h
  ·exact sa.en e h
  exact sb.en e h
 have sy := QhN hO hk
 have hE : QD l a b = .mk 0 (YE l.nm l.rs (WJ a.nm b.nm)) [] [] := by rw [XA, hk]; rfl
 obtain ⟨-, -, -, p4, -, -⟩ := J5 ha (.inr hk)
 obtain ⟨-, -, -, q4, -, -⟩ := J5 hb (.inr hk)
 have h := hO.four.1
 have hl : l.nm.length ≤ 64 := by
  unfold XH X4 at h
  rw [hk, show Yy 10 = 12 from rfl] at h
  by_cases hg : (l.nm.length : Int) > 12
  ·simp [hg] at h
  omega
 have := List.length_filter_le (XV (Jk l.rs l.rs.length (WJ a.nm b.nm))) l.nm
 rw [hE]; exact nil (by show (l.nm.filter _).length ≤ _; omega)
theorem Qio {n m : Nat} (hnm : 64 ≤ n + m) (l : Qs) (hO : Ys l) (a b : Qt) (ha : Qv a l = true) (hb : Qv b l = true) (sa : Wc n a) (sb : Wc m b) : Wc (n + m) (QD l a b) := Qjl hnm l hO (fun q hq x y hx hy sx sy => Qio hnm q (hO.part q hq) x y hx hy sx sy) a b ha hb sa sb
termination_by l
decreasing_by exact Qs.sizeOf_ps ‹_›
theorem QjG (l : Qs) (hO : Ys l) : Wc 64 (Qm l) := by
 have h := hO.small
 refine .mk _ (by rw [Qhl]; exact Nat.zero_le _) ?_ (by rw [Qfa]; exact Nat.zero_le _) (by rw [Qfa]; intro e he; cases he) (fun p hp => ?_)
 ·rw [Qe8]; split <;> simp <;> omega
 rw [Qe8] at hp
 split at hp
 ·obtain ⟨q, hq, rfl⟩ := List.mem_map.1 hp
  exact QjG q (hO.part q hq)
 cases hp
termination_by l
decreasing_by exact Qs.sizeOf_ps ‹_›
theorem QjA {l : Qs} (hO : Ys l) {a b : Qt} (ha : Qv a l = true) : KL l [a, b] = QD l a b := by
 show QD l (QD l (Qm l) a) b = _
 rw [QdD hO ha]
end Go.Proofs.YtnkkokmmeplbgaaGreat
namespace Go.Proofs.YtnkkokmmeplbgaaGreat
open Go.RowKit
end Go.Proofs.YtnkkokmmeplbgaaGreat
namespace Go.Proofs.YtnkkokmmeplbgaaGreat
open Go.RowKit
theorem Qay {s : Nm} (h : s.length < 1 ∨ 16 < s.length ∨ Qiu s = false) : Xb s = false := by
 unfold Xb
 rcases h with h | h | h
 ·have : s = [] := List.eq_nil_of_length_eq_zero (by omega)
  subst this; rfl
 ·rw [decide_eq_false (by omega)]; rfl
 rw [h]; simp
theorem QmO {s : Nm} (h : ¬ s.length < 1) : ∃ c : UInt8, s[0]? = some c ∧ Qiu s = (decide (97 ≤ (c.toNat : Int)) && decide ((c.toNat : Int) ≤ 122)) := by
 cases s with
 | nil => simp at h
 | cons c r => exact ⟨c, rfl, rfl⟩
end Go.Proofs.YtnkkokmmeplbgaaGreat
