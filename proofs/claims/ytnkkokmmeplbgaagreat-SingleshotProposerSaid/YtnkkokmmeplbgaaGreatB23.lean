/-
  Contracts: registers, meets.
-/
import Derived.Test.YtnkkokmmeplbgaaGreatB18
import Derived.Test.YtnkkokmmeplbgaaGreatB20
import Derived.Test.YtnkkokmmeplbgaaGreatB13
namespace Go.Proofs.YtnkkokmmeplbgaaGreat
open Go.RowKit
theorem QkU {l : QD} (hO : YK l) (hk : l.k = 10) : Qdj l.nm l.rs := by
 obtain ⟨h1, h2, h3⟩ := Qgp hO
 have h := hO.four.1
 unfold JC J1 at h
 rw [hk, show Y7 10 = 12 from rfl] at h
 have hl : (decide ((l.nm.length : Int) > 12) || decide ((l.rs.length : Int) > 32)) = false := by
  cases hb : (decide ((l.nm.length : Int) > 12) || decide ((l.rs.length : Int) > 32))
  ·rfl
  rw [hb] at h; cases h
 simp only [Bool.or_eq_false_iff, decide_eq_false_iff_not] at hl
 exact ⟨h2 (by omega), h1, by omega, by omega, h3⟩
theorem JoL.of (l : QD) (hO : YK l) : JoL l := .mk l (fun hk s h1 h2 => QjV l.nm l.rs (QkU hO hk) s h1 h2) (fun p hp => JoL.of p (hO.part p hp))
termination_by l
decreasing_by exact QD.sizeOf_ps ‹_›
section
variable {rs : List Ru} {s t c : List Nm}
theorem Qox {x : Nm} (h : x ∈ s) : x ∈ Wb rs s := by
 unfold Wb
 split
 ·exact List.mem_append_left _ h
 exact h
theorem QjB : ∀ (n : Nat) (s : List Nm) {x : Nm}, x ∈ s → x ∈ J9 rs n s
 | 0, _, _, h => h
 | n + 1, s, _, h => QjB n (Wb rs s) (Qox h)
theorem Qou (hc : Wk rs c = true) (h : ∀ x ∈ s, x ∈ c) : ∀ x ∈ Wb rs s, x ∈ c := by
 unfold Wb
 split
 ·rename_i r hr
  have h1 := List.find?_some hr
  simp only [Bool.and_eq_true] at h1
  have h2 := List.all_eq_true.1 hc r (List.mem_of_find?_eq_some hr)
  simp only [K8, Bool.not_eq_true', Bool.and_eq_false_iff, Bool.not_eq_false'] at h2
  have h3 : JT r.i c = true := YL.2 fun x hx => h x (YL.1 h1.1 x hx)
  rw [h3] at h2
  have h4 := Yb.1 (h2.resolve_left (by decide))
  intro x hx
  rcases List.mem_append.1 hx with hx | hx
  ·exact h x hx
  rw [List.mem_singleton.1 hx]; exact h4
 exact h
theorem QjI (hc : Wk rs c = true) : ∀ (n : Nat) (s : List Nm), (∀ x ∈ s, x ∈ c) → ∀ x ∈ J9 rs n s, x ∈ c
 | 0, _, h => h
 | n + 1, s, h => QjI hc n (Wb rs s) (Qou hc h)
theorem Qm3 : YP (XV (J9 rs rs.length s)) rs 0 = none := by
 cases hf : YP (XV (J9 rs rs.length s)) rs 0 with
 | none => rfl
 | some p =>
  obtain ⟨h1, h2⟩ := YD _ rs 0 (j := p.1) (r := p.2) hf
  have key : ∀ (n : Nat) (t : List Nm), Qbu rs t ≤ n → Qbu rs (J9 rs n t) = 0 ∨ YP (XV (J9 rs n t)) rs 0 = none := by
   intro n
   induction n with
   | zero => intro t h; exact .inl (by simp only [J9]; omega)
   | succ n ih =>
    intro t h
    cases hf : YP (XV t) rs 0 with
    | none => right; rw [Kq (WC hf)]; exact hf
    | some p =>
     obtain ⟨h1, h2⟩ := YD _ rs 0 (j := p.1) (r := p.2) hf
     have h3 : Wb rs t = t ++ [p.2.t] := by rw [Qex, hf]
     have h4 := Y4 h2 h1
     show Qbu rs (J9 rs n (Wb rs t)) = 0 ∨ YP (XV (J9 rs n (Wb rs t))) rs 0 = none
     rw [h3]
     exact ih _ (by omega)
  rcases key rs.length s Qeo with h | h
  ·have := Y4 h2 h1; omega
  rw [hf] at h; cases h
end
theorem Qbd {u : List Nm} {rs : List Ru} {s : List Nm} {x : Nm} : x ∈ Ka u rs s ↔ x ∈ u ∧ x ∈ J9 rs rs.length s := by
 unfold Ka
 rw [List.mem_filter, Yb]
theorem QiG {u : List Nm} {rs : List Ru} {s : List Nm} (h : Qq u = true) : Qq (Ka u rs s) = true := Wj ((XP h).filter _)
theorem Qit {u : List Nm} {rs : List Ru} {s : List Nm} (h : ∀ r ∈ rs, r.t ∈ u) : Wk rs (Ka u rs s) = true := by
 unfold Wk
 rw [List.all_eq_true]
 intro r hr
 have h1 := QoT (Qm3 (rs := rs) (s := s)) r hr
 simp only [K8, Bool.not_eq_true', Bool.and_eq_false_iff, Bool.not_eq_false']
 cases hs : JT r.i (Ka u rs s)
 ·exact .inl rfl
 ·right
  have h2 : JT r.i (J9 rs rs.length s) = true := YL.2 fun x hx => (Qbd.1 (YL.1 hs x hx)).2
  rw [XV, h2] at h1
  have h3 : X2 (J9 rs rs.length s) r.t = true := by simpa using h1
  exact Yb.2 (Qbd.2 ⟨h r hr, Yb.1 h3⟩)
section
variable {a b : List En}
theorem Ke (ha : JP a) (hb : JP b) {x : En} : x ∈ Jw a b ↔ (x ∈ a ∧ ¬ ∃ y ∈ b, leE x y) ∨ (x ∈ b ∧ ¬ ∃ y ∈ a, ltE x y) := by
 unfold Jw
 rw [List.mem_mergeSort, List.mem_append, List.mem_filter, List.mem_filter]
 refine or_congr (and_congr_right fun hx => ?_) (and_congr_right fun hx => ?_)
 ·rw [← QaV (ha.valid x hx) hb.valid, W8]; simp
 unfold Qbv
 rw [Bool.not_eq_true', List.any_eq_false]
 constructor
 ·rintro h ⟨y, hy, hl⟩
  exact h y hy ((Qho (hb.valid x hx) (ha.valid y hy)).2 hl)
 intro h y hy hl
 exact h ⟨y, hy, (Qho (hb.valid x hx) (ha.valid y hy)).1 hl⟩
theorem QdK (ha : JP a) (hb : JP b) {x : En} (h : x ∈ Jw a b) : x ∈ a ∨ x ∈ b := by
 rcases (Ke ha hb).1 h with h | h
 ·exact .inl h.1
 exact .inr h.1
theorem Qh7 (ha : JP a) (hb : JP b) : JP (Jw a b) := by
 have each : ∀ {P : En → Prop}, (∀ x ∈ a, P x) → (∀ x ∈ b, P x) → ∀ x ∈ Jw a b, P x := fun h1 h2 x hx => by
  rcases QdK ha hb hx with h | h
  ·exact h1 x h
  exact h2 x h
 refine ⟨each ha.valid hb.valid, each ha.ne hb.ne, each ha.name hb.name, ?_, fun x hx y hy hl => ?_⟩
 ·have hn : (Jw a b).Nodup := by
   unfold Jw
   rw [(List.mergeSort_perm _ _).nodup_iff, List.nodup_append]
   refine ⟨ha.nodup.filter _, hb.nodup.filter _, fun x hx y hy e => ?_⟩
   subst e
   obtain ⟨h1, h2⟩ := List.mem_filter.1 hx
   have h3 := (List.mem_filter.1 hy).1
   have : JK b x = true := (QaV (ha.valid x h1) hb.valid).2 ⟨x, h3, Qd0 x⟩
   simp [W8, this] at h2
  have hs : (Jw a b).Pairwise (fun x y => Qdw x y = true) := List.pairwise_mergeSort (fun x y z h1 h2 => by
    simp only [Qdw, decide_eq_true_eq] at *
    exact Jg.trans _ _ _ h1 h2) (fun x y => by
    have := Jg.anti x y
    simp only [Qdw, Bool.or_eq_true, decide_eq_true_eq]
    omega) _
  refine (hs.and hn).imp fun {x y} h => ?_
  have h1 : Jb x y ≤ 0 := of_decide_eq_true h.1
  have h2 : Jb x y ≠ 0 := fun e => h.2 (Jg.eq x y e)
  omega
 rcases (Ke ha hb).1 hx with h1 | h1 <;> rcases (Ke ha hb).1 hy with h2 | h2
 ·exact ha.anti x h1.1 y h2.1 hl
 ·exact h1.2 ⟨y, h2.1, .inl hl⟩
 ·exact h1.2 ⟨y, h2.1, hl⟩
 exact hb.anti x h1.1 y h2.1 hl
theorem Qj1 (ha : JP a) (hb : JP b) : ∀ x ∈ a, ∃ y ∈ Jw a b, leE x y := fun x hx => by
 by_cases h : ∃ y ∈ b, leE x y
 ·obtain ⟨y, hy, hl⟩ := h
  refine ⟨y, (Ke ha hb).2 (.inr ⟨hy, fun ⟨z, hz, hlt⟩ => ?_⟩), hl⟩
  exact ha.anti x hx z hz (Qp9 hl hlt)
 exact ⟨x, (Ke ha hb).2 (.inl ⟨hx, h⟩), Qd0 x⟩
theorem Qis (ha : JP a) (hb : JP b) : ∀ x ∈ b, ∃ y ∈ Jw a b, leE x y := fun x hx => by
 by_cases h : ∃ y ∈ a, ltE x y
 ·obtain ⟨y, hy, hl⟩ := h
  refine ⟨y, (Ke ha hb).2 (.inl ⟨hy, fun ⟨z, hz, hle⟩ => ?_⟩), .inl hl⟩
  exact hb.anti x hx z hz (Qq2 hl hle)
 exact ⟨x, (Ke ha hb).2 (.inr ⟨hx, h⟩), Qd0 x⟩
end
structure Lub (l : QD) (a b j : Qw) : Prop where
 el : Qt j l = true
 le1 : Xl l a j = true
 le2 : Xl l b j = true
 least : ∀ c, Qt c l = true → Xl l a c = true → Xl l b c = true → Xl l j c = true
theorem QpV {l : QD} (hO : YK l) {a b : Qw} (ha : Qt a l = true) (h : Xl l b a = true) : Lub l a b a := ⟨ha, Wc l hO a ha, h, fun _ _ h1 _ => h1⟩
theorem Qnj {l : QD} (hO : YK l) {a b : Qw} (hb : Qt b l = true) (h : Xl l a b = true) : Lub l a b b := ⟨hb, h, Wc l hO b hb, fun _ _ _ h2 => h2⟩
theorem Qca {q : QD} {a b : Qw} (p3 : a.nm.length = a.ps.length) (p4 : Qq a.nm = true) (q3 : b.nm.length = b.ps.length) (q4 : Qq b.nm = true) {s : Nm} (h : s ∈ a.nm ∨ s ∈ b.nm) :
  (∃ (i : Nat) (p : Qw), a.nm[i]? = some s ∧ a.ps[i]? = some p ∧ s ∉ b.nm ∧ J0 q a b s = p) ∨ (∃ (j : Nat) (y : Qw), b.nm[j]? = some s ∧ b.ps[j]? = some y ∧ s ∉ a.nm ∧ J0 q a b s = y) ∨
  ∃ (i : Nat) (p : Qw) (j : Nat) (y : Qw), a.nm[i]? = some s ∧ a.ps[i]? = some p ∧ b.nm[j]? = some s ∧ b.ps[j]? = some y ∧ J0 q a b s = QR q p y := by
 have at_ : ∀ {v : Qw}, v.nm.length = v.ps.length → Qq v.nm = true → s ∈ v.nm → ∃ (i : Nat) (p : Qw), v.nm[i]? = some s ∧ v.ps[i]? = some p ∧ Xy v s = some p := fun {v} h1 h2 h3 => by
  obtain ⟨i, hi⟩ := List.mem_iff_getElem?.1 h3
  obtain ⟨p, hp⟩ := Qn (show i < v.ps.length by have := (List.getElem?_eq_some_iff.1 hi).1; omega)
  exact ⟨i, p, hi, hp, by rw [Qam h2 hi, hp]⟩
 by_cases m1 : s ∈ a.nm <;> by_cases m2 : s ∈ b.nm
 ·obtain ⟨i, p, e1, e2, e3⟩ := at_ p3 p4 m1
  obtain ⟨j, y, f1, f2, f3⟩ := at_ q3 q4 m2
  exact .inr (.inr ⟨i, p, j, y, e1, e2, f1, f2, QtF e3 f3⟩)
 ·obtain ⟨i, p, e1, e2, e3⟩ := at_ p3 p4 m1
  exact .inl ⟨i, p, e1, e2, m2, QtJ e3 (KZ m2)⟩
 ·obtain ⟨j, y, f1, f2, f3⟩ := at_ q3 q4 m2
  exact .inr (.inl ⟨j, y, f1, f2, m1, QtC (KZ m1) f3⟩)
 rcases h with h | h
 ·exact absurd h m1
 exact absurd h m2
theorem Qer {l : List Nm} (h : Qq l = true) {i j : Nat} {s : Nm} (hi : l[i]? = some s) (hj : l[j]? = some s) : i = j := QgF (Qbb h) hi hj
theorem Qla (l : QD) (hO : YK l) (ih : ∀ q ∈ l.ps, ∀ x y, Qt x q = true → Qt y q = true → Lub q x y (QR q x y)) (a b : Qw) (ha : Qt a l = true) (hb : Qt b l = true) : Lub l a b (QR l a b) := by
 have tot : l.k ≠ 4 → l.k ≠ 10 → l.k ≠ 9 → l.k ≠ 5 → l.k ≠ 6 → (l.k = 7 → Wn l.ps a.ps b.ps = none) → Xl l a b = true ∨ Xl l b a = true → Lub l a b (QR l a b) := fun h4 h10 h9 h5 h6 hx h => by
  rw [Yr h4 h10 h9 h5 h6 hx]
  by_cases h1 : Xl l a b = true
  ·rw [if_pos h1]; exact Qnj hO hb h1
  rw [if_neg h1]
  have h2 := h.resolve_left h1
  rw [if_pos h2]; exact QpV hO ha h2
 rcases kinds hO with hk | hk | hk | hk | hk | hk | hk | hk | hk | hk
 ·exact tot (by omega) (by omega) (by omega) (by omega) (by omega) (fun h => by omega) (by rw [J3 (.inl hk), J3 (.inl hk)]; omega)
 ·exact tot (by omega) (by omega) (by omega) (by omega) (by omega) (fun h => by omega) (by rw [J3 (.inr hk), J3 (.inr hk)]; omega)
 ·exact tot (by omega) (by omega) (by omega) (by omega) (by omega) (fun h => by omega) (by rw [Wz hk, Wz hk]; omega)
 ·-- sets
  obtain ⟨p1, p2, p3, p4, p5, p6⟩ := Y2 ha (.inl hk)
  obtain ⟨q1, q2, q3, q4, q5, q6⟩ := Y2 hb (.inl hk)
  have hE : QR l a b = .mk 0 (Ku a.nm b.nm) [] [] := by rw [X3, hk]; rfl
  rw [hE]
  have hm : ∀ z, z ∈ Ku a.nm b.nm ↔ z ∈ a.nm ∨ z ∈ b.nm := fun z => K9 p4 q4
  refine ⟨QoM hk rfl rfl rfl (WB p4 q4) fun s hs => ?_, (YM (.inl hk)).2 fun x hx => (hm x).2 (.inl hx), (YM (.inl hk)).2 fun x hx => (hm x).2 (.inr hx), fun c _ h1 h2 => (YM (.inl hk)).2 fun x hx => ?_⟩
  ·rcases (hm s).1 hs with h | h
   ·exact p5 s h
   exact q5 s h
  rcases (hm x).1 hx with h | h
  ·exact (YM (.inl hk)).1 h1 x h
  exact (YM (.inl hk)).1 h2 x h
 ·-- maps
  obtain ⟨q, hp⟩ := WU hO hk
  have mq : q ∈ l.ps := by rw [hp]; simp
  obtain ⟨p1, p2, p3, p4, p5, p6⟩ := YO ha hk hp
  obtain ⟨q1, q2, q3, q4, q5, q6⟩ := YO hb hk hp
  obtain ⟨U, hU⟩ : ∃ U, U = Ku a.nm b.nm := ⟨_, rfl⟩
  have hE : QR l a b = .mk 0 U (U.map (J0 q a b)) [] := by rw [X3, hk, hp, QcL, hU]; rfl
  rw [hE]
  have hm : ∀ z, z ∈ U ↔ z ∈ a.nm ∨ z ∈ b.nm := fun z => by rw [hU]; exact K9 p4 q4
  have hs : Qq U = true := by rw [hU]; exact WB p4 q4
  have hlen : U.length = (U.map (J0 q a b)).length := by simp
  have oq := hO.part q mq
  have G : ∀ {i j : Nat} {x y : Qw}, a.ps[i]? = some x → b.ps[j]? = some y → Lub q x y (QR q x y) := fun h1 h2 => ih q mq _ _ (p6 _ (List.mem_of_getElem? h1)).1 (q6 _ (List.mem_of_getElem? h2)).1
  have at_ : ∀ {i : Nat} {s : Nm} {z : Qw}, U[i]? = some s → (U.map (J0 q a b))[i]? = some z → z = J0 q a b s ∧ (s ∈ a.nm ∨ s ∈ b.nm) := fun h1 h2 => by
   rw [List.getElem?_map, h1] at h2
   cases h2
   exact ⟨rfl, (hm _).1 (List.mem_of_getElem? h1)⟩
  have jl : (Qw.mk 0 U (U.map (J0 q a b)) []).nm.length = (Qw.mk 0 U (U.map (J0 q a b)) []).ps.length := hlen
  refine ⟨Qoq hk hp rfl rfl hlen hs (fun s hs => ?_) (fun z hz => ?_), (W4 hk hp p3 jl hs).2 fun i s p h1 h2 => ?_, (W4 hk hp q3 jl hs).2 fun i s p h1 h2 => ?_, fun c hc h1 h2 => ?_⟩
  ·rcases (hm s).1 hs with h | h
   ·exact p5 s h
   exact q5 s h
  ·have hz : z ∈ U.map (J0 q a b) := hz
   obtain ⟨s, hsU, rfl⟩ := List.mem_map.1 hz
   rcases Qca (q := q) p3 p4 q3 q4 ((hm s).1 hsU) with ⟨i, p, e1, e2, -, e4⟩ | ⟨j, y, e1, e2, -, e4⟩ | ⟨i, p, j, y, e1, e2, e3, e4, e5⟩
   ·rw [e4]; exact p6 p (List.mem_of_getElem? e2)
   ·rw [e4]; exact q6 y (List.mem_of_getElem? e2)
   rw [e5]
   have L := G e2 e4
   refine ⟨L.el, fun e => ?_⟩
   have hpm := p6 p (List.mem_of_getElem? e2)
   exact hpm.2 (Qat q oq p _ hpm.1 (Qay q oq) (by rw [← e]; exact L.le1) (QcN q oq p hpm.1))
  ·obtain ⟨j, hj⟩ := List.mem_iff_getElem?.1 ((hm s).2 (.inl (List.mem_of_getElem? h1)))
   refine ⟨j, J0 q a b s, hj, by show (U.map (J0 q a b))[j]? = _; rw [List.getElem?_map, hj]; rfl, ?_⟩
   rcases Qca (q := q) p3 p4 q3 q4 (.inl (List.mem_of_getElem? h1)) with ⟨i', p', e1, e2, -, e4⟩ | ⟨_, _, _, _, e3, _⟩ | ⟨i', p', j', y, e1, e2, e3, e4, e5⟩
   ·have := Qer p4 h1 e1; subst this
    rw [h2] at e2; cases e2
    rw [e4]; exact Wc q oq p (p6 p (List.mem_of_getElem? h2)).1
   ·exact absurd (List.mem_of_getElem? h1) e3
   have := Qer p4 h1 e1; subst this
   rw [h2] at e2; cases e2
   rw [e5]; exact (G h2 e4).le1
  ·obtain ⟨j, hj⟩ := List.mem_iff_getElem?.1 ((hm s).2 (.inr (List.mem_of_getElem? h1)))
   refine ⟨j, J0 q a b s, hj, by show (U.map (J0 q a b))[j]? = _; rw [List.getElem?_map, hj]; rfl, ?_⟩
   rcases Qca (q := q) p3 p4 q3 q4 (.inr (List.mem_of_getElem? h1)) with ⟨_, _, _, _, e3, _⟩ | ⟨i', p', e1, e2, -, e4⟩ | ⟨i', p', j', y, e1, e2, e3, e4, e5⟩
   ·exact absurd (List.mem_of_getElem? h1) e3
   ·have := Qer q4 h1 e1; subst this
    rw [h2] at e2; cases e2
    rw [e4]; exact Wc q oq p (q6 p (List.mem_of_getElem? h2)).1
   have := Qer q4 h1 e3; subst this
   rw [h2] at e4; cases e4
   rw [e5]; exact (G e2 h2).le2
  obtain ⟨-, -, r3, r4, -, r6⟩ := YO hc hk hp
  have l1 := (W4 hk hp p3 r3 r4).1 h1
  have l2 := (W4 hk hp q3 r3 r4).1 h2
  refine (W4 hk hp jl r3 r4).2 fun i s z hs hz => ?_
  obtain ⟨rfl, hor⟩ := at_ hs hz
  rcases Qca (q := q) p3 p4 q3 q4 hor with ⟨i', p, e1, e2, -, e4⟩ | ⟨j', y, e1, e2, -, e4⟩ | ⟨i', p, j', y, e1, e2, e3, e4, e5⟩
  ·rw [e4]; exact l1 i' s p e1 e2
  ·rw [e4]; exact l2 j' s y e1 e2
  obtain ⟨k1, z1, g1, g2, g3⟩ := l1 i' s p e1 e2
  obtain ⟨k2, z2, g4, g5, g6⟩ := l2 j' s y e3 e4
  have := Qer r4 g1 g4; subst this
  rw [g2] at g5; cases g5
  exact ⟨k1, z1, g1, g2, by rw [e5]; exact (G e2 e4).least z1 (r6 z1 (List.mem_of_getElem? g2)).1 g3 g6⟩
 ·-- products
  obtain ⟨p1, p2, p3, p4, p5⟩ := J5 ha (.inl hk)
  obtain ⟨q1, q2, q3, q4, q5⟩ := J5 hb (.inl hk)
  have hE : QR l a b = .mk 0 [] (Ws l.ps a.ps b.ps) [] := by rw [X3, hk]; rfl
  rw [hE]
  have hlen := Qgc p4 q4
  have hat : ∀ {k : Nat} {z : Qw}, (Ws l.ps a.ps b.ps)[k]? = some z → ∃ q x y, l.ps[k]? = some q ∧ a.ps[k]? = some x ∧ b.ps[k]? = some y ∧ z = QR q x y := fun hz => Qr6 p4 q4 hz hlen (fun q x y h1 h2 h3 => Qf3 h1 h2 h3)
  have G : ∀ {k : Nat} {q : QD} {x y : Qw}, l.ps[k]? = some q → a.ps[k]? = some x → b.ps[k]? = some y → Lub q x y (QR q x y) := fun h1 h2 h3 => ih _ (List.mem_of_getElem? h1) _ _ (Ja p5 h2 h1) (Ja q5 h3 h1)
  refine ⟨QfJ (.inl hk) rfl rfl rfl hlen ((Qc1 hlen).2 fun k z q hz hq => ?_), ?_, ?_, fun c hc h1 h2 => ?_⟩
  ·obtain ⟨q', x, y, e1, e2, e3, rfl⟩ := hat hz
   rw [hq] at e1; cases e1
   exact (G hq e2 e3).el
  ·rw [KG hk]
   refine Qij p4 hlen fun k q x z hq hx hz => ?_
   obtain ⟨q', x', y, e1, e2, e3, rfl⟩ := hat hz
   rw [hq] at e1; cases e1
   rw [hx] at e2; cases e2
   exact (G hq hx e3).le1
  ·rw [KG hk]
   refine Qij q4 hlen fun k q y z hq hy hz => ?_
   obtain ⟨q', x, y', e1, e2, e3, rfl⟩ := hat hz
   rw [hq] at e1; cases e1
   rw [hy] at e3; cases e3
   exact (G hq e2 hy).le2
  obtain ⟨-, -, -, r4, r5⟩ := J5 hc (.inl hk)
  rw [KG hk, Kh p4 r4] at h1
  rw [KG hk, Kh q4 r4] at h2
  rw [KG hk]
  refine Qij hlen r4 fun k q z u hq hz hu => ?_
  obtain ⟨q', x, y, e1, e2, e3, rfl⟩ := hat hz
  rw [hq] at e1; cases e1
  exact (G hq e2 e3).least u (Ja r5 hu hq) (h1 k q x u hq e2 hu) (h2 k q y u hq e3 hu)
 ·-- pairs
  obtain ⟨p, q, hp⟩ := Kd hO.shape hk
  have mq : q ∈ l.ps := by rw [hp]; simp
  obtain ⟨x1, x2, ea, u1, u2⟩ := Ye ha hk hp
  obtain ⟨y1, y2, eb, v1, v2⟩ := Ye hb hk hp
  by_cases e : x1 = y1
  ·subst e
   have hE : QR l a b = .mk 0 [] [x1, QR q x2 y2] [] := by rw [X3, hk, hp, ea, eb]; simp [Wn, (Yk x1 x1).2 rfl]
   rw [hE]
   have G := ih q mq x2 y2 u2 v2
   have hps : (Qw.mk 0 [] [x1, QR q x2 y2] []).ps = [x1, QR q x2 y2] := rfl
   refine ⟨QfJ (.inr hk) rfl rfl rfl (by rw [hps, hp]; rfl) (by rw [hps, hp]; simp [YU, u1, G.el]), (YI hk hp ea hps).2 (.inl ⟨rfl, G.le1⟩), (YI hk hp eb hps).2 (.inl ⟨rfl, G.le2⟩), fun c hc h1 h2 => ?_⟩
   obtain ⟨z1, z2, ec, w1, w2⟩ := Ye hc hk hp
   refine (YI hk hp hps ec).2 ?_
   rcases (YI hk hp ea ec).1 h1 with ⟨e1, g1⟩ | ⟨e1, g1⟩
   ·rcases (YI hk hp eb ec).1 h2 with ⟨e2, g2⟩ | ⟨e2, g2⟩
    ·exact .inl ⟨e1, G.least z2 w2 g1 g2⟩
    exact absurd e1 e2
   exact .inr ⟨e1, g1⟩
  have hx : Wn l.ps a.ps b.ps = none := by rw [hp, ea, eb, Wn, if_neg (fun h => e ((Yk _ _).1 h))]
  refine tot (by omega) (by omega) (by omega) (by omega) (by omega) (fun _ => hx) ?_
  rw [YI hk hp ea eb, YI hk hp eb ea]
  rcases Qhk hO hk hp u1 v1 with h | h
  ·exact .inl (.inr ⟨e, h⟩)
  exact .inr (.inr ⟨fun e' => e e'.symm, h⟩)
 ·-- flat lattices
  by_cases h1 : Xl l a b = true
  ·exact tot (by omega) (by omega) (by omega) (by omega) (by omega) (fun h => by omega) (.inl h1)
  by_cases h2 : Xl l b a = true
  ·exact tot (by omega) (by omega) (by omega) (by omega) (by omega) (fun h => by omega) (.inr h2)
  have hE : QR l a b = .mk 2 [] [] [] := by rw [Yr (by omega) (by omega) (by omega) (by omega) (by omega) (fun h => by omega), if_neg h1, if_neg h2]
  rw [hE]
  rw [Km hk] at h1 h2
  have hz : Qt (.mk 2 [] [] []) l = true := by rw [Qr, hk]; rfl
  refine ⟨hz, (Km hk).2 (.inr (.inl rfl)), (Km hk).2 (.inr (.inl rfl)), fun c hc g1 g2 => (Km hk).2 ?_⟩
  rcases (Km hk).1 g1 with g | g | g
  ·exact absurd (.inl g) h1
  ·exact .inr (.inl g)
  rcases (Km hk).1 g2 with g' | g' | g'
  ·exact absurd (.inl g') h2
  ·exact .inr (.inl g')
  exact absurd (.inr (.inr (g.trans g'.symm))) h1
 ·-- registers
  obtain ⟨p1, p2, p3, p4⟩ := Kc ha hk
  obtain ⟨q1, q2, q3, q4⟩ := Kc hb hk
  have hE : QR l a b = .mk 0 [] [] (Jw a.es b.es) := by rw [X3, hk]; rfl
  rw [hE]
  have hM : JP (Qw.mk 0 [] [] (Jw a.es b.es)).es := Qh7 p4 q4
  refine ⟨by rw [Qr, hk]; simp [JG, Qw.N, Qw.nm, Qw.ps]; exact hM.regB_, (W3 hk p4 hM).2 (Qj1 p4 q4), (W3 hk q4 hM).2 (Qis p4 q4), fun c hc h1 h2 => ?_⟩
  obtain ⟨-, -, -, r4⟩ := Kc hc hk
  refine (W3 hk hM r4).2 fun x hx => ?_
  rcases QdK p4 q4 hx with h | h
  ·exact (W3 hk p4 r4).1 h1 x h
  exact (W3 hk q4 r4).1 h2 x h
 obtain ⟨p1, p2, p3, p4, p5, p6⟩ := Y2 ha (.inr hk)
 obtain ⟨q1, q2, q3, q4, q5, q6⟩ := Y2 hb (.inr hk)
 have hE : QR l a b = .mk 0 (Ka l.nm l.rs (Ku a.nm b.nm)) [] [] := by rw [X3, hk]; rfl
 rw [hE]
 have sy := QkU hO hk
 have hm : ∀ z, z ∈ Ku a.nm b.nm ↔ z ∈ a.nm ∨ z ∈ b.nm := fun z => K9 p4 q4
 have up : ∀ {z}, z ∈ a.nm ∨ z ∈ b.nm → z ∈ Ka l.nm l.rs (Ku a.nm b.nm) := fun {z} h => by
  refine Qbd.2 ⟨?_, QjB _ _ ((hm z).2 h)⟩
  rcases h with h | h
  ·exact Qbz hO hk ha z h
  exact Qbz hO hk hb z h
 refine ⟨Qhj hk rfl rfl rfl (QiG sy.s) (fun s hs => ?_) (Qit fun r hr => (sy.r r hr).2.2), (YM (.inr hk)).2 fun x hx => up (.inl hx), (YM (.inr hk)).2 fun x hx => up (.inr hx), fun c hc h1 h2 => (YM (.inr hk)).2 fun x hx => ?_⟩
 ·have hu := (Qbd.1 hs).1
  simp [Yq, sy.v s hu, Yb.2 hu]
 obtain ⟨-, -, -, -, -, r6⟩ := Y2 hc (.inr hk)
 refine QjI (r6 hk) _ _ (fun z hz => ?_) x (Qbd.1 hx).2
 rcases (hm z).1 hz with h | h
 ·exact (YM (.inr hk)).1 h1 z h
 exact (YM (.inr hk)).1 h2 z h
theorem K7 (l : QD) (hO : YK l) (a b : Qw) (ha : Qt a l = true) (hb : Qt b l = true) : Lub l a b (QR l a b) := Qla l hO (fun q hq x y hx hy => K7 q (hO.part q hq) x y hx hy) a b ha hb
termination_by l
decreasing_by exact QD.sizeOf_ps ‹_›
section
variable {l : QD} {a b c : Qw}
theorem Qhw (hO : YK l) (ha : Qt a l = true) : QR l a a = a := by
 have L := K7 l hO a a ha ha
 exact Qat l hO _ _ L.el ha (L.least a ha (Wc l hO a ha) (Wc l hO a ha)) L.le1
theorem Qko (hO : YK l) (ha : Qt a l = true) (hb : Qt b l = true) (h : Xl l a b = true) : QR l a b = b := by
 have L := K7 l hO a b ha hb
 exact Qat l hO _ _ L.el hb (L.least b hb h (Wc l hO b hb)) L.le2
theorem Qjv (hO : YK l) (ha : Qt a l = true) : QR l (QU l) a = a := Qko hO (Qay l hO) ha (QcN l hO a ha)
end
theorem Qnp {n m : Nat} (hnm : 64 ≤ n + m) (l : QD) (hO : YK l) (ih : ∀ q ∈ l.ps, ∀ x y, Qt x q = true → Qt y q = true → J6 n x → J6 m y → J6 (n + m) (QR q x y)) (a b : Qw) (ha : Qt a l = true) (hb : Qt b l = true) (sa : J6 n a) (sb : J6 m b) : J6 (n + m) (QR l a b) := by
 have na := sa.nm
 have nb := sb.nm
 have nil : ∀ {N : Int} {u : List Nm}, u.length ≤ n + m → J6 (n + m) (.mk N u [] []) := fun {N u} h => .mk _ h (Nat.zero_le _) (Nat.zero_le _) (by intro e he; cases he) (by intro e he; cases he)
 have els : ∀ {v : Qw}, v = a ∨ v = b ∨ v = .mk 2 [] [] [] → J6 (n + m) v := fun h => by
  rcases h with h | h | h
  ·exact h ▸ sa.up (by omega)
  ·exact h ▸ sb.up (by omega)
  rw [h]; exact nil (Nat.zero_le _)
 have tot : l.k ≠ 4 → l.k ≠ 10 → l.k ≠ 9 → l.k ≠ 5 → l.k ≠ 6 → (l.k = 7 → Wn l.ps a.ps b.ps = none) → J6 (n + m) (QR l a b) := fun h4 h10 h9 h5 h6 hx => by
  rw [Yr h4 h10 h9 h5 h6 hx]
  split
  ·exact els (.inr (.inl rfl))
  split
  ·exact els (.inl rfl)
  exact els (.inr (.inr rfl))
 rcases kinds hO with hk | hk | hk | hk | hk | hk | hk | hk | hk | hk
 ·exact tot (by omega) (by omega) (by omega) (by omega) (by omega) (fun h => by omega)
 ·exact tot (by omega) (by omega) (by omega) (by omega) (by omega) (fun h => by omega)
 ·exact tot (by omega) (by omega) (by omega) (by omega) (by omega) (fun h => by omega)
 ·obtain ⟨-, -, -, p4, -, -⟩ := Y2 ha (.inl hk)
  obtain ⟨-, -, -, q4, -, -⟩ := Y2 hb (.inl hk)
  have hE : QR l a b = .mk 0 (Ku a.nm b.nm) [] [] := by rw [X3, hk]; rfl
  have := QdN p4 q4
  rw [hE]; exact nil (by omega)
 ·obtain ⟨q, hp⟩ := WU hO hk
  have mq : q ∈ l.ps := by rw [hp]; simp
  obtain ⟨-, -, p3, p4, -, p6⟩ := YO ha hk hp
  obtain ⟨-, -, q3, q4, -, q6⟩ := YO hb hk hp
  have hE : QR l a b = .mk 0 (Ku a.nm b.nm) ((Ku a.nm b.nm).map (J0 q a b)) [] := by rw [X3, hk, hp, QcL]; rfl
  have hl := QdN p4 q4
  rw [hE]
  refine .mk _ (show (Ku a.nm b.nm).length ≤ n + m by omega) (show ((Ku a.nm b.nm).map (J0 q a b)).length ≤ n + m by rw [List.length_map]; omega) (Nat.zero_le _) (by intro e he; cases he) (fun z hz => ?_)
  obtain ⟨s, hs, rfl⟩ := List.mem_map.1 (show z ∈ (Ku a.nm b.nm).map (J0 q a b) from hz)
  rcases Qca (q := q) p3 p4 q3 q4 ((K9 p4 q4).1 hs) with ⟨i, p, e1, e2, -, e4⟩ | ⟨j, y, e1, e2, -, e4⟩ | ⟨i, p, j, y, e1, e2, e3, e4, e5⟩
  ·rw [e4]; exact (sa.part p (List.mem_of_getElem? e2)).up (by omega)
  ·rw [e4]; exact (sb.part y (List.mem_of_getElem? e2)).up (by omega)
  have m1 := List.mem_of_getElem? e2
  have m2 := List.mem_of_getElem? e4
  rw [e5]; exact ih q mq p y (p6 p m1).1 (q6 y m2).1 (sa.part p m1) (sb.part y m2)
 ·obtain ⟨-, -, -, p4, p5⟩ := J5 ha (.inl hk)
  obtain ⟨-, -, -, q4, q5⟩ := J5 hb (.inl hk)
  have hE : QR l a b = .mk 0 [] (Ws l.ps a.ps b.ps) [] := by rw [X3, hk]; rfl
  have hlen := Qgc p4 q4
  have := hO.small
  rw [hE]
  refine .mk _ (Nat.zero_le _) (show (Ws l.ps a.ps b.ps).length ≤ n + m by omega) (Nat.zero_le _) (by intro e he; cases he) (fun z hz => ?_)
  obtain ⟨k, hk'⟩ := List.mem_iff_getElem?.1 (show z ∈ Ws l.ps a.ps b.ps from hz)
  obtain ⟨q, x, y, e1, e2, e3, rfl⟩ := Qr6 p4 q4 hk' hlen (fun q x y h1 h2 h3 => Qf3 h1 h2 h3)
  exact ih q (List.mem_of_getElem? e1) x y (Ja p5 e2 e1) (Ja q5 e3 e1) (sa.part x (List.mem_of_getElem? e2)) (sb.part y (List.mem_of_getElem? e3))
 ·obtain ⟨p, q, hp⟩ := Kd hO.shape hk
  have mq : q ∈ l.ps := by rw [hp]; simp
  obtain ⟨x1, x2, ea, u1, u2⟩ := Ye ha hk hp
  obtain ⟨y1, y2, eb, v1, v2⟩ := Ye hb hk hp
  by_cases e : x1 = y1
  ·subst e
   have hE : QR l a b = .mk 0 [] [x1, QR q x2 y2] [] := by rw [X3, hk, hp, ea, eb]; simp [Wn, (Yk x1 x1).2 rfl]
   rw [hE]
   refine .mk _ (Nat.zero_le _) (show 2 ≤ n + m by omega) (Nat.zero_le _) (by intro e he; cases he) (fun z hz => ?_)
   have hz : z ∈ [x1, QR q x2 y2] := hz
   rcases List.mem_cons.1 hz with rfl | hz
   ·exact (sa.part z (by rw [ea]; simp)).up (by omega)
   rcases List.mem_cons.1 hz with rfl | hz
   ·exact ih q mq x2 y2 u2 v2 (sa.part x2 (by rw [ea]; simp)) (sb.part y2 (by rw [eb]; simp))
   cases hz
  have hx : Wn l.ps a.ps b.ps = none := by rw [hp, ea, eb, Wn, if_neg (fun h => e ((Yk _ _).1 h))]
  exact tot (by omega) (by omega) (by omega) (by omega) (by omega) (fun _ => hx)
 ·exact tot (by omega) (by omega) (by omega) (by omega) (by omega) (fun h => by omega)
 ·obtain ⟨-, -, -, p4⟩ := Kc ha hk
  obtain ⟨-, -, -, q4⟩ := Kc hb hk
  have hE : QR l a b = .mk 0 [] [] (Jw a.es b.es) := by rw [X3, hk]; rfl
  have h1 := sa.es
  have h2 := sb.es
  have hl : (Jw a.es b.es).length ≤ n + m := by
   unfold Jw
   rw [List.length_mergeSort, List.length_append]
   have := List.length_filter_le (W8 b.es) a.es
   have := List.length_filter_le (Qbv a.es) b.es
   omega
  rw [hE]
  refine .mk _ (Nat.zero_le _) (Nat.zero_le _) hl (fun e he => ?_) (by intro e he; cases he)
  rcases QdK p4 q4 (show e ∈ Jw a.es b.es from he) with h | h
  ·exact sa.en e h
  exact sb.en e h
 have sy := QkU hO hk
 have hE : QR l a b = .mk 0 (Ka l.nm l.rs (Ku a.nm b.nm)) [] [] := by rw [X3, hk]; rfl
 obtain ⟨-, -, -, p4, -, -⟩ := Y2 ha (.inr hk)
 obtain ⟨-, -, -, q4, -, -⟩ := Y2 hb (.inr hk)
 have h := hO.four.1
 have hl : l.nm.length ≤ 64 := by
  unfold JC J1 at h
  rw [hk, show Y7 10 = 12 from rfl] at h
  by_cases hg : (l.nm.length : Int) > 12
  ·simp [hg] at h
  omega
 have := List.length_filter_le (X2 (J9 l.rs l.rs.length (Ku a.nm b.nm))) l.nm
 rw [hE]; exact nil (by show (l.nm.filter _).length ≤ _; omega)
theorem Qd3 {n m : Nat} (hnm : 64 ≤ n + m) (l : QD) (hO : YK l) (a b : Qw) (ha : Qt a l = true) (hb : Qt b l = true) (sa : J6 n a) (sb : J6 m b) : J6 (n + m) (QR l a b) := Qnp hnm l hO (fun q hq x y hx hy sx sy => Qd3 hnm q (hO.part q hq) x y hx hy sx sy) a b ha hb sa sb
termination_by l
decreasing_by exact QD.sizeOf_ps ‹_›
theorem Ql2 (l : QD) (hO : YK l) : J6 64 (QU l) := by
 have h := hO.small
 refine .mk _ (by rw [Qlu]; exact Nat.zero_le _) ?_ (by rw [QiI]; exact Nat.zero_le _) (by rw [QiI]; intro e he; cases he) (fun p hp => ?_)
 ·rw [Qir]; split <;> simp <;> omega
 rw [Qir] at hp
 split at hp
 ·obtain ⟨q, hq, rfl⟩ := List.mem_map.1 hp
  exact Ql2 q (hO.part q hq)
 cases hp
termination_by l
decreasing_by exact QD.sizeOf_ps ‹_›
theorem Qe0 {l : QD} (hO : YK l) {vs : List Qw} (h : ∀ v ∈ vs, Qt v l = true ∧ J6 1000 v) : ∀ k, k ≤ vs.length → Qt (Qbr l (vs.take k)) l = true ∧ J6 (64 + 1000 * k) (Qbr l (vs.take k))
 | 0, _ => ⟨Qay l hO, Ql2 l hO⟩
 | k + 1, hk => by
  obtain ⟨x, hx⟩ := Qn (show k < vs.length by omega)
  obtain ⟨h1, h2⟩ := Qe0 hO h k (by omega)
  obtain ⟨h3, h4⟩ := h x (List.mem_of_getElem? hx)
  rw [Qgb hx]
  exact ⟨(K7 l hO _ x h1 h3).el, (Qd3 (by omega) l hO _ x h1 h3 h2 h4).up (by omega)⟩
theorem Qrx {l : QD} (hO : YK l) {vs : List Qw} (h : ∀ v ∈ vs, Qt v l = true ∧ J6 1000 v) (hl : vs.length ≤ 100) : Qjg l vs :=
 ⟨JoL.of l hO, fun v hv => (h v hv).2.up (by omega), fun k hk => ⟨(Qe0 hO h k hk).1, (Qe0 hO h k hk).2.up (by omega)⟩⟩
theorem QjJ {l : QD} (hO : YK l) {a b : Qw} (ha : Qt a l = true) : Qbr l [a, b] = QR l a b := by
 show QR l (QR l (QU l) a) b = _
 rw [Qjv hO ha]
end Go.Proofs.YtnkkokmmeplbgaaGreat
namespace Go.Proofs.YtnkkokmmeplbgaaGreat
open Go.RowKit
end Go.Proofs.YtnkkokmmeplbgaaGreat
