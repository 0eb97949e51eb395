/-
  Plain laws: names of any list, sorted, each once.
-/
import Derived.Test.YtnkkokmmeplbgaaGreatB11
import Derived.Test.YtnkkokmmeplbgaaGreatB10
import Derived.Test.YtnkkokmmeplbgaaGreatA7
namespace Go.Proofs.YtnkkokmmeplbgaaGreat
set_option maxRecDepth 100000
set_option maxHeartbeats 1000000
open Go.RowKit
def ofN : List Nm → List Nm
 | [] => []
 | x :: r => K6 [x] (ofN r)
theorem Qec : ∀ l, Qt (ofN l) = true
 | [] => rfl
 | x :: r => Qag rfl (Qec r)
theorem Qgh : ∀ {l : List Nm} {z : Nm}, z ∈ ofN l ↔ z ∈ l
 | [], z => by simp [ofN]
 | x :: r, z => by rw [ofN, WZ rfl (Qec r), Qgh]; simp
theorem Qgf {l o : List Nm} (h : pw o) (hm : ∀ z, z ∈ o ↔ z ∈ l) : o = ofN l := Qd7 (W1 h) (Qec l) fun z => by rw [hm, Qgh]
def Qbj (o : List Nm) (k : Nat) (x : Nm) : List Nm := o.take k ++ x :: o.drop k
theorem XV {o : List Nm} {k : Nat} {x : Nm} : (Qbj o k x).length = o.length + 1 := by unfold Qbj; simp; omega
theorem Qr6 {o : List Nm} {x : Nm} : Qbj o o.length x = o ++ [x] := by unfold Qbj; simp
theorem Qgc {o : List Nm} {k : Nat} {x : Nm} (h : k ≤ o.length) : (Qbj o k x)[k]? = some x := by
 unfold Qbj
 rw [List.getElem?_append_right (by simp; omega)]
 simp [Nat.min_eq_left h]
theorem Qhj {o : List Nm} {k : Nat} {x y : Nm} (hy : o[k]? = some y) : (Qbj o (k + 1) x)[k]? = some y := by
 have := (List.getElem?_eq_some_iff.1 hy).1
 unfold Qbj
 rw [List.getElem?_append_left (by simp; omega), List.getElem?_take, if_pos (by omega), hy]
theorem QrI {o : List Nm} {k : Nat} {x z : Nm} : z ∈ Qbj o k x ↔ z = x ∨ z ∈ o := by
 unfold Qbj
 rw [List.mem_append, List.mem_cons]
 constructor
 ·rintro (h | h | h)
  ·exact .inr (List.mem_of_mem_take h)
  ·exact .inl h
  exact .inr (List.mem_of_mem_drop h)
 rintro (h | h)
 ·exact .inr (.inl h)
 have := (List.take_append_drop k o).symm ▸ h
 rcases List.mem_append.1 this with h | h
 ·exact .inl h
 exact .inr (.inr h)
theorem QiR {o : List Nm} {k : Nat} {x y : Nm} (hy : o[k]? = some y) : ((Qbj o (k + 1) x).set k x).set (k + 1) y = Qbj o k x := by
 have hk := (List.getElem?_eq_some_iff.1 hy).1
 apply List.ext_getElem?
 intro i;rw [List.getElem?_set, List.getElem?_set, List.length_set, XV]
 have hd : o.drop k = y :: o.drop (k + 1) := by rw [List.drop_eq_getElem_cons hk]; rw [List.getElem?_eq_getElem hk] at hy; cases hy; rfl
 by_cases h1 : k + 1 = i
 ·rw [if_pos h1, if_pos (by omega)]
  unfold Qbj
  rw [← h1, List.getElem?_append_right (by simp; omega)]
  simp [Nat.min_eq_left (Nat.le_of_lt hk), hd]
 rw [if_neg h1]
 by_cases h2 : k = i
 ·rw [if_pos h2, if_pos (by omega), ← h2, Qgc (by omega)]
 rw [if_neg h2]
 by_cases h3 : i < k
 ·unfold Qbj
  rw [List.getElem?_append_left (by simp; omega), List.getElem?_append_left (by simp; omega), List.getElem?_take, List.getElem?_take, if_pos (by omega), if_pos h3]
 unfold Qbj
 rw [List.getElem?_append_right (by simp; omega), List.getElem?_append_right (by simp; omega)]
 simp only [List.length_take]
 obtain ⟨e, rfl⟩ : ∃ e, i = k + 2 + e := ⟨i - (k + 2), by omega⟩
 rw [Nat.min_eq_left (by omega), Nat.min_eq_left (by omega), show k + 2 + e - (k + 1) = e + 1 by omega, show k + 2 + e - k = e + 2 by omega, hd]
 simp
theorem Qns {o : List Nm} {k : Nat} {x : Nm} (h : pw o) (h1 : ∀ z ∈ o.take k, Op.bytesLess z x = true) (h2 : ∀ z ∈ o.drop k, Op.bytesLess x z = true) : pw (Qbj o k x) := by
 have h' : pw (o.take k ++ o.drop k) := by rw [List.take_append_drop]; exact h
 obtain ⟨q1, q2, q3⟩ := List.pairwise_append.1 h'
 unfold Qbj
 refine List.pairwise_append.2 ⟨q1, List.pairwise_cons.2 ⟨h2, q2⟩, fun z hz w hw => ?_⟩
 rcases List.mem_cons.1 hw with rfl | hw
 ·exact h1 z hz
 exact q3 z hz w hw
theorem QlV {o : List Nm} {k : Nat} {x y : Nm} (h : pw o) (hy : o[k]? = some y) (hl : Op.bytesLess y x = true) : ∀ z ∈ o.take (k + 1), Op.bytesLess z x = true := fun z hz => by
 obtain ⟨j, hj⟩ := List.mem_iff_getElem?.1 hz
 have hjk : j < k + 1 := by
  have := (List.getElem?_eq_some_iff.1 hj).1
  simp at this; omega
 rw [List.getElem?_take, if_pos hjk] at hj
 by_cases e : j = k
 ·subst e; rw [hy] at hj; cases hj; exact hl
 obtain ⟨g1, rfl⟩ := List.getElem?_eq_some_iff.1 hj;obtain ⟨g2, rfl⟩ := List.getElem?_eq_some_iff.1 hy;exact Qbc (List.pairwise_iff_getElem.1 h j k g1 g2 (by omega)) hl
theorem Qhx {o : List Nm} {k : Nat} {x y : Nm} (hy : o[k]? = some y) (h1 : ∀ z ∈ o.drop (k + 1), Op.bytesLess x z = true) (hl : Op.bytesLess x y = true) : ∀ z ∈ o.drop k, Op.bytesLess x z = true := fun z hz => by
 rw [XC hy] at hz
 rcases List.mem_cons.1 hz with rfl | hz
 ·exact hl
 exact h1 z hz
theorem Wx {s : Nm} (h : s.length < 1 ∨ 16 < s.length ∨ QnT s = false) : XP s = false := by
 unfold XP
 rcases h with h | h | h
 ·have : s = [] := List.eq_nil_of_length_eq_zero (by omega)
  subst this; rfl
 ·rw [decide_eq_false (by omega)]; rfl
 rw [h]; simp
theorem QnZ {s : Nm} (h : ¬ s.length < 1) : ∃ c : UInt8, s[0]? = some c ∧ QnT s = (decide (97 ≤ (c.toNat : Int)) && decide ((c.toNat : Int) ≤ 122)) := by
 cases s with
 | nil => simp at h
 | cons c r => exact ⟨c, rfl, rfl⟩
theorem Qv4 {x y : Nm} (h : (!(Op.bytesLess y x || y == x)) = true) : Op.bytesLess x y = true := by
 simp only [Bool.not_eq_true', Bool.or_eq_false_iff, beq_eq_false_iff_ne] at h
 cases hb : Op.bytesLess x y
 ·exact absurd (Qug hb h.1).symm h.2
 rfl
theorem Qwj {x y : Nm} (h : (!(Op.bytesLess y x || y == x)) = false) (hne : y ≠ x) : Op.bytesLess y x = true := by
 simp only [Bool.not_eq_false', Bool.or_eq_true, beq_iff_eq] at h
 exact h.resolve_right hne
theorem QdS (l : List Nm) : ∀ e ∈ l.map Wz, e.length = 1 := Qgq (f := Wz) (fun _ => rfl)
theorem Qfh {l : List Nm} {i : Nat} {x : Nm} : (l.map Wz).set i [sv x] = (l.set i x).map Wz := by rw [List.map_set]; rfl
def Qki (a b : List Nm) : List Nm := a.filter fun x => !X6 b x
theorem QtL {a b : List Nm} : (((ofN (Qki a b)).length : Int) == 0) = J6 a b := by
 rw [Bool.eq_iff_iff, Ka]
 simp only [beq_iff_eq]
 constructor
 ·intro h x hx
  cases hb : X6 b x
  ·have : x ∈ ofN (Qki a b) := Qgh.2 (List.mem_filter.2 ⟨hx, by rw [hb]; rfl⟩)
   have h0 : ofN (Qki a b) = [] := List.eq_nil_of_length_eq_zero (by omega)
   rw [h0] at this; cases this
  exact Yn.1 hb
 intro h
 have : ofN (Qki a b) = [] := by
  cases ho : ofN (Qki a b) with
  | nil => rfl
  | cons y r =>
   have hy : y ∈ Qki a b := Qgh.1 (by rw [ho]; simp)
   obtain ⟨h1, h2⟩ := List.mem_filter.1 hy
   rw [Yn.2 (h y h1)] at h2; cases h2
 rw [this]; rfl
theorem Qn7 {l o : List Nm} {k j : Nat} {x : Nm} (h : pw (Qbj o j x)) (hm : ∀ z, z ∈ o ↔ z ∈ l.take k) (hx : l[k]? = some x) (hol : o.length ≤ k) : pw (Qbj o j x) ∧ (∀ z, z ∈ Qbj o j x ↔ z ∈ l.take (k + 1)) ∧ (Qbj o j x).length ≤ k + 1 :=
 ⟨h, fun z => by rw [QrI, hm, List.take_add_one, hx]; simp [or_comm], by rw [XV]; omega⟩
theorem Qal {q : Nm → Bool} {l : List Nm} {k : Nat} {x : Nm} (hx : l[k]? = some x) (h : q x = true) : (l.take (k + 1)).filter q = (l.take k).filter q ++ [x] := by
 rw [List.take_add_one, hx, List.filter_append]; simp [h]
theorem QbU {q : Nm → Bool} {l : List Nm} {k : Nat} {x : Nm} (hx : l[k]? = some x) (h : q x = false) : (l.take (k + 1)).filter q = (l.take k).filter q := by
 rw [List.take_add_one, hx, List.filter_append]; simp [h]
theorem Qje {q : Nm → Bool} {l : List Nm} {k : Nat} : ((l.take k).filter q).length ≤ k := Nat.le_trans (List.length_filter_le _ _) (by simp; omega)
theorem QmD (c : Int) : FC Tryz.prog 210 [.p (.int .u8 c)] (bl (X7 c)) := by
 refine Qh [2] Tryz.func210 rfl rfl 21 Tryz.ntmps210 (Nat.le_of_ble_eq_true rfl) ?_
 intro E hN;refine X3 ?_
 refine zc 5 ?_ ?_ <;> intro h2
 rotate_left
 ·refine Xg ?_
  refine zc 12 ?_ ?_ <;> intro h8
  ·refine Qy ?_
   refine zc 17 ?_ ?_ <;> intro h9
   ·refine QC ?_;refine zQ ?_;exact Qo (by simp [X7, *])
   refine QC ?_;refine zQ ?_;exact Qo (by simp [X7, *])
  refine X3 ?_;refine zQ ?_;exact Qo (by simp [X7, *])
 refine QC ?_
 refine zc 9 ?_ ?_ <;> intro h3
 ·refine Jx ?_;refine zQ ?_;exact Qo (by simp [X7, *])
 refine QD ?_
 refine zc 12 ?_ ?_ <;> intro h4
 ·refine QH ?_;refine uP (X0 h3) (XF rfl rfl h4 rfl) ?_;refine QH ?_
  refine zc 17 ?_ ?_ <;> intro h5
  ·refine QC ?_;refine zQ ?_;exact Qo (by simp [X7, *])
  refine QC ?_;refine zQ ?_;exact Qo (by simp [X7, *])
 refine QH ?_;refine uP (X0 h3) (Xx rfl rfl h4 rfl) ?_;refine Xk ?_;refine zQ ?_;exact Qo (by simp [X7, *])
theorem Qgu (s : Nm) : FC Tryz.prog 179 [sv s] (bl (XP s)) := by
 refine Qh [2] Tryz.func179 rfl rfl 33 Tryz.ntmps179 (Nat.le_of_ble_eq_true rfl) ?_
 intro E hN;refine Xn ?_
 refine zc 7 ?_ ?_ <;> intro h3
 ·have hv := Wx (s := s) (.inl (by have := of_decide_eq_true h3; omega))
  refine Qes ?_;refine zQ ?_;exact Qo hv.symm
 obtain ⟨c0, hc0, hh⟩ := QnZ (s := s) (by have := of_decide_eq_false h3; omega);refine Qy ?_
 refine zc 12 ?_ ?_ <;> intro h5
 ·have hv := Wx (s := s) (.inr (.inl (by have := of_decide_eq_true h5; omega)))
  refine YI ?_;refine zQ ?_;exact Qo hv.symm
 have h16 : s.length ≤ 16 := by have := of_decide_eq_false h5; omega
 refine JB ?_;refine uP (X0 h5) (Ku rfl rfl rfl 0 rfl _ hc0) ?_;refine QD ?_
 refine zc 17 ?_ ?_ <;> intro h7
 ·have hv := Wx (s := s) (.inr (.inr (by rw [hh]; have := of_decide_eq_true h7; rw [decide_eq_false (by omega)]; rfl)))
  refine X3 ?_;refine zQ ?_;exact Qo hv.symm
 have h97 : 97 ≤ (c0.toNat : Int) := by have := of_decide_eq_false h7; omega
 refine JB ?_;refine uP (X0 h7) (Ku rfl rfl rfl 0 rfl _ hc0) ?_;refine QD ?_
 refine zq ?_ ?_ <;> intro h9
 ·have hv := Wx (s := s) (.inr (.inr (by rw [hh]; have := of_decide_eq_true h9; rw [decide_eq_false (show ¬ (c0.toNat : Int) ≤ 122 by omega), Bool.and_false])))
  refine QD ?_;refine zQ ?_;exact Qo hv.symm
 have hv : XP s = s.all (fun c => X7 c.toNat) := by
  have := of_decide_eq_false h9
  rw [XP, hh, decide_eq_true h16, decide_eq_true h97, decide_eq_true (by omega)]; rfl
 refine Xg ?_;refine Qm (fun x : {k : Nat // k ≤ (s).length ∧ (s.drop k).all (fun c => X7 c.toNat) = s.all (fun c => X7 c.toNat)} => ⟨[(0, sv s), (3, i64 (x.1 : Nat))], [], 0⟩) (fun x => (s).length - x.1) (⟨0, Nat.zero_le _, by simp⟩) ?_ ?_
 ·exact Qa rfl (Yf trivial) trivial
 rintro ⟨k, hk, hg⟩;dsimp only;refine Xo ?_
 refine zq ?_ ?_ <;> intro h13
 rotate_left
 ·have hge : (s).length ≤ k := by simpa using h13
  refine QC ?_;refine zQ ?_;exact Qo (by rw [hv, X4 hg hge])
 have hlt : k < (s).length := by simpa using h13
 obtain ⟨x, hx⟩ := Qq hlt;refine Xg ?_;refine zP (Ku rfl rfl rfl k rfl _ hx) ?_;refine zP (Qd (QmD _) rfl rfl rfl) ?_;refine QH ?_
 refine zq ?_ ?_ <;> intro h15
 ·refine QD ?_;refine zQ ?_;exact Qo (by rw [hv, Q6 hg hx (by first | (simp_all; done) | (simp_all [X7]; done) | (simp_all [X7]; omega))])
 refine Qy ?_;refine Qb ?_;exact ⟨⟨k + 1, hlt, XG hg hx (by first | (simp_all; done) | (simp_all [X7]; done) | (simp_all [X7]; omega))⟩, Qa rfl (XE ⟨X5, rfl, trivial⟩) trivial, by dsimp only; omega⟩
theorem QmM (l : List Nm) : FC Tryz.prog 180 [XS l] (bl (Qt l)) := by
 refine Qh [2] Tryz.func180 rfl rfl 20 Tryz.ntmps180 (Nat.le_of_ble_eq_true rfl) ?_
 intro E hN;refine Jq 0 rfl (fun hl0 => ?_);refine Xs ?_;refine Qm (fun x : {k : Nat // 1 ≤ k ∧ Qt (l.drop (k - 1)) = Qt l} => ⟨[(0, XS l), (3, i64 (x.1 : Nat))], [], 0⟩) (fun x => l.length - x.1) (⟨1, Nat.le_refl _, rfl⟩) ?_ ?_
 ·exact Qa rfl (Yf trivial) trivial
 rintro ⟨k, hk, hg⟩;dsimp only;refine Xo ?_
 refine zq ?_ ?_ <;> intro h5
 rotate_left
 ·have hge : l.length ≤ k := by simpa using h5
  refine QC ?_;refine zQ ?_;exact Qo (Qeh hg hge).symm
 have hlt : k < l.length := by simpa using h5
 obtain ⟨x, hx⟩ := Qq hlt;obtain ⟨y, hy⟩ := Qq (show k - 1 < l.length by omega)
 have hs := Qdu hk hg hy hx
 refine QC ?_;refine zD 9 ?_;refine QH ?_;refine zp (Kb rfl rfl rfl (by omega)) ?_;refine zp (Qf rfl rfl rfl (k - 1) (by omega) _ (Qi hy) rfl) ?_;refine QD ?_;refine zp (Qf rfl rfl rfl k rfl _ (Qi hx) rfl) ?_;refine QD ?_
 refine zq ?_ ?_ <;> intro h11
 ·refine QD ?_;refine zQ ?_;exact Qo (by rw [hs]; simp_all)
 have hn : Qt (l.drop (k + 1 - 1)) = Qt l := by
  rw [hs, Nat.add_sub_cancel]; simp_all
 refine Qy ?_;refine Qb ?_;exact ⟨⟨k + 1, by omega, hn⟩, Qa rfl (XE ⟨X5, rfl, trivial⟩) trivial, by dsimp only; omega⟩
theorem Qe8 (l : List Nm) (s : Nm) : FC Tryz.prog 149 [XS l, sv s] (bl (X6 l s)) := by
 refine Qh [4] Tryz.func149 rfl rfl 18 Tryz.ntmps149 (Nat.le_of_ble_eq_true rfl) ?_
 intro E hN;refine Jq 0 rfl (fun hl0 => ?_);refine Xs ?_;refine Qm (fun x : {k : Nat // k ≤ (l).length ∧ (l.drop k).any (s == ·) = l.any (s == ·)} => ⟨[(0, XS l), (1, sv s), (5, i64 (x.1 : Nat))], [], 0⟩) (fun x => (l).length - x.1) (⟨0, Nat.zero_le _, by simp⟩) ?_ ?_
 ·exact Qa rfl (JZ trivial) trivial
 rintro ⟨k, hk, hg⟩;dsimp only;refine Xo ?_
 refine zq ?_ ?_ <;> intro h7
 rotate_left
 ·have hge : (l).length ≤ k := by simpa using h7
  refine QC ?_;refine zQ ?_;exact Qo (Qgd hg hge).symm
 have hlt : k < (l).length := by simpa using h7
 obtain ⟨x, hx⟩ := Qq hlt;refine Xg ?_;refine zP (Qf rfl rfl rfl k rfl _ (Qi hx) rfl) ?_;refine QC ?_
 refine zq ?_ ?_ <;> intro h10
 ·have hxs : x = s := by simpa using h10
  refine QD ?_;refine zQ ?_;exact Qo (Qgn hg hx (by rw [hxs]; simp)).symm
 have hxs : x ≠ s := by simpa using h10
 refine Qy ?_;refine Qb ?_;exact ⟨⟨k + 1, hlt, QjB hg hx (beq_eq_false_iff_ne.2 fun e => hxs e.symm)⟩, Qa rfl (Yf ⟨X5, rfl, trivial⟩) trivial, by dsimp only; omega⟩
theorem QjJ (l : List Nm) (hl : l.length ≤ 1000000) : FC Tryz.prog 125 [XS l] (XS (ofN l)) := by
 refine Qh [2] Tryz.func125 rfl rfl 62 Tryz.ntmps125 (Nat.le_of_ble_eq_true rfl) ?_
 intro E hN;refine Xk ?_;refine Kp hN rfl rfl rfl rfl rfl rfl ?_;refine Xo ?_;refine Qm (fun z : {q : Nat × List Nm // q.1 ≤ l.length ∧ pw q.2 ∧ (∀ z, z ∈ q.2 ↔ z ∈ l.take q.1) ∧ q.2.length ≤ q.1} => ⟨[(0, XS l), (3, .own 0 z.1.2.length), (4, i64 (z.1.1 : Nat))], [(0, .arr 9 1 (z.1.2.map Wz))], 1⟩) (fun z => l.length - z.1.1) (⟨(0, []), Nat.zero_le _, List.Pairwise.nil, by simp, Nat.le_refl _⟩) ?_ ?_
 ·exact Qa rfl (JZ trivial) ⟨rfl, rfl, (Q4 (fun _ => rfl) _), trivial⟩
 rintro ⟨⟨k, o⟩, hk, ho, hm, hol⟩;dsimp only at hk ho hm hol ⊢;refine Xo ?_
 refine zq ?_ ?_ <;> intro h7
 rotate_left
 ·have hge : l.length ≤ k := by simpa using h7
  have hof : o = ofN l := Qgf ho (fun z => by rw [hm, List.take_of_length_le hge])
  refine Xk ?_;refine Qx (Xl 2 0 rfl rfl (by simp) (QP J4 _) (Kw _) rfl) ?_;refine zR ?_;rw [hof]
 have hlt : k < (l).length := by simpa using h7
 obtain ⟨x, hx⟩ := Qq hlt;refine X3 ?_;refine zP (Qf rfl rfl rfl k rfl _ (Qi hx) rfl) ?_;refine zL ?_;refine zP (QfA (Qe8 o x) rfl rfl rfl (.cons (.own rfl (by simp) (QP J4 _) (Kw _)) (.cons (.fz rfl) .nil))) ?_;refine zN ?_
 refine zq ?_ ?_ <;> intro h10
 ·have hhas : X6 o x = true := h10
  refine Qy ?_;refine Qb ?_;exact ⟨⟨(k + 1, o), hlt, ho, fun z => by dsimp only; rw [hm, List.take_add_one, hx]; simp only [List.mem_append, Option.toList_some, List.mem_singleton]; exact ⟨.inl, fun h => h.elim id (fun e => e ▸ (hm x).1 (Yn.1 hhas))⟩, by dsimp only; omega⟩, Qa rfl (XE ⟨(cgO (by first | rfl | exact XV.symm)), rfl, X5, rfl, trivial⟩) ⟨rfl, rfl, (Q4 (fun _ => rfl) _), trivial⟩, by dsimp only; omega⟩
 have hno : x ∉ o := fun hm2 => by rw [Yn.2 hm2] at h10; cases h10
 refine Xk ?_;refine zP (Qf rfl rfl rfl k rfl _ (Qi hx) rfl) ?_;refine zL ?_;refine zP (QG rfl rfl rfl rfl (by exact rfl) (by decide) (by decide)) ?_;refine QS hN rfl rfl rfl (by simp) rfl rfl rfl (by simp [Qz]; omega) rfl rfl rfl rfl ?_;refine Qy ?_;refine zP ((Qfo rfl rfl rfl (by simp))) ?_;refine zP (Kb rfl rfl rfl (by simp [Qz]; omega)) ?_;refine QD ?_
 refine Qm (fun z : {j : Nat // j ≤ o.length ∧ ∀ z ∈ o.drop j, Op.bytesLess x z = true} => ⟨[(0, XS l), (3, .own 0 (o.length + 1)), (4, i64 (k : Nat)), (5, i64 (z.1 : Nat))], [(0, .arr 9 1 ((Qbj o z.1 x).map Wz))], 1⟩) (fun z => z.1) (⟨o.length, Nat.le_refl _, by simp⟩) ?_ ?_
 ·exact Qa rfl (XE ⟨(cgO (by simp [Qz])), rfl, rfl, rfl, (Y6 (by simp [Qz])), rfl, trivial⟩) ⟨(cgA (by rw [Qr6]; simp [Qz, Wz])), rfl, (Q4 (fun _ => rfl) _), trivial⟩
 rintro ⟨j, hj, hab⟩;dsimp only;refine QH ?_;refine zD 13 ?_;refine QD ?_
 refine zd 31 ?_ ?_ <;> intro h22
 rotate_left
 ·have hj0 : j = 0 := by have := of_decide_eq_false h22; omega
  have hpw := Qn7 (Qns (k := j) ho (by rw [hj0]; simp) hab) hm hx hol
  refine Wn ?_;refine Qb ?_;exact ⟨⟨(k + 1, _), hlt, hpw⟩, Qa rfl (XE ⟨(cgO (by first | rfl | exact XV.symm)), rfl, X5, rfl, trivial⟩) ⟨rfl, rfl, (Q4 (fun _ => rfl) _), trivial⟩, by dsimp only; omega⟩
 obtain ⟨j, rfl⟩ : ∃ j', j = j' + 1 := ⟨j - 1, by have := of_decide_eq_true h22; omega⟩
 obtain ⟨y, hy⟩ := Qq (show j < o.length by omega);refine QH ?_;refine vP (XO h22) (Kb rfl rfl rfl (by omega)) ?_;refine vP (XO h22) (YD rfl rfl rfl rfl (by simp [XV]) j (by omega) (by omega)) ?_;refine vP (XO h22) (Wg rfl rfl rfl (by simp [XV]) (QdS _) j rfl (Qi (Qhj hy)) (fun _ => rfl) rfl) ?_;refine QH ?_;refine vP (XO h22) (YD rfl rfl rfl rfl (by simp [XV]) (j + 1) rfl (by omega)) ?_;refine vP (XO h22) (Wg rfl rfl rfl (by simp [XV]) (QdS _) (j + 1) rfl (Qi (Qgc hj)) (fun _ => rfl) rfl) ?_;refine QD ?_
 refine zq ?_ ?_ <;> intro h28
 rotate_left
 ·have hpw := Qn7 (Qns ho (QlV ho hy (Qwj h28 (fun e => hno (e ▸ List.mem_of_getElem? hy)))) hab) hm hx hol
  refine Qy ?_;refine Qb ?_;exact ⟨⟨(k + 1, _), hlt, hpw⟩, Qa rfl (XE ⟨(cgO (by first | rfl | exact XV.symm)), rfl, X5, rfl, trivial⟩) ⟨rfl, rfl, (Q4 (fun _ => rfl) _), trivial⟩, by dsimp only; omega⟩
 have hgt := Qv4 h28
 refine QD ?_;refine Qhk 18 rfl (by kernel_rfl) (by kernel_rfl) (fun _ _ h => h) ?_;refine Xf 0 rfl (by kernel_rfl) (by kernel_rfl) rfl (JJ hN rfl rfl rfl rfl rfl rfl) ?_;refine Xf 1 rfl (by kernel_rfl) (by kernel_rfl) rfl (JJ hN rfl rfl rfl rfl rfl rfl) ?_;refine Xf 2 rfl (by kernel_rfl) (by kernel_rfl) rfl (Qoe hN rfl rfl rfl (by omega) rfl rfl rfl rfl) ?_;refine Xf 3 rfl (by kernel_rfl) (by kernel_rfl) rfl (JJ hN rfl rfl rfl rfl rfl rfl) ?_;refine Xf 4 rfl (by kernel_rfl) (by kernel_rfl) rfl (JJ hN rfl rfl rfl rfl rfl rfl) ?_
 refine Xf 5 rfl (by kernel_rfl) (by kernel_rfl) rfl (JJ hN rfl rfl rfl rfl rfl rfl) ?_;refine Xf 6 rfl (by kernel_rfl) (by kernel_rfl) rfl (JJ hN rfl rfl rfl rfl rfl rfl) ?_;refine Xf 7 rfl (by kernel_rfl) (by kernel_rfl) rfl (Qgl hN rfl rfl rfl rfl (by simp [XV]) (j + 1) rfl (by omega) rfl rfl rfl rfl) ?_;refine Xf 9 rfl (by kernel_rfl) (by kernel_rfl) rfl (JJ hN rfl rfl rfl rfl rfl rfl) ?_;refine Xf 10 rfl (by kernel_rfl) (by kernel_rfl) rfl (JJ hN rfl rfl rfl rfl rfl rfl) ?_
 refine Xf 11 rfl (by kernel_rfl) (by kernel_rfl) rfl (Qoe hN rfl rfl rfl (by omega) rfl rfl rfl rfl) ?_;refine Xf 12 rfl (by kernel_rfl) (by kernel_rfl) rfl (Qgl hN rfl rfl rfl rfl (by simp [XV]) j (by omega) (by omega) rfl rfl rfl rfl) ?_;refine Jf [8, 13] (by kernel_rfl) rfl ⟨.inl (JA rfl ?_), .inl (JA rfl ?_), trivial⟩
 ·refine zp (Wg rfl rfl rfl (by simp [XV]) (QdS _) (j + 1) rfl (Qi (Qgc hj)) (fun _ => rfl) rfl) ?_;change AT _ _ _ _ _ _ _ _;refine Jf [13] (by kernel_rfl) rfl ⟨.inl (JA rfl ?_), trivial⟩;refine zp (Wg rfl rfl rfl (by simp [XV]) (QdS _) j rfl (Qi (Qhj hy)) (fun _ => rfl) rfl) ?_;change AT _ _ _ _ _ _ _ _;refine Jf [14] (by kernel_rfl) rfl ⟨.inl (JA rfl ?_), trivial⟩;refine zp (YD rfl rfl rfl rfl (by simp [XV]) j (by omega) (by omega)) ?_;change AT _ _ _ _ _ _ _ _
  refine Jf [15] (by kernel_rfl) rfl ⟨.inr (Wq rfl rfl rfl rfl (by simp [XV]) j rfl (by simp [XV]; omega) rfl rfl rfl rfl (QdS _) rfl rfl rfl rfl ?_), trivial⟩;change AT _ _ _ _ _ _ _ _;refine Jf [16] (by kernel_rfl) rfl ⟨.inl (JA rfl ?_), trivial⟩;refine zp (YD rfl rfl rfl rfl (by simp [XV]) (j + 1) rfl (by omega)) ?_;change AT _ _ _ _ _ _ _ _;refine Jf [17] (by kernel_rfl) rfl ⟨.inr (Wq rfl rfl rfl rfl (by simp [XV]) (j + 1) rfl (by simp [XV]; omega) rfl rfl rfl rfl (by rw [Qfh]; exact QdS _) rfl rfl rfl rfl ?_), trivial⟩
  change AT _ _ _ _ _ _ _ _;refine QaT (by kernel_rfl) ?_;change Ym _ _ _ _  _;refine QH ?_;refine zP (Kb rfl rfl rfl (by omega)) ?_;refine zS ?_;refine Qb ?_;exact ⟨⟨j, by omega, Qhx hy hab hgt⟩, Qa rfl (XE ⟨(cgO rfl), rfl, rfl, rfl, X5, rfl, trivial⟩) ⟨(cgA (by rw [Qfh, Qfh, QiR hy])), rfl, (Q4 (fun _ => rfl) _), trivial⟩, by dsimp only; omega⟩
 refine zp (Wg rfl rfl rfl (by simp [XV]) (QdS _) j rfl (Qi (Qhj hy)) (fun _ => rfl) rfl) ?_;change AT _ _ _ _ _ _ _ _;refine Jf [8] (by kernel_rfl) rfl ⟨.inl (JA rfl ?_), trivial⟩;refine zp (Wg rfl rfl rfl (by simp [XV]) (QdS _) (j + 1) rfl (Qi (Qgc hj)) (fun _ => rfl) rfl) ?_;change AT _ _ _ _ _ _ _ _;refine Jf [14] (by kernel_rfl) rfl ⟨.inl (JA rfl ?_), trivial⟩;refine zp (YD rfl rfl rfl rfl (by simp [XV]) j (by omega) (by omega)) ?_;change AT _ _ _ _ _ _ _ _
 refine Jf [15] (by kernel_rfl) rfl ⟨.inr (Wq rfl rfl rfl rfl (by simp [XV]) j rfl (by simp [XV]; omega) rfl rfl rfl rfl (QdS _) rfl rfl rfl rfl ?_), trivial⟩;change AT _ _ _ _ _ _ _ _;refine Jf [16] (by kernel_rfl) rfl ⟨.inl (JA rfl ?_), trivial⟩;refine zp (YD rfl rfl rfl rfl (by simp [XV]) (j + 1) rfl (by omega)) ?_;change AT _ _ _ _ _ _ _ _;refine Jf [17] (by kernel_rfl) rfl ⟨.inr (Wq rfl rfl rfl rfl (by simp [XV]) (j + 1) rfl (by simp [XV]; omega) rfl rfl rfl rfl (by rw [Qfh]; exact QdS _) rfl rfl rfl rfl ?_), trivial⟩
 change AT _ _ _ _ _ _ _ _;refine QaT (by kernel_rfl) ?_;change Ym _ _ _ _  _;refine QH ?_;refine zP (Kb rfl rfl rfl (by omega)) ?_;refine zS ?_;refine Qb ?_;exact ⟨⟨j, by omega, Qhx hy hab hgt⟩, Qa rfl (XE ⟨(cgO rfl), rfl, rfl, rfl, X5, rfl, trivial⟩) ⟨(cgA (by rw [Qfh, Qfh, QiR hy])), rfl, (Q4 (fun _ => rfl) _), trivial⟩, by dsimp only; omega⟩
theorem Qou (a b : List Nm) (ha : a.length ≤ 1000000) : FC Tryz.prog 169 [XS a, XS b] (XS (ofN (Qki a b))) := by
 refine Qh [4] Tryz.func169 rfl rfl 30 Tryz.ntmps169 (Nat.le_of_ble_eq_true rfl) ?_
 intro E hN;refine Xk ?_;refine Kp hN rfl rfl rfl rfl rfl rfl ?_;refine Xo ?_;refine Qm (fun x : {k : Nat // k ≤ (a).length ∧ True} => ⟨[(0, XS a), (1, XS b), (5, .own 0 ((a.take x.1).filter fun x => !X6 b x).length), (6, i64 (x.1 : Nat))], [(0, .arr 9 1 (((a.take x.1).filter fun x => !X6 b x).map Wz))], 1⟩) (fun x => (a).length - x.1) (⟨0, Nat.zero_le _, by simp⟩) ?_ ?_
 ·exact Qa rfl (YO trivial) ⟨rfl, rfl, (Q4 (fun _ => rfl) _), trivial⟩
 rintro ⟨k, hk, hg⟩;dsimp only;refine Xo ?_
 refine zq ?_ ?_ <;> intro h9
 rotate_left
 ·have hge : a.length ≤ k := by simpa using h9
  rw [List.take_of_length_le hge];refine QH ?_;refine Qx (Xl 5 0 rfl rfl (by simp) (QP J4 _) (Kw _) rfl) ?_;refine QH ?_;refine zP (Qd (QjJ (Qki a b) (Nat.le_trans (List.length_filter_le _ _) ha)) rfl rfl rfl) ?_;refine zS ?_;refine zQ ?_
  rfl
 have hlt : k < (a).length := by simpa using h9
 obtain ⟨x, hx⟩ := Qq hlt;refine Xo ?_;refine zP (Qf rfl rfl rfl k rfl _ (Qi hx) rfl) ?_;refine zL ?_;refine zP (Qd (Qe8 b x) rfl rfl rfl) ?_;refine QH ?_
 refine zq ?_ ?_ <;> intro h12
 ·have hq : (!X6 b x) = true := h12
  refine QC ?_;refine zP (Qf rfl rfl rfl k rfl _ (Qi hx) rfl) ?_;refine zL ?_;refine zP (QG rfl rfl rfl rfl (by exact rfl) (by decide) (by decide)) ?_;refine QS hN rfl rfl rfl (by simp) rfl rfl rfl (by have := Qje (q := fun x => !X6 b x) (l := a) (k := k); simp [Qz] at this ⊢; omega) rfl rfl rfl rfl ?_;refine Xk ?_;refine Qb ?_
  exact ⟨⟨k + 1, hlt, trivial⟩, Qa rfl (Yf ⟨(cgO (by first | (rw [Qal hx hq]; simp [Qz]; done) | rw [QbU hx hq])), rfl, X5, rfl, trivial⟩) ⟨(cgA (by first | (rw [Qal hx hq]; simp [Qz, Wz]; done) | rw [QbU hx hq])), rfl, (Q4 (fun _ => rfl) _), trivial⟩, by dsimp only; omega⟩
 have hq : (!X6 b x) = false := h12
 refine Qy ?_;refine Qb ?_;exact ⟨⟨k + 1, hlt, trivial⟩, Qa rfl (Yf ⟨(cgO (by first | (rw [Qal hx hq]; simp [Qz]; done) | rw [QbU hx hq])), rfl, X5, rfl, trivial⟩) ⟨(cgA (by first | (rw [Qal hx hq]; simp [Qz, Wz]; done) | rw [QbU hx hq])), rfl, (Q4 (fun _ => rfl) _), trivial⟩, by dsimp only; omega⟩
theorem Qeg (a b : List Nm) (ha : a.length ≤ 1000000) : FC Tryz.prog 135 [XS a, XS b] (bl (J6 a b)) := by
 refine Qh [4] Tryz.func135 rfl rfl 10 Tryz.ntmps135 (Nat.le_of_ble_eq_true rfl) ?_
 intro E hN;refine Xo ?_;refine zP (Qd (Qou a b ha) rfl rfl rfl) ?_;refine QD ?_;refine zQ ?_;exact Qo (by rw [List.length_map]; exact QtL)
end Go.Proofs.YtnkkokmmeplbgaaGreat
