/-
  Plain laws: names of any list, sorted, each once.
-/
import Derived.Test.YtnkkokmmeplbgaaGreatB11
import Derived.Test.YtnkkokmmeplbgaaGreatB10
import Derived.Test.YtnkkokmmeplbgaaGreatA7
namespace Go.Proofs.YtnkkokmmeplbgaaGreat
set_option maxRecDepth 100000
set_option maxHeartbeats 1000000
open Go.RowKit
def ofN : List Nm → List Nm
 | [] => []
 | x :: r => Ku [x] (ofN r)
theorem Qdu : ∀ l, Qq (ofN l) = true
 | [] => rfl
 | x :: r => WB rfl (Qdu r)
theorem QfC : ∀ {l : List Nm} {z : Nm}, z ∈ ofN l ↔ z ∈ l
 | [], z => by simp [ofN]
 | x :: r, z => by rw [ofN, K9 rfl (Qdu r), QfC]; simp
theorem QfT {l o : List Nm} (h : pw o) (hm : ∀ z, z ∈ o ↔ z ∈ l) : o = ofN l := QdG (Wj h) (Qdu l) fun z => by rw [hm, QfC]
def QaG (o : List Nm) (k : Nat) (x : Nm) : List Nm := o.take k ++ x :: o.drop k
theorem XT {o : List Nm} {k : Nat} {x : Nm} : (QaG o k x).length = o.length + 1 := by unfold QaG; simp; omega
theorem Qo2 {o : List Nm} {x : Nm} : QaG o o.length x = o ++ [x] := by unfold QaG; simp
theorem QfL {o : List Nm} {k : Nat} {x : Nm} (h : k ≤ o.length) : (QaG o k x)[k]? = some x := by
 unfold QaG
 rw [List.getElem?_append_right (by simp; omega)]
 simp [Nat.min_eq_left h]
theorem Qgw {o : List Nm} {k : Nat} {x y : Nm} (hy : o[k]? = some y) : (QaG o (k + 1) x)[k]? = some y := by
 have := (List.getElem?_eq_some_iff.1 hy).1
 unfold QaG
 rw [List.getElem?_append_left (by simp; omega), List.getElem?_take, if_pos (by omega), hy]
theorem Qoj {o : List Nm} {k : Nat} {x z : Nm} : z ∈ QaG o k x ↔ z = x ∨ z ∈ o := by
 unfold QaG
 rw [List.mem_append, List.mem_cons]
 constructor
 ·rintro (h | h | h)
  ·exact .inr (List.mem_of_mem_take h)
  ·exact .inl h
  exact .inr (List.mem_of_mem_drop h)
 rintro (h | h)
 ·exact .inr (.inl h)
 have := (List.take_append_drop k o).symm ▸ h
 rcases List.mem_append.1 this with h | h
 ·exact .inl h
 exact .inr (.inr h)
theorem Qh5 {o : List Nm} {k : Nat} {x y : Nm} (hy : o[k]? = some y) : ((QaG o (k + 1) x).set k x).set (k + 1) y = QaG o k x := by
 have hk := (List.getElem?_eq_some_iff.1 hy).1
 apply List.ext_getElem?
 intro i
 rw [List.getElem?_set, List.getElem?_set, List.length_set, XT]
 have hd : o.drop k = y :: o.drop (k + 1) := by rw [List.drop_eq_getElem_cons hk]; rw [List.getElem?_eq_getElem hk] at hy; cases hy; rfl
 by_cases h1 : k + 1 = i
 ·rw [if_pos h1, if_pos (by omega)]
  unfold QaG
  rw [← h1, List.getElem?_append_right (by simp; omega)]
  simp [Nat.min_eq_left (Nat.le_of_lt hk), hd]
 rw [if_neg h1]
 by_cases h2 : k = i
 ·rw [if_pos h2, if_pos (by omega), ← h2, QfL (by omega)]
 rw [if_neg h2]
 by_cases h3 : i < k
 ·unfold QaG
  rw [List.getElem?_append_left (by simp; omega), List.getElem?_append_left (by simp; omega), List.getElem?_take, List.getElem?_take, if_pos (by omega), if_pos h3]
 unfold QaG
 rw [List.getElem?_append_right (by simp; omega), List.getElem?_append_right (by simp; omega)]
 simp only [List.length_take]
 obtain ⟨e, rfl⟩ : ∃ e, i = k + 2 + e := ⟨i - (k + 2), by omega⟩
 rw [Nat.min_eq_left (by omega), Nat.min_eq_left (by omega), show k + 2 + e - (k + 1) = e + 1 by omega, show k + 2 + e - k = e + 2 by omega, hd]
 simp
theorem QmF {o : List Nm} {k : Nat} {x : Nm} (h : pw o) (h1 : ∀ z ∈ o.take k, Op.bytesLess z x = true) (h2 : ∀ z ∈ o.drop k, Op.bytesLess x z = true) : pw (QaG o k x) := by
 have h' : pw (o.take k ++ o.drop k) := by rw [List.take_append_drop]; exact h
 obtain ⟨q1, q2, q3⟩ := List.pairwise_append.1 h'
 unfold QaG
 refine List.pairwise_append.2 ⟨q1, List.pairwise_cons.2 ⟨h2, q2⟩, fun z hz w hw => ?_⟩
 rcases List.mem_cons.1 hw with rfl | hw
 ·exact h1 z hz
 exact q3 z hz w hw
theorem Qk4 {o : List Nm} {k : Nat} {x y : Nm} (h : pw o) (hy : o[k]? = some y) (hl : Op.bytesLess y x = true) : ∀ z ∈ o.take (k + 1), Op.bytesLess z x = true := fun z hz => by
 obtain ⟨j, hj⟩ := List.mem_iff_getElem?.1 hz
 have hjk : j < k + 1 := by
  have := (List.getElem?_eq_some_iff.1 hj).1
  simp at this; omega
 rw [List.getElem?_take, if_pos hjk] at hj
 by_cases e : j = k
 ·subst e; rw [hy] at hj; cases hj; exact hl
 obtain ⟨g1, rfl⟩ := List.getElem?_eq_some_iff.1 hj
 obtain ⟨g2, rfl⟩ := List.getElem?_eq_some_iff.1 hy
 exact Qap (List.pairwise_iff_getElem.1 h j k g1 g2 (by omega)) hl
theorem QgZ {o : List Nm} {k : Nat} {x y : Nm} (hy : o[k]? = some y) (h1 : ∀ z ∈ o.drop (k + 1), Op.bytesLess x z = true) (hl : Op.bytesLess x y = true) : ∀ z ∈ o.drop k, Op.bytesLess x z = true := fun z hz => by
 rw [XA hy] at hz
 rcases List.mem_cons.1 hz with rfl | hz
 ·exact hl
 exact h1 z hz
theorem K1 {s : Nm} (h : s.length < 1 ∨ 16 < s.length ∨ Ql7 s = false) : XM s = false := by
 unfold XM
 rcases h with h | h | h
 ·have : s = [] := List.eq_nil_of_length_eq_zero (by omega)
  subst this; rfl
 ·rw [decide_eq_false (by omega)]; rfl
 rw [h]; simp
theorem QmM {s : Nm} (h : ¬ s.length < 1) : ∃ c : UInt8, s[0]? = some c ∧ Ql7 s = (decide (97 ≤ (c.toNat : Int)) && decide ((c.toNat : Int) ≤ 122)) := by
 cases s with
 | nil => simp at h
 | cons c r => exact ⟨c, rfl, rfl⟩
theorem QtR {x y : Nm} (h : (!(Op.bytesLess y x || y == x)) = true) : Op.bytesLess x y = true := by
 simp only [Bool.not_eq_true', Bool.or_eq_false_iff, beq_eq_false_iff_ne] at h
 cases hb : Op.bytesLess x y
 ·exact absurd (QrS hb h.1).symm h.2
 rfl
theorem Qtu {x y : Nm} (h : (!(Op.bytesLess y x || y == x)) = false) (hne : y ≠ x) : Op.bytesLess y x = true := by
 simp only [Bool.not_eq_false', Bool.or_eq_true, beq_iff_eq] at h
 exact h.resolve_right hne
theorem Qdi (l : List Nm) : ∀ e ∈ l.map K2, e.length = 1 := QfF (f := K2) (fun _ => rfl)
theorem Qe1 {l : List Nm} {i : Nat} {x : Nm} : (l.map K2).set i [sv x] = (l.set i x).map K2 := by rw [List.map_set]; rfl
def QkK (a b : List Nm) : List Nm := a.filter fun x => !X2 b x
theorem Qq5 {a b : List Nm} : (((ofN (QkK a b)).length : Int) == 0) = JT a b := by
 rw [Bool.eq_iff_iff, YL]
 simp only [beq_iff_eq]
 constructor
 ·intro h x hx
  cases hb : X2 b x
  ·have : x ∈ ofN (QkK a b) := QfC.2 (List.mem_filter.2 ⟨hx, by rw [hb]; rfl⟩)
   have h0 : ofN (QkK a b) = [] := List.eq_nil_of_length_eq_zero (by omega)
   rw [h0] at this; cases this
  exact Yb.1 hb
 intro h
 have : ofN (QkK a b) = [] := by
  cases ho : ofN (QkK a b) with
  | nil => rfl
  | cons y r =>
   have hy : y ∈ QkK a b := QfC.1 (by rw [ho]; simp)
   obtain ⟨h1, h2⟩ := List.mem_filter.1 hy
   rw [Yb.2 (h y h1)] at h2; cases h2
 rw [this]; rfl
theorem QmC {l o : List Nm} {k j : Nat} {x : Nm} (h : pw (QaG o j x)) (hm : ∀ z, z ∈ o ↔ z ∈ l.take k) (hx : l[k]? = some x) (hol : o.length ≤ k) : pw (QaG o j x) ∧ (∀ z, z ∈ QaG o j x ↔ z ∈ l.take (k + 1)) ∧ (QaG o j x).length ≤ k + 1 :=
 ⟨h, fun z => by rw [Qoj, hm, List.take_add_one, hx]; simp [or_comm], by rw [XT]; omega⟩
theorem Wy {q : Nm → Bool} {l : List Nm} {k : Nat} {x : Nm} (hx : l[k]? = some x) (h : q x = true) : (l.take (k + 1)).filter q = (l.take k).filter q ++ [x] := by
 rw [List.take_add_one, hx, List.filter_append]; simp [h]
theorem Qbc {q : Nm → Bool} {l : List Nm} {k : Nat} {x : Nm} (hx : l[k]? = some x) (h : q x = false) : (l.take (k + 1)).filter q = (l.take k).filter q := by
 rw [List.take_add_one, hx, List.filter_append]; simp [h]
theorem QiV {q : Nm → Bool} {l : List Nm} {k : Nat} : ((l.take k).filter q).length ≤ k := Nat.le_trans (List.length_filter_le _ _) (by simp; omega)
theorem QlA (c : Int) : FC Tryz.prog 210 [.p (.int .u8 c)] (bl (X5 c)) := by
 refine Qg [2] Tryz.func210 rfl rfl 21 Tryz.ntmps210 (Nat.le_of_ble_eq_true rfl) ?_
 intro E hN
 refine JA ?_
 refine zc 5 ?_ ?_ <;> intro h2
 rotate_left
 ·
  refine Q4 ?_
  refine zc 12 ?_ ?_ <;> intro h8
  ·
   refine QF ?_
   refine zc 17 ?_ ?_ <;> intro h9
   ·
    refine Qv ?_; refine zQ ?_
    exact Qm (by simp [X5, *])
   refine Qv ?_; refine zQ ?_
   exact Qm (by simp [X5, *])
  refine JA ?_; refine zQ ?_
  exact Qm (by simp [X5, *])
 refine Qv ?_
 refine zc 9 ?_ ?_ <;> intro h3
 ·
  refine X6 ?_; refine zQ ?_
  exact Qm (by simp [X5, *])
 refine Qs ?_
 refine zc 12 ?_ ?_ <;> intro h4
 ·
  refine Qu ?_; refine uP (Xj h3) (Xu rfl rfl h4 rfl) ?_; refine Qu ?_
  refine zc 17 ?_ ?_ <;> intro h5
  ·
   refine Qv ?_; refine zQ ?_
   exact Qm (by simp [X5, *])
  refine Qv ?_; refine zQ ?_
  exact Qm (by simp [X5, *])
 refine Qu ?_; refine uP (Xj h3) (Xw rfl rfl h4 rfl) ?_; refine Q8 ?_; refine zQ ?_
 exact Qm (by simp [X5, *])
theorem Qgk (s : Nm) : FC Tryz.prog 179 [sv s] (bl (XM s)) := by
 refine Qg [2] Tryz.func179 rfl rfl 33 Tryz.ntmps179 (Nat.le_of_ble_eq_true rfl) ?_
 intro E hN
 refine Jv ?_
 refine zc 7 ?_ ?_ <;> intro h3
 ·
  have hv := K1 (s := s) (.inl (by have := of_decide_eq_true h3; omega))
  refine QiL ?_; refine zQ ?_
  exact Qm hv.symm
 obtain ⟨c0, hc0, hh⟩ := QmM (s := s) (by have := of_decide_eq_false h3; omega)
 refine QF ?_
 refine zc 12 ?_ ?_ <;> intro h5
 ·
  have hv := K1 (s := s) (.inr (.inl (by have := of_decide_eq_true h5; omega)))
  refine Ki ?_; refine zQ ?_
  exact Qm hv.symm
 have h16 : s.length ≤ 16 := by have := of_decide_eq_false h5; omega
 refine Jk ?_; refine uP (Xj h5) (Y0 rfl rfl rfl 0 rfl _ hc0) ?_; refine Qs ?_
 refine zc 17 ?_ ?_ <;> intro h7
 ·
  have hv := K1 (s := s) (.inr (.inr (by rw [hh]; have := of_decide_eq_true h7; rw [decide_eq_false (by omega)]; rfl)))
  refine JA ?_; refine zQ ?_
  exact Qm hv.symm
 have h97 : 97 ≤ (c0.toNat : Int) := by have := of_decide_eq_false h7; omega
 refine Jk ?_; refine uP (Xj h7) (Y0 rfl rfl rfl 0 rfl _ hc0) ?_; refine Qs ?_
 refine zq ?_ ?_ <;> intro h9
 ·
  have hv := K1 (s := s) (.inr (.inr (by rw [hh]; have := of_decide_eq_true h9; rw [decide_eq_false (show ¬ (c0.toNat : Int) ≤ 122 by omega), Bool.and_false])))
  refine Qs ?_; refine zQ ?_
  exact Qm hv.symm
 have hv : XM s = s.all (fun c => X5 c.toNat) := by
  have := of_decide_eq_false h9
  rw [XM, hh, decide_eq_true h16, decide_eq_true h97, decide_eq_true (by omega)]; rfl
 refine Q4 ?_
 refine Ql (fun x : {k : Nat // k ≤ (s).length ∧ (s.drop k).all (fun c => X5 c.toNat) = s.all (fun c => X5 c.toNat)} => ⟨[(0, sv s), (3, i64 (x.1 : Nat))], [], 0⟩) (fun x => (s).length - x.1) (⟨0, Nat.zero_le _, by simp⟩) ?_ ?_
 ·
  exact Qa rfl (JI trivial) trivial
 rintro ⟨k, hk, hg⟩
 dsimp only
 refine XN ?_
 refine zq ?_ ?_ <;> intro h13
 rotate_left
 ·
  have hge : (s).length ≤ k := by simpa using h13
  refine Qv ?_; refine zQ ?_
  exact Qm (by rw [hv, XU hg hge])
 have hlt : k < (s).length := by simpa using h13
 obtain ⟨x, hx⟩ := Qn hlt
 refine Q4 ?_; refine zP (Y0 rfl rfl rfl k rfl _ hx) ?_; refine zP (Qc (QlA _) rfl rfl rfl) ?_; refine Qu ?_
 refine zq ?_ ?_ <;> intro h15
 ·
  refine Qs ?_; refine zQ ?_
  exact Qm (by rw [hv, Q3 hg hx (by first | (simp_all; done) | (simp_all [X5]; done) | (simp_all [X5]; omega))])
 refine QF ?_; refine Qb ?_
 exact ⟨⟨k + 1, hlt, Xx hg hx (by first | (simp_all; done) | (simp_all [X5]; done) | (simp_all [X5]; omega))⟩, Qa rfl (Xv ⟨(Q0 (by dsimp only; omega)), rfl, trivial⟩) trivial, by dsimp only; omega⟩
theorem Qk8 (l : List Nm) : FC Tryz.prog 180 [X1 l] (bl (Qq l)) := by
 refine Qg [2] Tryz.func180 rfl rfl 20 Tryz.ntmps180 (Nat.le_of_ble_eq_true rfl) ?_
 intro E hN
 refine Jj 0 rfl (fun hl0 => ?_)
 refine XB ?_
 refine Ql (fun x : {k : Nat // 1 ≤ k ∧ Qq (l.drop (k - 1)) = Qq l} => ⟨[(0, X1 l), (3, i64 (x.1 : Nat))], [], 0⟩) (fun x => l.length - x.1) (⟨1, Nat.le_refl _, rfl⟩) ?_ ?_
 ·
  exact Qa rfl (JI trivial) trivial
 rintro ⟨k, hk, hg⟩
 dsimp only
 refine XN ?_
 refine zq ?_ ?_ <;> intro h5
 rotate_left
 ·
  have hge : l.length ≤ k := by simpa using h5
  refine Qv ?_; refine zQ ?_
  exact Qm (QdF hg hge).symm
 have hlt : k < l.length := by simpa using h5
 obtain ⟨x, hx⟩ := Qn hlt
 obtain ⟨y, hy⟩ := Qn (show k - 1 < l.length by omega)
 have hs := Qc8 hk hg hy hx
 refine Qv ?_; refine Qd 9 (by kernel_rfl) (by kernel_rfl) ?_; refine Qu ?_; refine zp (KM rfl rfl rfl (by omega)) ?_
 refine zp (Qf rfl rfl rfl (k - 1) (by omega) _ (Qk hy) rfl) ?_; refine Qs ?_; refine zp (Qf rfl rfl rfl k rfl _ (Qk hx) rfl) ?_
 refine zl ?_; change Qj _ _ _ _ _ _; refine Qu ?_
 refine zq ?_ ?_ <;> intro h11
 ·
  refine Qs ?_; refine zQ ?_
  exact Qm (by rw [hs]; simp_all)
 have hn : Qq (l.drop (k + 1 - 1)) = Qq l := by
  rw [hs, Nat.add_sub_cancel]; simp_all
 refine QF ?_; refine Qb ?_
 exact ⟨⟨k + 1, by omega, hn⟩, Qa rfl (Xv ⟨(Q0 (by dsimp only; omega)), rfl, trivial⟩) trivial, by dsimp only; omega⟩
theorem Qej (l : List Nm) (s : Nm) : FC Tryz.prog 149 [X1 l, sv s] (bl (X2 l s)) := by
 refine Qg [4] Tryz.func149 rfl rfl 18 Tryz.ntmps149 (Nat.le_of_ble_eq_true rfl) ?_
 intro E hN
 refine Jj 0 rfl (fun hl0 => ?_)
 refine XB ?_
 refine Ql (fun x : {k : Nat // k ≤ (l).length ∧ (l.drop k).any (s == ·) = l.any (s == ·)} => ⟨[(0, X1 l), (1, sv s), (5, i64 (x.1 : Nat))], [], 0⟩) (fun x => (l).length - x.1) (⟨0, Nat.zero_le _, by simp⟩) ?_ ?_
 ·
  exact Qa rfl (JO trivial) trivial
 rintro ⟨k, hk, hg⟩
 dsimp only
 refine XN ?_
 refine zq ?_ ?_ <;> intro h7
 rotate_left
 ·
  have hge : (l).length ≤ k := by simpa using h7
  refine Qv ?_; refine zQ ?_
  exact Qm (QfB hg hge).symm
 have hlt : k < (l).length := by simpa using h7
 obtain ⟨x, hx⟩ := Qn hlt
 refine Q4 ?_; refine zP (Qf rfl rfl rfl k rfl _ (Qk hx) rfl) ?_; refine Qv ?_
 refine zq ?_ ?_ <;> intro h10
 ·
  have hxs : x = s := by simpa using h10
  refine Qs ?_; refine zQ ?_
  exact Qm (Qf0 hg hx (by rw [hxs]; simp)).symm
 have hxs : x ≠ s := by simpa using h10
 refine QF ?_; refine Qb ?_
 exact ⟨⟨k + 1, hlt, Qin hg hx (beq_eq_false_iff_ne.2 fun e => hxs e.symm)⟩, Qa rfl (JI ⟨(Q0 (by dsimp only; omega)), rfl, trivial⟩) trivial, by dsimp only; omega⟩
theorem Qi4 (l : List Nm) (hl : l.length ≤ 1000000) : FC Tryz.prog 125 [X1 l] (X1 (ofN l)) := by
 refine Qg [2] Tryz.func125 rfl rfl 62 Tryz.ntmps125 (Nat.le_of_ble_eq_true rfl) ?_
 intro E hN
 refine Q8 ?_; refine Yw hN rfl rfl rfl rfl rfl rfl ?_; refine XN ?_
 refine Ql (fun z : {q : Nat × List Nm // q.1 ≤ l.length ∧ pw q.2 ∧ (∀ z, z ∈ q.2 ↔ z ∈ l.take q.1) ∧ q.2.length ≤ q.1} => ⟨[(0, X1 l), (3, .own 0 z.1.2.length), (4, i64 (z.1.1 : Nat))], [(0, .arr 9 1 (z.1.2.map K2))], 1⟩) (fun z => l.length - z.1.1) (⟨(0, []), Nat.zero_le _, List.Pairwise.nil, by simp, Nat.le_refl _⟩) ?_ ?_
 ·
  exact Qa rfl (JO trivial) ⟨rfl, rfl, (QT (fun _ => rfl) _), trivial⟩
 rintro ⟨⟨k, o⟩, hk, ho, hm, hol⟩
 dsimp only at hk ho hm hol ⊢
 refine XN ?_
 refine zq ?_ ?_ <;> intro h7
 rotate_left
 ·
  have hge : l.length ≤ k := by simpa using h7
  have hof : o = ofN l := QfT ho (fun z => by rw [hm, List.take_of_length_le hge])
  refine Q8 ?_; refine QI (Ju 2 0 rfl rfl (by simp) (QN JN _) (Y5 _) rfl) ?_; refine zR ?_
  rw [hof]
 have hlt : k < (l).length := by simpa using h7
 obtain ⟨x, hx⟩ := Qn hlt
 refine JA ?_; refine zP (Qf rfl rfl rfl k rfl _ (Qk hx) rfl) ?_; refine zL ?_
 refine zP (QeR (Qej o x) rfl rfl rfl (.cons (.own rfl (by simp) (QN JN _) (Y5 _)) (.cons (.fz rfl) .nil))) ?_; refine zN ?_
 refine zq ?_ ?_ <;> intro h10
 ·
  have hhas : X2 o x = true := h10
  refine QF ?_; refine Qb ?_
  exact ⟨⟨(k + 1, o), hlt, ho, fun z => by dsimp only; rw [hm, List.take_add_one, hx]; simp only [List.mem_append, Option.toList_some, List.mem_singleton]; exact ⟨.inl, fun h => h.elim id (fun e => e ▸ (hm x).1 (Yb.1 hhas))⟩, by dsimp only; omega⟩, Qa rfl (Xv ⟨(cgO (by first | rfl | exact XT.symm)), rfl, (Q0 (by dsimp only; omega)), rfl, trivial⟩) ⟨rfl, rfl, (QT (fun _ => rfl) _), trivial⟩, by dsimp only; omega⟩
 have hno : x ∉ o := fun hm2 => by rw [Yb.2 hm2] at h10; cases h10
 refine Q8 ?_; refine zP (Qf rfl rfl rfl k rfl _ (Qk hx) rfl) ?_; refine zL ?_
 refine zP (QE rfl rfl rfl rfl (by exact rfl) (by decide) (by decide)) ?_
 refine Xm hN rfl rfl rfl (by simp) rfl rfl rfl (by simp [QA]; omega) rfl rfl rfl rfl ?_
 refine QF ?_; refine zP ((X9 rfl rfl rfl (by simp))) ?_
 refine zP (KM rfl rfl rfl (by simp [QA]; omega)) ?_
 refine Qs ?_
 refine Ql (fun z : {j : Nat // j ≤ o.length ∧ ∀ z ∈ o.drop j, Op.bytesLess x z = true} => ⟨[(0, X1 l), (3, .own 0 (o.length + 1)), (4, i64 (k : Nat)), (5, i64 (z.1 : Nat))], [(0, .arr 9 1 ((QaG o z.1 x).map K2))], 1⟩) (fun z => z.1) (⟨o.length, Nat.le_refl _, by simp⟩) ?_ ?_
 ·
  exact Qa rfl (Xv ⟨(cgO (by simp [QA])), rfl, rfl, rfl, (Q0 (by simp [QA])), rfl, trivial⟩) ⟨(cgA (by rw [Qo2]; simp [QA, K2])), rfl, (QT (fun _ => rfl) _), trivial⟩
 rintro ⟨j, hj, hab⟩
 dsimp only
 refine Qu ?_; refine Qd 13 (by kernel_rfl) (by kernel_rfl) ?_; refine Qs ?_
 refine zd 31 ?_ ?_ <;> intro h22
 rotate_left
 ·
  have hj0 : j = 0 := by have := of_decide_eq_false h22; omega
  have hpw := QmC (QmF (k := j) ho (by rw [hj0]; simp) hab) hm hx hol
  refine XB ?_; change Qj _ _ _ _ _ _; refine XN ?_; refine Qb ?_
  exact ⟨⟨(k + 1, _), hlt, hpw⟩, Qa rfl (Xv ⟨(cgO (by first | rfl | exact XT.symm)), rfl, (Q0 (by dsimp only; omega)), rfl, trivial⟩) ⟨rfl, rfl, (QT (fun _ => rfl) _), trivial⟩, by dsimp only; omega⟩
 obtain ⟨j, rfl⟩ : ∃ j', j = j' + 1 := ⟨j - 1, by have := of_decide_eq_true h22; omega⟩
 obtain ⟨y, hy⟩ := Qn (show j < o.length by omega)
 refine Qu ?_; refine vP (XG h22) (KM rfl rfl rfl (by omega)) ?_
 refine vP (XG h22) (Xg rfl rfl rfl rfl (by simp [XT]) j (by omega) (by omega)) ?_
 refine vP (XG h22) (Kp rfl rfl rfl (by simp [XT]) (Qdi _) j rfl (Qk (Qgw hy)) (fun _ => rfl) rfl) ?_; refine Qu ?_
 refine vP (XG h22) (Xg rfl rfl rfl rfl (by simp [XT]) (j + 1) rfl (by omega)) ?_
 refine vP (XG h22) (Kp rfl rfl rfl (by simp [XT]) (Qdi _) (j + 1) rfl (Qk (QfL hj)) (fun _ => rfl) rfl) ?_; refine Jk ?_
 change Qj _ _ _ _ _ _; refine Qu ?_
 refine zq ?_ ?_ <;> intro h28
 rotate_left
 ·
  have hpw := QmC (QmF ho (Qk4 ho hy (Qtu h28 (fun e => hno (e ▸ List.mem_of_getElem? hy)))) hab) hm hx hol
  refine QF ?_; refine Qb ?_
  exact ⟨⟨(k + 1, _), hlt, hpw⟩, Qa rfl (Xv ⟨(cgO (by first | rfl | exact XT.symm)), rfl, (Q0 (by dsimp only; omega)), rfl, trivial⟩) ⟨rfl, rfl, (QT (fun _ => rfl) _), trivial⟩, by dsimp only; omega⟩
 have hgt := QtR h28
 refine Qs ?_; refine QjC 18 rfl (by kernel_rfl) (by kernel_rfl) (fun _ _ h => h) ?_
 refine JF 0 rfl (by kernel_rfl) (by kernel_rfl) rfl (Q9 hN rfl rfl rfl rfl rfl rfl) ?_
 refine JF 1 rfl (by kernel_rfl) (by kernel_rfl) rfl (Q9 hN rfl rfl rfl rfl rfl rfl) ?_
 refine JF 2 rfl (by kernel_rfl) (by kernel_rfl) rfl (QmE hN rfl rfl rfl (by omega) rfl rfl rfl rfl) ?_
 refine JF 3 rfl (by kernel_rfl) (by kernel_rfl) rfl (Q9 hN rfl rfl rfl rfl rfl rfl) ?_
 refine JF 4 rfl (by kernel_rfl) (by kernel_rfl) rfl (Q9 hN rfl rfl rfl rfl rfl rfl) ?_
 refine JF 5 rfl (by kernel_rfl) (by kernel_rfl) rfl (Q9 hN rfl rfl rfl rfl rfl rfl) ?_
 refine JF 6 rfl (by kernel_rfl) (by kernel_rfl) rfl (Q9 hN rfl rfl rfl rfl rfl rfl) ?_
 refine JF 7 rfl (by kernel_rfl) (by kernel_rfl) rfl (QfD hN rfl rfl rfl rfl (by simp [XT]) (j + 1) rfl (by omega) rfl rfl rfl rfl) ?_
 refine JF 9 rfl (by kernel_rfl) (by kernel_rfl) rfl (Q9 hN rfl rfl rfl rfl rfl rfl) ?_
 refine JF 10 rfl (by kernel_rfl) (by kernel_rfl) rfl (Q9 hN rfl rfl rfl rfl rfl rfl) ?_
 refine JF 11 rfl (by kernel_rfl) (by kernel_rfl) rfl (QmE hN rfl rfl rfl (by omega) rfl rfl rfl rfl) ?_
 refine JF 12 rfl (by kernel_rfl) (by kernel_rfl) rfl (QfD hN rfl rfl rfl rfl (by simp [XT]) j (by omega) (by omega) rfl rfl rfl rfl) ?_
 refine Yf [8, 13] (by kernel_rfl) rfl ⟨.inl (QK rfl ?_), .inl (QK rfl ?_), trivial⟩
 ·
  refine zp (Kp rfl rfl rfl (by simp [XT]) (Qdi _) (j + 1) rfl (Qk (QfL hj)) (fun _ => rfl) rfl) ?_
  change AT _ _ _ _ _ _ _ _
  refine Yf [13] (by kernel_rfl) rfl ⟨.inl (QK rfl ?_), trivial⟩
  refine zp (Kp rfl rfl rfl (by simp [XT]) (Qdi _) j rfl (Qk (Qgw hy)) (fun _ => rfl) rfl) ?_
  change AT _ _ _ _ _ _ _ _
  refine Yf [14] (by kernel_rfl) rfl ⟨.inl (QK rfl ?_), trivial⟩
  refine zp (Xg rfl rfl rfl rfl (by simp [XT]) j (by omega) (by omega)) ?_
  change AT _ _ _ _ _ _ _ _
  refine Yf [15] (by kernel_rfl) rfl ⟨.inr (QV rfl rfl rfl rfl (by simp [XT]) j rfl (by simp [XT]; omega) rfl rfl rfl rfl (Qdi _) rfl rfl rfl rfl ?_), trivial⟩
  change AT _ _ _ _ _ _ _ _
  refine Yf [16] (by kernel_rfl) rfl ⟨.inl (QK rfl ?_), trivial⟩
  refine zp (Xg rfl rfl rfl rfl (by simp [XT]) (j + 1) rfl (by omega)) ?_
  change AT _ _ _ _ _ _ _ _
  refine Yf [17] (by kernel_rfl) rfl ⟨.inr (QV rfl rfl rfl rfl (by simp [XT]) (j + 1) rfl (by simp [XT]; omega) rfl rfl rfl rfl (by rw [Qe1]; exact Qdi _) rfl rfl rfl rfl ?_), trivial⟩
  change AT _ _ _ _ _ _ _ _
  refine QfU (by kernel_rfl) ?_; change Ya _ _ _ _  _; refine Qu ?_; refine zP (KM rfl rfl rfl (by omega)) ?_; refine zS ?_
  refine Qb ?_
  exact ⟨⟨j, by omega, QgZ hy hab hgt⟩, Qa rfl (Xv ⟨(cgO rfl), rfl, rfl, rfl, (Q0 (by dsimp only; omega)), rfl, trivial⟩) ⟨(cgA (by rw [Qe1, Qe1, Qh5 hy])), rfl, (QT (fun _ => rfl) _), trivial⟩, by dsimp only; omega⟩
 refine zp (Kp rfl rfl rfl (by simp [XT]) (Qdi _) j rfl (Qk (Qgw hy)) (fun _ => rfl) rfl) ?_
 change AT _ _ _ _ _ _ _ _
 refine Yf [8] (by kernel_rfl) rfl ⟨.inl (QK rfl ?_), trivial⟩
 refine zp (Kp rfl rfl rfl (by simp [XT]) (Qdi _) (j + 1) rfl (Qk (QfL hj)) (fun _ => rfl) rfl) ?_
 change AT _ _ _ _ _ _ _ _
 refine Yf [14] (by kernel_rfl) rfl ⟨.inl (QK rfl ?_), trivial⟩
 refine zp (Xg rfl rfl rfl rfl (by simp [XT]) j (by omega) (by omega)) ?_
 change AT _ _ _ _ _ _ _ _
 refine Yf [15] (by kernel_rfl) rfl ⟨.inr (QV rfl rfl rfl rfl (by simp [XT]) j rfl (by simp [XT]; omega) rfl rfl rfl rfl (Qdi _) rfl rfl rfl rfl ?_), trivial⟩
 change AT _ _ _ _ _ _ _ _
 refine Yf [16] (by kernel_rfl) rfl ⟨.inl (QK rfl ?_), trivial⟩
 refine zp (Xg rfl rfl rfl rfl (by simp [XT]) (j + 1) rfl (by omega)) ?_
 change AT _ _ _ _ _ _ _ _
 refine Yf [17] (by kernel_rfl) rfl ⟨.inr (QV rfl rfl rfl rfl (by simp [XT]) (j + 1) rfl (by simp [XT]; omega) rfl rfl rfl rfl (by rw [Qe1]; exact Qdi _) rfl rfl rfl rfl ?_), trivial⟩
 change AT _ _ _ _ _ _ _ _
 refine QfU (by kernel_rfl) ?_; change Ya _ _ _ _  _; refine Qu ?_; refine zP (KM rfl rfl rfl (by omega)) ?_; refine zS ?_
 refine Qb ?_
 exact ⟨⟨j, by omega, QgZ hy hab hgt⟩, Qa rfl (Xv ⟨(cgO rfl), rfl, rfl, rfl, (Q0 (by dsimp only; omega)), rfl, trivial⟩) ⟨(cgA (by rw [Qe1, Qe1, Qh5 hy])), rfl, (QT (fun _ => rfl) _), trivial⟩, by dsimp only; omega⟩
theorem QnJ (a b : List Nm) (ha : a.length ≤ 1000000) : FC Tryz.prog 169 [X1 a, X1 b] (X1 (ofN (QkK a b))) := by
 refine Qg [4] Tryz.func169 rfl rfl 30 Tryz.ntmps169 (Nat.le_of_ble_eq_true rfl) ?_
 intro E hN
 refine Q8 ?_; refine Yw hN rfl rfl rfl rfl rfl rfl ?_; refine XN ?_
 refine Ql (fun x : {k : Nat // k ≤ (a).length ∧ True} => ⟨[(0, X1 a), (1, X1 b), (5, .own 0 ((a.take x.1).filter fun x => !X2 b x).length), (6, i64 (x.1 : Nat))], [(0, .arr 9 1 (((a.take x.1).filter fun x => !X2 b x).map K2))], 1⟩) (fun x => (a).length - x.1) (⟨0, Nat.zero_le _, by simp⟩) ?_ ?_
 ·
  exact Qa rfl (JH trivial) ⟨rfl, rfl, (QT (fun _ => rfl) _), trivial⟩
 rintro ⟨k, hk, hg⟩
 dsimp only
 refine XN ?_
 refine zq ?_ ?_ <;> intro h9
 rotate_left
 ·
  have hge : a.length ≤ k := by simpa using h9
  rw [List.take_of_length_le hge]
  refine Qu ?_; refine QI (Ju 5 0 rfl rfl (by simp) (QN JN _) (Y5 _) rfl) ?_; refine Qu ?_
  refine zP (Qc (Qi4 (QkK a b) (Nat.le_trans (List.length_filter_le _ _) ha)) rfl rfl rfl) ?_; refine zS ?_; refine zQ ?_
  rfl
 have hlt : k < (a).length := by simpa using h9
 obtain ⟨x, hx⟩ := Qn hlt
 refine XN ?_; refine zP (Qf rfl rfl rfl k rfl _ (Qk hx) rfl) ?_; refine zL ?_; refine zP (Qc (Qej b x) rfl rfl rfl) ?_
 refine Qu ?_
 refine zq ?_ ?_ <;> intro h12
 ·
  have hq : (!X2 b x) = true := h12
  refine Qv ?_; refine zP (Qf rfl rfl rfl k rfl _ (Qk hx) rfl) ?_; refine zL ?_
  refine zP (QE rfl rfl rfl rfl (by exact rfl) (by decide) (by decide)) ?_
  refine Xm hN rfl rfl rfl (by simp) rfl rfl rfl (by have := QiV (q := fun x => !X2 b x) (l := a) (k := k); simp [QA] at this ⊢; omega) rfl rfl rfl rfl ?_
  refine Q8 ?_; refine Qb ?_
  exact ⟨⟨k + 1, hlt, trivial⟩, Qa rfl (JI ⟨(cgO (by first | (rw [Wy hx hq]; simp [QA]; done) | rw [Qbc hx hq])), rfl, (Q0 (by dsimp only; omega)), rfl, trivial⟩) ⟨(cgA (by first | (rw [Wy hx hq]; simp [QA, K2]; done) | rw [Qbc hx hq])), rfl, (QT (fun _ => rfl) _), trivial⟩, by dsimp only; omega⟩
 have hq : (!X2 b x) = false := h12
 refine QF ?_; refine Qb ?_
 exact ⟨⟨k + 1, hlt, trivial⟩, Qa rfl (JI ⟨(cgO (by first | (rw [Wy hx hq]; simp [QA]; done) | rw [Qbc hx hq])), rfl, (Q0 (by dsimp only; omega)), rfl, trivial⟩) ⟨(cgA (by first | (rw [Wy hx hq]; simp [QA, K2]; done) | rw [Qbc hx hq])), rfl, (QT (fun _ => rfl) _), trivial⟩, by dsimp only; omega⟩
theorem Qdv (a b : List Nm) (ha : a.length ≤ 1000000) : FC Tryz.prog 135 [X1 a, X1 b] (bl (JT a b)) := by
 refine Qg [4] Tryz.func135 rfl rfl 10 Tryz.ntmps135 (Nat.le_of_ble_eq_true rfl) ?_
 intro E hN
 refine XN ?_; refine zP (Qc (QnJ a b ha) rfl rfl rfl) ?_; refine Qs ?_; refine zQ ?_
 exact Qm (by rw [List.length_map]; exact Qq5)
end Go.Proofs.YtnkkokmmeplbgaaGreat
