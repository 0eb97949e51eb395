/-
  Plain laws: names of any list, sorted, each once.
-/
import Derived.Test.YtaecccdkjmipeaaGreatB11
import Derived.Test.YtaecccdkjmipeaaGreatB10
import Derived.Test.YtaecccdkjmipeaaGreatA8
namespace Go.Proofs.YtaecccdkjmipeaaGreat
set_option maxRecDepth 100000
set_option maxHeartbeats 1000000
open Go.RowKit
def ofN : List Nm → List Nm
 | [] => []
 | x :: r => uni [x] (ofN r)
theorem Kj : ∀ l, Qo (ofN l) = true
 | [] => rfl
 | x :: r => QaV rfl (Kj r)
theorem Kc : ∀ {l : List Nm} {z : Nm}, z ∈ ofN l ↔ z ∈ l
 | [], z => by simp [ofN]
 | x :: r, z => by rw [ofN, Qag rfl (Kj r), Kc]; simp
theorem QtP {l o : List Nm} (h : pw o) (hm : ∀ z, z ∈ o ↔ z ∈ l) : o = ofN l := W8 (Kk h) (Kj l) fun z => by rw [hm, Kc]
def Qba (o : List Nm) (k : Nat) (x : Nm) : List Nm := o.take k ++ x :: o.drop k
theorem XS {o : List Nm} {k : Nat} {x : Nm} : (Qba o k x).length = o.length + 1 := by unfold Qba; simp; omega
theorem QsF {o : List Nm} {x : Nm} : Qba o o.length x = o ++ [x] := by unfold Qba; simp
theorem QgD {o : List Nm} {k : Nat} {x : Nm} (h : k ≤ o.length) : (Qba o k x)[k]? = some x := by
 unfold Qba
 rw [List.getElem?_append_right (by simp; omega)]
 simp [Nat.min_eq_left h]
theorem Qhe {o : List Nm} {k : Nat} {x y : Nm} (hy : o[k]? = some y) : (Qba o (k + 1) x)[k]? = some y := by
 have := (List.getElem?_eq_some_iff.1 hy).1
 unfold Qba
 rw [List.getElem?_append_left (by simp; omega), List.getElem?_take, if_pos (by omega), hy]
theorem Qr8 {o : List Nm} {k : Nat} {x z : Nm} : z ∈ Qba o k x ↔ z = x ∨ z ∈ o := by
 unfold Qba
 rw [List.mem_append, List.mem_cons]
 constructor
 ·rintro (h | h | h)
  ·exact .inr (List.mem_of_mem_take h)
  ·exact .inl h
  exact .inr (List.mem_of_mem_drop h)
 rintro (h | h)
 ·exact .inr (.inl h)
 have := (List.take_append_drop k o).symm ▸ h
 rcases List.mem_append.1 this with h | h
 ·exact .inl h
 exact .inr (.inr h)
theorem Qjx {o : List Nm} {k : Nat} {x y : Nm} (hy : o[k]? = some y) : ((Qba o (k + 1) x).set k x).set (k + 1) y = Qba o k x := by
 have hk := (List.getElem?_eq_some_iff.1 hy).1
 apply List.ext_getElem?
 intro i
 rw [List.getElem?_set, List.getElem?_set, List.length_set, XS]
 have hd : o.drop k = y :: o.drop (k + 1) := by rw [List.drop_eq_getElem_cons hk]; rw [List.getElem?_eq_getElem hk] at hy; cases hy; rfl
 by_cases h1 : k + 1 = i
 ·rw [if_pos h1, if_pos (by omega)]
  unfold Qba
  rw [← h1, List.getElem?_append_right (by simp; omega)]
  simp [Nat.min_eq_left (Nat.le_of_lt hk), hd]
 rw [if_neg h1]
 by_cases h2 : k = i
 ·rw [if_pos h2, if_pos (by omega), ← h2, QgD (by omega)]
 rw [if_neg h2]
 by_cases h3 : i < k
 ·unfold Qba
  rw [List.getElem?_append_left (by simp; omega), List.getElem?_append_left (by simp; omega), List.getElem?_take, List.getElem?_take, if_pos (by omega), if_pos h3]
 unfold Qba
 rw [List.getElem?_append_right (by simp; omega), List.getElem?_append_right (by simp; omega)]
 simp only [List.length_take]
 obtain ⟨e, rfl⟩ : ∃ e, i = k + 2 + e := ⟨i - (k + 2), by omega⟩
 rw [Nat.min_eq_left (by omega), Nat.min_eq_left (by omega), show k + 2 + e - (k + 1) = e + 1 by omega, show k + 2 + e - k = e + 2 by omega, hd]
 simp
theorem Qoq {o : List Nm} {k : Nat} {x : Nm} (h : pw o) (h1 : ∀ z ∈ o.take k, Op.bytesLess z x = true) (h2 : ∀ z ∈ o.drop k, Op.bytesLess x z = true) : pw (Qba o k x) := by
 have h' : pw (o.take k ++ o.drop k) := by rw [List.take_append_drop]; exact h
 obtain ⟨q1, q2, q3⟩ := List.pairwise_append.1 h'
 unfold Qba
 refine List.pairwise_append.2 ⟨q1, List.pairwise_cons.2 ⟨h2, q2⟩, fun z hz w hw => ?_⟩
 rcases List.mem_cons.1 hw with rfl | hw
 ·exact h1 z hz
 exact q3 z hz w hw
theorem Qm1 {o : List Nm} {k : Nat} {x y : Nm} (h : pw o) (hy : o[k]? = some y) (hl : Op.bytesLess y x = true) : ∀ z ∈ o.take (k + 1), Op.bytesLess z x = true := fun z hz => by
 obtain ⟨j, hj⟩ := List.mem_iff_getElem?.1 hz
 have hjk : j < k + 1 := by
  have := (List.getElem?_eq_some_iff.1 hj).1
  simp at this; omega
 rw [List.getElem?_take, if_pos hjk] at hj
 by_cases e : j = k
 ·subst e; rw [hy] at hj; cases hj; exact hl
 obtain ⟨g1, rfl⟩ := List.getElem?_eq_some_iff.1 hj
 obtain ⟨g2, rfl⟩ := List.getElem?_eq_some_iff.1 hy
 exact Qa5 (List.pairwise_iff_getElem.1 h j k g1 g2 (by omega)) hl
theorem Qg4 {o : List Nm} {k : Nat} {x y : Nm} (hy : o[k]? = some y) (h1 : ∀ z ∈ o.drop (k + 1), Op.bytesLess x z = true) (hl : Op.bytesLess x y = true) : ∀ z ∈ o.drop k, Op.bytesLess x z = true := fun z hz => by
 rw [XL hy] at hz
 rcases List.mem_cons.1 hz with rfl | hz
 ·exact hl
 exact h1 z hz
theorem QdC {s : Nm} (h : s.length < 1 ∨ 16 < s.length ∨ Qoc s = false) : XV s = false := by
 unfold XV
 rcases h with h | h | h
 ·have : s = [] := List.eq_nil_of_length_eq_zero (by omega)
  subst this; rfl
 ·rw [decide_eq_false (by omega)]; rfl
 rw [h]; simp
theorem Qtv {s : Nm} (h : ¬ s.length < 1) : ∃ c : UInt8, s[0]? = some c ∧ Qoc s = (decide (97 ≤ (c.toNat : Int)) && decide ((c.toNat : Int) ≤ 122)) := by
 cases s with
 | nil => simp at h
 | cons c r => exact ⟨c, rfl, rfl⟩
theorem QwJ {x y : Nm} (h : (!(Op.bytesLess y x || y == x)) = true) : Op.bytesLess x y = true := by
 simp only [Bool.not_eq_true', Bool.or_eq_false_iff, beq_eq_false_iff_ne] at h
 cases hb : Op.bytesLess x y
 ·exact absurd (Qu2 hb h.1).symm h.2
 rfl
theorem Qw3 {x y : Nm} (h : (!(Op.bytesLess y x || y == x)) = false) (hne : y ≠ x) : Op.bytesLess y x = true := by
 simp only [Bool.not_eq_false', Bool.or_eq_true, beq_iff_eq] at h
 exact h.resolve_right hne
theorem Qd0 (l : List Nm) : ∀ e ∈ l.map WS, e.length = 1 := Qke (f := WS) (fun _ => rfl)
theorem QfC {l : List Nm} {i : Nat} {x : Nm} : (l.map WS).set i [sv x] = (l.set i x).map WS := by rw [List.map_set]; rfl
def QlB (a b : List Nm) : List Nm := a.filter fun x => !Jn b x
theorem Qtm {a b : List Nm} : (((ofN (QlB a b)).length : Int) == 0) = JR a b := by
 rw [Bool.eq_iff_iff, Jf]
 simp only [beq_iff_eq]
 constructor
 ·intro h x hx
  cases hb : Jn b x
  ·have : x ∈ ofN (QlB a b) := Kc.2 (List.mem_filter.2 ⟨hx, by rw [hb]; rfl⟩)
   have h0 : ofN (QlB a b) = [] := List.eq_nil_of_length_eq_zero (by omega)
   rw [h0] at this; cases this
  exact Jb.1 hb
 intro h
 have : ofN (QlB a b) = [] := by
  cases ho : ofN (QlB a b) with
  | nil => rfl
  | cons y r =>
   have hy : y ∈ QlB a b := Kc.1 (by rw [ho]; simp)
   obtain ⟨h1, h2⟩ := List.mem_filter.1 hy
   rw [Jb.2 (h y h1)] at h2; cases h2
 rw [this]; rfl
theorem Qn7 {l o : List Nm} {k j : Nat} {x : Nm} (h : pw (Qba o j x)) (hm : ∀ z, z ∈ o ↔ z ∈ l.take k) (hx : l[k]? = some x) (hol : o.length ≤ k) : pw (Qba o j x) ∧ (∀ z, z ∈ Qba o j x ↔ z ∈ l.take (k + 1)) ∧ (Qba o j x).length ≤ k + 1 :=
 ⟨h, fun z => by rw [Qr8, hm, List.take_add_one, hx]; simp [or_comm], by rw [XS]; omega⟩
theorem Qki {q : Nm → Bool} {l : List Nm} {k : Nat} {x : Nm} (hx : l[k]? = some x) (h : q x = true) : (l.take (k + 1)).filter q = (l.take k).filter q ++ [x] := by
 rw [List.take_add_one, hx, List.filter_append]; simp [h]
theorem QnU {q : Nm → Bool} {l : List Nm} {k : Nat} {x : Nm} (hx : l[k]? = some x) (h : q x = false) : (l.take (k + 1)).filter q = (l.take k).filter q := by
 rw [List.take_add_one, hx, List.filter_append]; simp [h]
theorem Qv8 {q : Nm → Bool} {l : List Nm} {k : Nat} : ((l.take k).filter q).length ≤ k := Nat.le_trans (List.length_filter_le _ _) (by simp; omega)
theorem QgF (l : List Nm) (s : Nm) : FC Tryz.prog 131 [XU l, sv s] (bl (Jn l s)) := by
 refine Qd [4] Tryz.func131 rfl rfl 18 Tryz.ntmps131 (Nat.le_of_ble_eq_true rfl) ?_
 intro E hN
 refine JK 0 rfl (fun hl0 => ?_)
 refine XN ?_
 refine Qi (fun x : {k : Nat // k ≤ (l).length ∧ (l.drop k).any (s == ·) = l.any (s == ·)} => ⟨[(0, XU l), (1, sv s), (5, i64 (x.1 : Nat))], [], 0⟩) (fun x => (l).length - x.1) (⟨0, Nat.zero_le _, by simp⟩) ?_ ?_
 ·
  exact Qa rfl (Xl trivial) trivial
 rintro ⟨k, hk, hg⟩
 dsimp only
 refine XJ ?_
 refine zq ?_ ?_ <;> intro h7
 rotate_left
 ·
  have hge : (l).length ≤ k := by simpa using h7
  refine QJ ?_; refine zQ ?_
  exact Qt (QnZ hg hge).symm
 have hlt : k < (l).length := by simpa using h7
 obtain ⟨x, hx⟩ := Qk hlt
 refine Xz ?_; refine zP (Qh rfl rfl rfl k rfl _ (Qq hx) rfl) ?_; refine QJ ?_
 refine zq ?_ ?_ <;> intro h10
 ·
  have hxs : x = s := by simpa using h10
  refine QC ?_; refine zQ ?_
  exact Qt (Qoa hg hx (by rw [hxs]; simp)).symm
 have hxs : x ≠ s := by simpa using h10
 refine QA ?_; refine Qb ?_
 exact ⟨⟨k + 1, hlt, Qqs hg hx (beq_eq_false_iff_ne.2 fun e => hxs e.symm)⟩, Qa rfl (Jg ⟨(QE (by dsimp only; omega)), rfl, trivial⟩) trivial, by dsimp only; omega⟩
theorem Qhc (l : List Nm) (hl : l.length ≤ 1000000) : FC Tryz.prog 159 [XU l] (XU (ofN l)) := by
 refine Qd [2] Tryz.func159 rfl rfl 62 Tryz.ntmps159 (Nat.le_of_ble_eq_true rfl) ?_
 intro E hN
 refine Je ?_; refine Wm hN rfl rfl rfl rfl rfl rfl ?_; refine XJ ?_
 refine Qi (fun z : {q : Nat × List Nm // q.1 ≤ l.length ∧ pw q.2 ∧ (∀ z, z ∈ q.2 ↔ z ∈ l.take q.1) ∧ q.2.length ≤ q.1} => ⟨[(0, XU l), (3, .own 0 z.1.2.length), (4, i64 (z.1.1 : Nat))], [(0, .arr 9 1 (z.1.2.map WS))], 1⟩) (fun z => l.length - z.1.1) (⟨(0, []), Nat.zero_le _, List.Pairwise.nil, by simp, Nat.le_refl _⟩) ?_ ?_
 ·
  exact Qa rfl (Xl trivial) ⟨rfl, rfl, (QN (fun _ => rfl) _), trivial⟩
 rintro ⟨⟨k, o⟩, hk, ho, hm, hol⟩
 dsimp only at hk ho hm hol ⊢
 refine XJ ?_
 refine zq ?_ ?_ <;> intro h7
 rotate_left
 ·
  have hge : l.length ≤ k := by simpa using h7
  have hof : o = ofN l := QtP ho (fun z => by rw [hm, List.take_of_length_le hge])
  refine Je ?_; refine Qu (QB 2 0 rfl rfl (by simp) (Xa Yv _) (Qay _) rfl) ?_; refine zR ?_
  rw [hof]
 have hlt : k < (l).length := by simpa using h7
 obtain ⟨x, hx⟩ := Qk hlt
 refine JU ?_; refine zP (Qh rfl rfl rfl k rfl _ (Qq hx) rfl) ?_; refine zL ?_
 refine zP (Qg9 (QgF o x) rfl rfl rfl (.cons (.own rfl (by simp) (Xa Yv _) (Qay _)) (.cons (.fz rfl) .nil))) ?_; refine zN ?_
 refine zq ?_ ?_ <;> intro h10
 ·
  have hhas : Jn o x = true := h10
  refine QA ?_; refine Qb ?_
  exact ⟨⟨(k + 1, o), hlt, ho, fun z => by dsimp only; rw [hm, List.take_add_one, hx]; simp only [List.mem_append, Option.toList_some, List.mem_singleton]; exact ⟨.inl, fun h => h.elim id (fun e => e ▸ (hm x).1 (Jb.1 hhas))⟩, by dsimp only; omega⟩, Qa rfl (Xu ⟨(Kq (by first | rfl | exact XS.symm)), rfl, (QE (by dsimp only; omega)), rfl, trivial⟩) ⟨rfl, rfl, (QN (fun _ => rfl) _), trivial⟩, by dsimp only; omega⟩
 have hno : x ∉ o := fun hm2 => by rw [Jb.2 hm2] at h10; cases h10
 refine Je ?_; refine zP (Qh rfl rfl rfl k rfl _ (Qq hx) rfl) ?_; refine zL ?_
 refine zP (Qj rfl rfl rfl rfl (by exact rfl) (by decide) (by decide)) ?_
 refine Xb hN rfl rfl rfl (by simp) rfl rfl rfl (by simp [Xs]; omega) rfl rfl rfl rfl ?_
 refine QA ?_; refine zP ((Yn rfl rfl rfl (by simp))) ?_
 refine zP (WJ rfl rfl rfl (by simp [Xs]; omega)) ?_
 refine QC ?_
 refine Qi (fun z : {j : Nat // j ≤ o.length ∧ ∀ z ∈ o.drop j, Op.bytesLess x z = true} => ⟨[(0, XU l), (3, .own 0 (o.length + 1)), (4, i64 (k : Nat)), (5, i64 (z.1 : Nat))], [(0, .arr 9 1 ((Qba o z.1 x).map WS))], 1⟩) (fun z => z.1) (⟨o.length, Nat.le_refl _, by simp⟩) ?_ ?_
 ·
  exact Qa rfl (Xu ⟨(Kq (by simp [Xs])), rfl, rfl, rfl, (QE (by simp [Xs])), rfl, trivial⟩) ⟨(Yl (by rw [QsF]; simp [Xs, WS])), rfl, (QN (fun _ => rfl) _), trivial⟩
 rintro ⟨j, hj, hab⟩
 dsimp only
 refine QO ?_; refine Qy 13 (by kernel_rfl) (by kernel_rfl) ?_; refine QC ?_
 refine zd 31 ?_ ?_ <;> intro h22
 rotate_left
 ·
  have hj0 : j = 0 := by have := of_decide_eq_false h22; omega
  have hpw := Qn7 (Qoq (k := j) ho (by rw [hj0]; simp) hab) hm hx hol
  refine XN ?_; change Qz _ _ _ _ _ _; refine XJ ?_; refine Qb ?_
  exact ⟨⟨(k + 1, _), hlt, hpw⟩, Qa rfl (Xu ⟨(Kq (by first | rfl | exact XS.symm)), rfl, (QE (by dsimp only; omega)), rfl, trivial⟩) ⟨rfl, rfl, (QN (fun _ => rfl) _), trivial⟩, by dsimp only; omega⟩
 obtain ⟨j, rfl⟩ : ∃ j', j = j' + 1 := ⟨j - 1, by have := of_decide_eq_true h22; omega⟩
 obtain ⟨y, hy⟩ := Qk (show j < o.length by omega)
 refine QO ?_; refine vP (X7 h22) (WJ rfl rfl rfl (by omega)) ?_
 refine vP (X7 h22) (JL rfl rfl rfl rfl (by simp [XS]) j (by omega) (by omega)) ?_
 refine vP (X7 h22) (JG rfl rfl rfl (by simp [XS]) (Qd0 _) j rfl (Qq (Qhe hy)) (fun _ => rfl) rfl) ?_; refine QO ?_
 refine vP (X7 h22) (JL rfl rfl rfl rfl (by simp [XS]) (j + 1) rfl (by omega)) ?_
 refine vP (X7 h22) (JG rfl rfl rfl (by simp [XS]) (Qd0 _) (j + 1) rfl (Qq (QgD hj)) (fun _ => rfl) rfl) ?_; refine KO ?_
 change Qz _ _ _ _ _ _; refine QO ?_
 refine zq ?_ ?_ <;> intro h28
 rotate_left
 ·
  have hpw := Qn7 (Qoq ho (Qm1 ho hy (Qw3 h28 (fun e => hno (e ▸ List.mem_of_getElem? hy)))) hab) hm hx hol
  refine QA ?_; refine Qb ?_
  exact ⟨⟨(k + 1, _), hlt, hpw⟩, Qa rfl (Xu ⟨(Kq (by first | rfl | exact XS.symm)), rfl, (QE (by dsimp only; omega)), rfl, trivial⟩) ⟨rfl, rfl, (QN (fun _ => rfl) _), trivial⟩, by dsimp only; omega⟩
 have hgt := QwJ h28
 refine QC ?_; refine Qqt 18 rfl (by kernel_rfl) (by kernel_rfl) (fun _ _ h => h) ?_
 refine Wa 0 rfl (by kernel_rfl) (by kernel_rfl) rfl (Yf hN rfl rfl rfl rfl rfl rfl) ?_
 refine Wa 1 rfl (by kernel_rfl) (by kernel_rfl) rfl (Yf hN rfl rfl rfl rfl rfl rfl) ?_
 refine Wa 2 rfl (by kernel_rfl) (by kernel_rfl) rfl (Qok hN rfl rfl rfl (by omega) rfl rfl rfl rfl) ?_
 refine Wa 3 rfl (by kernel_rfl) (by kernel_rfl) rfl (Yf hN rfl rfl rfl rfl rfl rfl) ?_
 refine Wa 4 rfl (by kernel_rfl) (by kernel_rfl) rfl (Yf hN rfl rfl rfl rfl rfl rfl) ?_
 refine Wa 5 rfl (by kernel_rfl) (by kernel_rfl) rfl (Yf hN rfl rfl rfl rfl rfl rfl) ?_
 refine Wa 6 rfl (by kernel_rfl) (by kernel_rfl) rfl (Yf hN rfl rfl rfl rfl rfl rfl) ?_
 refine Wa 7 rfl (by kernel_rfl) (by kernel_rfl) rfl (Qkn hN rfl rfl rfl rfl (by simp [XS]) (j + 1) rfl (by omega) rfl rfl rfl rfl) ?_
 refine Wa 9 rfl (by kernel_rfl) (by kernel_rfl) rfl (Yf hN rfl rfl rfl rfl rfl rfl) ?_
 refine Wa 10 rfl (by kernel_rfl) (by kernel_rfl) rfl (Yf hN rfl rfl rfl rfl rfl rfl) ?_
 refine Wa 11 rfl (by kernel_rfl) (by kernel_rfl) rfl (Qok hN rfl rfl rfl (by omega) rfl rfl rfl rfl) ?_
 refine Wa 12 rfl (by kernel_rfl) (by kernel_rfl) rfl (Qkn hN rfl rfl rfl rfl (by simp [XS]) j (by omega) (by omega) rfl rfl rfl rfl) ?_
 refine QaU [8, 13] (by kernel_rfl) rfl ⟨.inl (Qx rfl ?_), .inl (Qx rfl ?_), trivial⟩
 ·
  refine zp (JG rfl rfl rfl (by simp [XS]) (Qd0 _) (j + 1) rfl (Qq (QgD hj)) (fun _ => rfl) rfl) ?_
  change AT _ _ _ _ _ _ _ _
  refine QaU [13] (by kernel_rfl) rfl ⟨.inl (Qx rfl ?_), trivial⟩
  refine zp (JG rfl rfl rfl (by simp [XS]) (Qd0 _) j rfl (Qq (Qhe hy)) (fun _ => rfl) rfl) ?_
  change AT _ _ _ _ _ _ _ _
  refine QaU [14] (by kernel_rfl) rfl ⟨.inl (Qx rfl ?_), trivial⟩
  refine zp (JL rfl rfl rfl rfl (by simp [XS]) j (by omega) (by omega)) ?_
  change AT _ _ _ _ _ _ _ _
  refine QaU [15] (by kernel_rfl) rfl ⟨.inr (KC rfl rfl rfl rfl (by simp [XS]) j rfl (by simp [XS]; omega) rfl rfl rfl rfl (Qd0 _) rfl rfl rfl rfl ?_), trivial⟩
  change AT _ _ _ _ _ _ _ _
  refine QaU [16] (by kernel_rfl) rfl ⟨.inl (Qx rfl ?_), trivial⟩
  refine zp (JL rfl rfl rfl rfl (by simp [XS]) (j + 1) rfl (by omega)) ?_
  change AT _ _ _ _ _ _ _ _
  refine QaU [17] (by kernel_rfl) rfl ⟨.inr (KC rfl rfl rfl rfl (by simp [XS]) (j + 1) rfl (by simp [XS]; omega) rfl rfl rfl rfl (by rw [QfC]; exact Qd0 _) rfl rfl rfl rfl ?_), trivial⟩
  change AT _ _ _ _ _ _ _ _
  refine QoG (by kernel_rfl) ?_; change J5 _ _ _ _  _; refine QO ?_; refine zP (WJ rfl rfl rfl (by omega)) ?_; refine zS ?_
  refine Qb ?_
  exact ⟨⟨j, by omega, Qg4 hy hab hgt⟩, Qa rfl (Xu ⟨(Kq rfl), rfl, rfl, rfl, (QE (by dsimp only; omega)), rfl, trivial⟩) ⟨(Yl (by rw [QfC, QfC, Qjx hy])), rfl, (QN (fun _ => rfl) _), trivial⟩, by dsimp only; omega⟩
 refine zp (JG rfl rfl rfl (by simp [XS]) (Qd0 _) j rfl (Qq (Qhe hy)) (fun _ => rfl) rfl) ?_
 change AT _ _ _ _ _ _ _ _
 refine QaU [8] (by kernel_rfl) rfl ⟨.inl (Qx rfl ?_), trivial⟩
 refine zp (JG rfl rfl rfl (by simp [XS]) (Qd0 _) (j + 1) rfl (Qq (QgD hj)) (fun _ => rfl) rfl) ?_
 change AT _ _ _ _ _ _ _ _
 refine QaU [14] (by kernel_rfl) rfl ⟨.inl (Qx rfl ?_), trivial⟩
 refine zp (JL rfl rfl rfl rfl (by simp [XS]) j (by omega) (by omega)) ?_
 change AT _ _ _ _ _ _ _ _
 refine QaU [15] (by kernel_rfl) rfl ⟨.inr (KC rfl rfl rfl rfl (by simp [XS]) j rfl (by simp [XS]; omega) rfl rfl rfl rfl (Qd0 _) rfl rfl rfl rfl ?_), trivial⟩
 change AT _ _ _ _ _ _ _ _
 refine QaU [16] (by kernel_rfl) rfl ⟨.inl (Qx rfl ?_), trivial⟩
 refine zp (JL rfl rfl rfl rfl (by simp [XS]) (j + 1) rfl (by omega)) ?_
 change AT _ _ _ _ _ _ _ _
 refine QaU [17] (by kernel_rfl) rfl ⟨.inr (KC rfl rfl rfl rfl (by simp [XS]) (j + 1) rfl (by simp [XS]; omega) rfl rfl rfl rfl (by rw [QfC]; exact Qd0 _) rfl rfl rfl rfl ?_), trivial⟩
 change AT _ _ _ _ _ _ _ _
 refine QoG (by kernel_rfl) ?_; change J5 _ _ _ _  _; refine QO ?_; refine zP (WJ rfl rfl rfl (by omega)) ?_; refine zS ?_
 refine Qb ?_
 exact ⟨⟨j, by omega, Qg4 hy hab hgt⟩, Qa rfl (Xu ⟨(Kq rfl), rfl, rfl, rfl, (QE (by dsimp only; omega)), rfl, trivial⟩) ⟨(Yl (by rw [QfC, QfC, Qjx hy])), rfl, (QN (fun _ => rfl) _), trivial⟩, by dsimp only; omega⟩
theorem QpF (a b : List Nm) (ha : a.length ≤ 1000000) : FC Tryz.prog 144 [XU a, XU b] (XU (ofN (QlB a b))) := by
 refine Qd [4] Tryz.func144 rfl rfl 30 Tryz.ntmps144 (Nat.le_of_ble_eq_true rfl) ?_
 intro E hN
 refine Je ?_; refine Wm hN rfl rfl rfl rfl rfl rfl ?_; refine XJ ?_
 refine Qi (fun x : {k : Nat // k ≤ (a).length ∧ True} => ⟨[(0, XU a), (1, XU b), (5, .own 0 ((a.take x.1).filter fun x => !Jn b x).length), (6, i64 (x.1 : Nat))], [(0, .arr 9 1 (((a.take x.1).filter fun x => !Jn b x).map WS))], 1⟩) (fun x => (a).length - x.1) (⟨0, Nat.zero_le _, by simp⟩) ?_ ?_
 ·
  exact Qa rfl (QR trivial) ⟨rfl, rfl, (QN (fun _ => rfl) _), trivial⟩
 rintro ⟨k, hk, hg⟩
 dsimp only
 refine XJ ?_
 refine zq ?_ ?_ <;> intro h9
 rotate_left
 ·
  have hge : a.length ≤ k := by simpa using h9
  rw [List.take_of_length_le hge]
  refine QO ?_; refine Qu (QB 5 0 rfl rfl (by simp) (Xa Yv _) (Qay _) rfl) ?_; refine QO ?_
  refine zP (Qc (Qhc (QlB a b) (Nat.le_trans (List.length_filter_le _ _) ha)) rfl rfl rfl) ?_; refine zS ?_; refine zQ ?_
  rfl
 have hlt : k < (a).length := by simpa using h9
 obtain ⟨x, hx⟩ := Qk hlt
 refine XJ ?_; refine zP (Qh rfl rfl rfl k rfl _ (Qq hx) rfl) ?_; refine zL ?_; refine zP (Qc (QgF b x) rfl rfl rfl) ?_
 refine QO ?_
 refine zq ?_ ?_ <;> intro h12
 ·
  have hq : (!Jn b x) = true := h12
  refine QJ ?_; refine zP (Qh rfl rfl rfl k rfl _ (Qq hx) rfl) ?_; refine zL ?_
  refine zP (Qj rfl rfl rfl rfl (by exact rfl) (by decide) (by decide)) ?_
  refine Xb hN rfl rfl rfl (by simp) rfl rfl rfl (by have := Qv8 (q := fun x => !Jn b x) (l := a) (k := k); simp [Xs] at this ⊢; omega) rfl rfl rfl rfl ?_
  refine Je ?_; refine Qb ?_
  exact ⟨⟨k + 1, hlt, trivial⟩, Qa rfl (Jg ⟨(Kq (by first | (rw [Qki hx hq]; simp [Xs]; done) | rw [QnU hx hq])), rfl, (QE (by dsimp only; omega)), rfl, trivial⟩) ⟨(Yl (by first | (rw [Qki hx hq]; simp [Xs, WS]; done) | rw [QnU hx hq])), rfl, (QN (fun _ => rfl) _), trivial⟩, by dsimp only; omega⟩
 have hq : (!Jn b x) = false := h12
 refine QA ?_; refine Qb ?_
 exact ⟨⟨k + 1, hlt, trivial⟩, Qa rfl (Jg ⟨(Kq (by first | (rw [Qki hx hq]; simp [Xs]; done) | rw [QnU hx hq])), rfl, (QE (by dsimp only; omega)), rfl, trivial⟩) ⟨(Yl (by first | (rw [Qki hx hq]; simp [Xs, WS]; done) | rw [QnU hx hq])), rfl, (QN (fun _ => rfl) _), trivial⟩, by dsimp only; omega⟩
theorem Qnk (a b : List Nm) (ha : a.length ≤ 1000000) : FC Tryz.prog 97 [XU a, XU b] (bl (JR a b)) := by
 refine Qd [4] Tryz.func97 rfl rfl 10 Tryz.ntmps97 (Nat.le_of_ble_eq_true rfl) ?_
 intro E hN
 refine XJ ?_; refine zP (Qc (QpF a b ha) rfl rfl rfl) ?_; refine QC ?_; refine zQ ?_
 exact Qt (by rw [List.length_map]; exact Qtm)
end Go.Proofs.YtaecccdkjmipeaaGreat
