/-
  Plain laws: names of any list, sorted, each once.
  Contracts of the reference: names.
-/
import Derived.Test.YthldgioggjpnpaaGreatB11
import Derived.Test.YthldgioggjpnpaaGreatB10
import Derived.Test.YthldgioggjpnpaaGreatA7
namespace Go.Proofs.YthldgioggjpnpaaGreat
open Go.RowKit

/-- the names of a list, sorted, each once -/
def ofN : List Nm → List Nm
 | [] => []
 | x :: r => uni [x] (ofN r)
theorem ofN_sorted : ∀ l, sortedB (ofN l) = true
 | [] => rfl
 | x :: r => uni_sorted rfl (ofN_sorted r)
theorem ofN_mem : ∀ {l : List Nm} {z : Nm}, z ∈ ofN l ↔ z ∈ l
 | [], z => by simp [ofN]
 | x :: r, z => by rw [ofN, uni_mem rfl (ofN_sorted r), ofN_mem]; simp
theorem ofN_one {l o : List Nm} (h : pw o) (hm : ∀ z, z ∈ o ↔ z ∈ l) : o = ofN l := sorted_ext (sorted_of_pw h) (ofN_sorted l) fun z => by rw [hm, ofN_mem]
/-- x put at place k -/
def insN (o : List Nm) (k : Nat) (x : Nm) : List Nm := o.take k ++ x :: o.drop k
theorem insN_len {o : List Nm} {k : Nat} {x : Nm} : (insN o k x).length = o.length + 1 := by unfold insN; simp; omega
theorem insN_end {o : List Nm} {x : Nm} : insN o o.length x = o ++ [x] := by unfold insN; simp
theorem insN_at {o : List Nm} {k : Nat} {x : Nm} (h : k ≤ o.length) : (insN o k x)[k]? = some x := by
 unfold insN
 rw [List.getElem?_append_right (by simp; omega)]
 simp [Nat.min_eq_left h]
theorem insN_pre {o : List Nm} {k : Nat} {x y : Nm} (hy : o[k]? = some y) : (insN o (k + 1) x)[k]? = some y := by
 have := (List.getElem?_eq_some_iff.1 hy).1
 unfold insN
 rw [List.getElem?_append_left (by simp; omega), List.getElem?_take, if_pos (by omega), hy]
theorem insN_mem {o : List Nm} {k : Nat} {x z : Nm} : z ∈ insN o k x ↔ z = x ∨ z ∈ o := by
 unfold insN
 rw [List.mem_append, List.mem_cons]
 constructor
 ·rintro (h | h | h)
  ·exact .inr (List.mem_of_mem_take h)
  ·exact .inl h
  exact .inr (List.mem_of_mem_drop h)
 rintro (h | h)
 ·exact .inr (.inl h)
 have := (List.take_append_drop k o).symm ▸ h
 rcases List.mem_append.1 this with h | h
 ·exact .inl h
 exact .inr (.inr h)
/-- x and the one before it change places -/
theorem insN_swap {o : List Nm} {k : Nat} {x y : Nm} (hy : o[k]? = some y) : ((insN o (k + 1) x).set k x).set (k + 1) y = insN o k x := by
 have hk := (List.getElem?_eq_some_iff.1 hy).1
 apply List.ext_getElem?
 intro i
 rw [List.getElem?_set, List.getElem?_set, List.length_set, insN_len]
 have hd : o.drop k = y :: o.drop (k + 1) := by rw [List.drop_eq_getElem_cons hk]; rw [List.getElem?_eq_getElem hk] at hy; cases hy; rfl
 by_cases h1 : k + 1 = i
 ·rw [if_pos h1, if_pos (by omega)]
  unfold insN
  rw [← h1, List.getElem?_append_right (by simp; omega)]
  simp [Nat.min_eq_left (Nat.le_of_lt hk), hd]
 rw [if_neg h1]
 by_cases h2 : k = i
 ·rw [if_pos h2, if_pos (by omega), ← h2, insN_at (by omega)]
 rw [if_neg h2]
 by_cases h3 : i < k
 ·unfold insN
  rw [List.getElem?_append_left (by simp; omega), List.getElem?_append_left (by simp; omega), List.getElem?_take, List.getElem?_take, if_pos (by omega), if_pos h3]
 unfold insN
 rw [List.getElem?_append_right (by simp; omega), List.getElem?_append_right (by simp; omega)]
 simp only [List.length_take]
 obtain ⟨e, rfl⟩ : ∃ e, i = k + 2 + e := ⟨i - (k + 2), by omega⟩
 rw [Nat.min_eq_left (by omega), Nat.min_eq_left (by omega), show k + 2 + e - (k + 1) = e + 1 by omega, show k + 2 + e - k = e + 2 by omega, hd]
 simp
theorem insN_pw {o : List Nm} {k : Nat} {x : Nm} (h : pw o) (h1 : ∀ z ∈ o.take k, Op.bytesLess z x = true) (h2 : ∀ z ∈ o.drop k, Op.bytesLess x z = true) : pw (insN o k x) := by
 have h' : pw (o.take k ++ o.drop k) := by rw [List.take_append_drop]; exact h
 obtain ⟨q1, q2, q3⟩ := List.pairwise_append.1 h'
 unfold insN
 refine List.pairwise_append.2 ⟨q1, List.pairwise_cons.2 ⟨h2, q2⟩, fun z hz w hw => ?_⟩
 rcases List.mem_cons.1 hw with rfl | hw
 ·exact h1 z hz
 exact q3 z hz w hw
/-- all before place k lie below x if the last of them does -/
theorem take_below {o : List Nm} {k : Nat} {x y : Nm} (h : pw o) (hy : o[k]? = some y) (hl : Op.bytesLess y x = true) : ∀ z ∈ o.take (k + 1), Op.bytesLess z x = true := fun z hz => by
 obtain ⟨j, hj⟩ := List.mem_iff_getElem?.1 hz
 have hjk : j < k + 1 := by
  have := (List.getElem?_eq_some_iff.1 hj).1
  simp at this; omega
 rw [List.getElem?_take, if_pos hjk] at hj
 by_cases e : j = k
 ·subst e; rw [hy] at hj; cases hj; exact hl
 obtain ⟨g1, rfl⟩ := List.getElem?_eq_some_iff.1 hj
 obtain ⟨g2, rfl⟩ := List.getElem?_eq_some_iff.1 hy
 exact bl_trans (List.pairwise_iff_getElem.1 h j k g1 g2 (by omega)) hl
theorem drop_above {o : List Nm} {k : Nat} {x y : Nm} (hy : o[k]? = some y) (h1 : ∀ z ∈ o.drop (k + 1), Op.bytesLess x z = true) (hl : Op.bytesLess x y = true) : ∀ z ∈ o.drop k, Op.bytesLess x z = true := fun z hz => by
 rw [drop_get hy] at hz
 rcases List.mem_cons.1 hz with rfl | hz
 ·exact hl
 exact h1 z hz
end Go.Proofs.YthldgioggjpnpaaGreat

namespace Go.Proofs.YthldgioggjpnpaaGreat
open Go.RowKit
theorem validB_no {s : Nm} (h : s.length < 1 ∨ 16 < s.length ∨ headB s = false) : validB s = false := by
 unfold validB
 rcases h with h | h | h
 ·have : s = [] := List.eq_nil_of_length_eq_zero (by omega)
  subst this; rfl
 ·rw [decide_eq_false (by omega)]; rfl
 rw [h]; simp
theorem head_of {s : Nm} (h : ¬ s.length < 1) : ∃ c : UInt8, s[0]? = some c ∧ headB s = (decide (97 ≤ (c.toNat : Int)) && decide ((c.toNat : Int) ≤ 122)) := by
 cases s with
 | nil => simp at h
 | cons c r => exact ⟨c, rfl, rfl⟩
theorem gt_of {x y : Nm} (h : (!(Op.bytesLess y x || y == x)) = true) : Op.bytesLess x y = true := by
 simp only [Bool.not_eq_true', Bool.or_eq_false_iff, beq_eq_false_iff_ne] at h
 cases hb : Op.bytesLess x y
 ·exact absurd (bl_eq hb h.1).symm h.2
 rfl
theorem le_of {x y : Nm} (h : (!(Op.bytesLess y x || y == x)) = false) (hne : y ≠ x) : Op.bytesLess y x = true := by
 simp only [Bool.not_eq_false', Bool.or_eq_true, beq_iff_eq] at h
 exact h.resolve_right hne
theorem len1s (l : List Nm) : ∀ e ∈ l.map sv1, e.length = 1 := len_map (f := sv1) (fun _ => rfl)
theorem set_sv {l : List Nm} {i : Nat} {x : Nm} : (l.map sv1).set i [sv x] = (l.set i x).map sv1 := by rw [List.map_set]; rfl
def minN (a b : List Nm) : List Nm := a.filter fun x => !hasB b x
theorem min_sub {a b : List Nm} : (((ofN (minN a b)).length : Int) == 0) = subsetB a b := by
 rw [Bool.eq_iff_iff, subset_iff]
 simp only [beq_iff_eq]
 constructor
 ·intro h x hx
  cases hb : hasB b x
  ·have : x ∈ ofN (minN a b) := ofN_mem.2 (List.mem_filter.2 ⟨hx, by rw [hb]; rfl⟩)
   have h0 : ofN (minN a b) = [] := List.eq_nil_of_length_eq_zero (by omega)
   rw [h0] at this; cases this
  exact has_iff.1 hb
 intro h
 have : ofN (minN a b) = [] := by
  cases ho : ofN (minN a b) with
  | nil => rfl
  | cons y r =>
   have hy : y ∈ minN a b := ofN_mem.1 (by rw [ho]; simp)
   obtain ⟨h1, h2⟩ := List.mem_filter.1 hy
   rw [has_iff.2 (h y h1)] at h2; cases h2
 rw [this]; rfl
theorem ins_all {l o : List Nm} {k j : Nat} {x : Nm} (h : pw (insN o j x)) (hm : ∀ z, z ∈ o ↔ z ∈ l.take k) (hx : l[k]? = some x) (hol : o.length ≤ k) : pw (insN o j x) ∧ (∀ z, z ∈ insN o j x ↔ z ∈ l.take (k + 1)) ∧ (insN o j x).length ≤ k + 1 :=
 ⟨h, fun z => by rw [insN_mem, hm, List.take_add_one, hx]; simp [or_comm], by rw [insN_len]; omega⟩
theorem fl_yes {q : Nm → Bool} {l : List Nm} {k : Nat} {x : Nm} (hx : l[k]? = some x) (h : q x = true) : (l.take (k + 1)).filter q = (l.take k).filter q ++ [x] := by
 rw [List.take_add_one, hx, List.filter_append]; simp [h]
theorem fl_no {q : Nm → Bool} {l : List Nm} {k : Nat} {x : Nm} (hx : l[k]? = some x) (h : q x = false) : (l.take (k + 1)).filter q = (l.take k).filter q := by
 rw [List.take_add_one, hx, List.filter_append]; simp [h]
theorem fl_len {q : Nm → Bool} {l : List Nm} {k : Nat} : ((l.take k).filter q).length ≤ k := Nat.le_trans (List.length_filter_le _ _) (by simp; omega)

set_option maxRecDepth 100000 in
set_option maxHeartbeats 1000000 in
theorem rLetter_fc (c : Int) : FC Tryz.prog 173 [.p (.int .u8 c)] (bl (wordB c)) := by
 refine fc_of_awp [2] Tryz.func173 rfl rfl 21 Tryz.ntmps173 (Nat.le_of_ble_eq_true rfl) ?_
 intro E hN
 refine zG ?_; refine zS ?_; refine zA ?_; refine zM ?_; refine zB ?_; refine zM ?_
 refine zc 5 ?_ ?_ <;> intro h2
 ·
  refine uM (w11 h2) ?_; refine uP (w11 h2) (q_bin rfl rfl rfl) ?_; refine zh1 h2 ?_; refine zM ?_
  refine zc 9 ?_ ?_ <;> intro h3
  ·
   iterate 3 refine uK (w10 h3) ?_
   iterate 2 refine zK ?_
   refine uK (w10 h3) ?_; refine zh1 h3 ?_; refine zM ?_
   iterate 2 refine zK ?_
   refine zh1 rfl ?_; refine zS ?_; refine zQ ?_
   exact retB (by simp [wordB, *])
  refine uM (w00 h3) ?_; refine uP (w00 h3) (q_bin rfl rfl rfl) ?_; refine uM (w00 h3) ?_
  refine zc 12 ?_ ?_ <;> intro h4
  ·
   refine uM (w11 h4) ?_; refine uP (w11 h4) (q_bin rfl rfl rfl) ?_; refine uP (w00 h3) (q_pick1 rfl rfl h4 rfl) ?_; refine zh0 h3 ?_; refine zM ?_
   refine zc 17 ?_ ?_ <;> intro h5
   ·
    iterate 2 refine uK (w10 h5) ?_
    refine zh1 h5 ?_; refine zS ?_; refine zQ ?_
    exact retB (by simp [wordB, *])
   refine uM (w00 h5) ?_; refine uP (w00 h5) (q_bin rfl rfl rfl) ?_; refine zh0 h5 ?_; refine zS ?_; refine zQ ?_
   exact retB (by simp [wordB, *])
  iterate 2 refine uK (w01 h4) ?_
  refine uP (w00 h3) (q_pick0 rfl rfl h4 rfl) ?_; refine zh0 h3 ?_; refine zM ?_; refine zM ?_; refine zB ?_; refine zh0 rfl ?_; refine zS ?_
  refine zQ ?_
  exact retB (by simp [wordB, *])
 iterate 2 refine uK (w01 h2) ?_
 refine zh0 h2 ?_; refine zM ?_; refine zM ?_; refine zB ?_; refine zM ?_
 refine zc 12 ?_ ?_ <;> intro h8
 ·
  refine uM (w11 h8) ?_; refine uP (w11 h8) (q_bin rfl rfl rfl) ?_; refine zh1 h8 ?_; refine zh0 rfl ?_; refine zM ?_
  refine zc 17 ?_ ?_ <;> intro h9
  ·
   iterate 2 refine uK (w10 h9) ?_
   refine zh1 h9 ?_; refine zS ?_; refine zQ ?_
   exact retB (by simp [wordB, *])
  refine uM (w00 h9) ?_; refine uP (w00 h9) (q_bin rfl rfl rfl) ?_; refine zh0 h9 ?_; refine zS ?_; refine zQ ?_
  exact retB (by simp [wordB, *])
 iterate 2 refine uK (w01 h8) ?_
 refine zh0 h8 ?_; refine zh0 rfl ?_; refine zM ?_; refine zM ?_; refine zB ?_; refine zh0 rfl ?_; refine zS ?_; refine zQ ?_
 exact retB (by simp [wordB, *])
set_option maxRecDepth 100000 in
set_option maxHeartbeats 1000000 in
theorem rValid2_fc (s : Nm) : FC Tryz.prog 155 [sv s] (bl (validB s)) := by
 refine fc_of_awp [2] Tryz.func155 rfl rfl 33 Tryz.ntmps155 (Nat.le_of_ble_eq_true rfl) ?_
 intro E hN
 refine zG ?_; refine zT ?_; refine zH ?_; refine zM ?_; refine zE ?_; refine zB ?_; refine zM ?_
 refine zc 7 ?_ ?_ <;> intro h3
 ·
  have hv := validB_no (s := s) (.inl (by have := of_decide_eq_true h3; omega))
  iterate 3 refine uK (w10 h3) ?_
  refine zh1 h3 ?_; refine zM ?_
  iterate 3 refine zK ?_
  refine zh1 rfl ?_; refine zM ?_
  iterate 3 refine zK ?_
  refine zh1 rfl ?_; refine zN ?_; refine c_true rfl rfl ?_; refine zG ?_; refine zS ?_; refine zQ ?_
  exact retB hv.symm
 obtain ⟨c0, hc0, hh⟩ := head_of (s := s) (by have := of_decide_eq_false h3; omega)
 refine uM (w00 h3) ?_; refine uE (w00 h3) ?_; refine uP (w00 h3) (q_bin rfl rfl rfl) ?_; refine zh0 h3 ?_; refine zM ?_
 refine zc 12 ?_ ?_ <;> intro h5
 ·
  have hv := validB_no (s := s) (.inr (.inl (by have := of_decide_eq_true h5; omega)))
  iterate 3 refine uK (w10 h5) ?_
  refine zh1 h5 ?_; refine zM ?_
  iterate 3 refine zK ?_
  refine zh1 rfl ?_; refine zN ?_; refine c_true rfl rfl ?_; refine zG ?_; refine zS ?_; refine zQ ?_
  exact retB hv.symm
 have h16 : s.length ≤ 16 := by have := of_decide_eq_false h5; omega
 refine uM (w00 h5) ?_; refine uP (w00 h5) (q_byte rfl rfl rfl 0 rfl _ hc0) ?_; refine uP (w00 h5) (q_bin rfl rfl rfl) ?_; refine zh0 h5 ?_
 refine zM ?_
 refine zc 17 ?_ ?_ <;> intro h7
 ·
  have hv := validB_no (s := s) (.inr (.inr (by rw [hh]; have := of_decide_eq_true h7; rw [decide_eq_false (by omega)]; rfl)))
  iterate 3 refine uK (w10 h7) ?_
  refine zh1 h7 ?_; refine zN ?_; refine c_true rfl rfl ?_; refine zG ?_; refine zS ?_; refine zQ ?_
  exact retB hv.symm
 have h97 : 97 ≤ (c0.toNat : Int) := by have := of_decide_eq_false h7; omega
 refine uM (w00 h7) ?_; refine uP (w00 h7) (q_byte rfl rfl rfl 0 rfl _ hc0) ?_; refine uP (w00 h7) (q_bin rfl rfl rfl) ?_; refine zh0 h7 ?_
 refine zN ?_
 refine zq ?_ ?_ <;> intro h9
 ·
  have hv := validB_no (s := s) (.inr (.inr (by rw [hh]; have := of_decide_eq_true h9; rw [decide_eq_false (show ¬ (c0.toNat : Int) ≤ 122 by omega), Bool.and_false])))
  refine zG ?_; refine zS ?_; refine zQ ?_
  exact retB hv.symm
 have hv : validB s = s.all (fun c => wordB c.toNat) := by
  have := of_decide_eq_false h9
  rw [validB, hh, decide_eq_true h16, decide_eq_true h97, decide_eq_true (by omega)]; rfl
 refine zW ?_; refine zH ?_; refine zT ?_; refine awp_block ?_
 refine awp_loop (fun x : {k : Nat // k ≤ (s).length ∧ (s.drop k).all (fun c => wordB c.toNat) = s.all (fun c => wordB c.toNat)} => ⟨[(0, sv s), (3, i64 (x.1 : Nat))], [], 0⟩) (fun x => (s).length - x.1) (⟨0, Nat.zero_le _, by simp⟩) ?_ ?_
 ·
  exact weak_scrub' rfl (zz2 trivial) trivial
 rintro ⟨k, hk, hg⟩
 dsimp only
 refine zH ?_; refine zM ?_; refine zM ?_; refine zE ?_; refine zB ?_; refine zN ?_
 refine zq ?_ ?_ <;> intro h13
 ·
  have hlt : k < (s).length := by simpa using h13
  obtain ⟨x, hx⟩ := get_lt hlt
  refine zW ?_; refine awp_seq ?_; refine awp_block ?_; refine zG ?_; refine zM ?_; refine zM ?_; refine zP (q_byte rfl rfl rfl k rfl _ hx) ?_
  refine zP (q_call (rLetter_fc _) rfl rfl rfl) ?_; refine zP (q_not rfl rfl) ?_; refine zN ?_
  refine zq ?_ ?_ <;> intro h15
  ·
   refine zG ?_; refine zS ?_; refine zQ ?_
   exact retB (by rw [hv, all_no hg hx (by first | (simp_all; done) | (simp_all [wordB]; done) | (simp_all [wordB]; omega))])
  refine awp_skip ?_; change AWP _ _ _ _  _; refine awp_region ?_; refine zM ?_; refine zP (q_addi rfl rfl rfl (by omega)) ?_; refine zS ?_
  refine aops_nil ?_
  exact ⟨⟨k + 1, hlt, all_go hg hx (by first | (simp_all; done) | (simp_all [wordB]; done) | (simp_all [wordB]; omega))⟩, weak_scrub' rfl (zz1 ⟨(cgI (by dsimp only; omega)), rfl, trivial⟩) trivial, by dsimp only; omega⟩
 have hge : (s).length ≤ k := by simpa using h13
 refine awp_exit ?_; change AWP _ _ _ _  _; refine zG ?_; refine zS ?_; refine zQ ?_
 exact retB (by rw [hv, all_end hg hge])
set_option maxRecDepth 100000 in
set_option maxHeartbeats 1000000 in
theorem rSorted_fc (l : List Nm) : FC Tryz.prog 157 [svs l] (bl (sortedB l)) := by
 refine fc_of_awp [2] Tryz.func157 rfl rfl 20 Tryz.ntmps157 (Nat.le_of_ble_eq_true rfl) ?_
 intro E hN
 refine a_lm 0 rfl (fun hl0 => ?_)
 refine zG ?_; refine zT ?_; refine zH ?_; refine zT ?_; refine awp_block ?_
 refine awp_loop (fun x : {k : Nat // 1 ≤ k ∧ sortedB (l.drop (k - 1)) = sortedB l} => ⟨[(0, svs l), (3, i64 (x.1 : Nat))], [], 0⟩) (fun x => l.length - x.1) (⟨1, Nat.le_refl _, rfl⟩) ?_ ?_
 ·
  exact weak_scrub' rfl (zz2 trivial) trivial
 rintro ⟨k, hk, hg⟩
 dsimp only
 refine zH ?_; refine zM ?_; refine zM ?_; refine zE ?_; refine zB ?_; refine zN ?_
 refine zq ?_ ?_ <;> intro h5
 ·
  have hlt : k < l.length := by simpa using h5
  obtain ⟨x, hx⟩ := get_lt hlt
  obtain ⟨y, hy⟩ := get_lt (show k - 1 < l.length by omega)
  have hs := sorted_go hk hg hy hx
  refine zW ?_; refine awp_seq ?_; refine awp_block ?_; refine awp_seq ?_; refine awp_draw 9 (by kernel_rfl) (by kernel_rfl) ?_; refine zm ?_
  refine zm ?_; refine zp (q_subi rfl rfl rfl (by omega)) ?_; refine zp (q_elem rfl rfl rfl (k - 1) (by omega) _ (map_get hy) rfl) ?_; refine zl ?_
  refine zm ?_; refine zm ?_; refine zp (q_elem rfl rfl rfl k rfl _ (map_get hx) rfl) ?_; refine zl ?_; change AOps _ _ _ _ _ _; refine zB ?_
  refine zN ?_
  refine zq ?_ ?_ <;> intro h11
  ·
   refine zG ?_; refine zS ?_; refine zQ ?_
   exact retB (by rw [hs]; simp_all)
  have hn : sortedB (l.drop (k + 1 - 1)) = sortedB l := by
   rw [hs, Nat.add_sub_cancel]; simp_all
  refine awp_skip ?_; change AWP _ _ _ _  _; refine awp_region ?_; refine zM ?_; refine zP (q_addi rfl rfl rfl (by omega)) ?_; refine zS ?_
  refine aops_nil ?_
  exact ⟨⟨k + 1, by omega, hn⟩, weak_scrub' rfl (zz1 ⟨(cgI (by dsimp only; omega)), rfl, trivial⟩) trivial, by dsimp only; omega⟩
 have hge : l.length ≤ k := by simpa using h5
 refine awp_exit ?_; change AWP _ _ _ _  _; refine zG ?_; refine zS ?_; refine zQ ?_
 exact retB (sorted_end hg hge).symm
set_option maxRecDepth 100000 in
set_option maxHeartbeats 1000000 in
theorem rHas_fc (l : List Nm) (s : Nm) : FC Tryz.prog 156 [svs l, sv s] (bl (hasB l s)) := by
 refine fc_of_awp [4] Tryz.func156 rfl rfl 18 Tryz.ntmps156 (Nat.le_of_ble_eq_true rfl) ?_
 intro E hN
 refine a_lm 0 rfl (fun hl0 => ?_)
 refine zG ?_; refine zT ?_; refine zH ?_; refine zT ?_; refine awp_block ?_
 refine awp_loop (fun x : {k : Nat // k ≤ (l).length ∧ (l.drop k).any (s == ·) = l.any (s == ·)} => ⟨[(0, svs l), (1, sv s), (5, i64 (x.1 : Nat))], [], 0⟩) (fun x => (l).length - x.1) (⟨0, Nat.zero_le _, by simp⟩) ?_ ?_
 ·
  exact weak_scrub' rfl (zz3 trivial) trivial
 rintro ⟨k, hk, hg⟩
 dsimp only
 refine zH ?_; refine zM ?_; refine zM ?_; refine zE ?_; refine zB ?_; refine zN ?_
 refine zq ?_ ?_ <;> intro h7
 ·
  have hlt : k < (l).length := by simpa using h7
  obtain ⟨x, hx⟩ := get_lt hlt
  refine zW ?_; refine awp_seq ?_; refine awp_block ?_; refine zG ?_; refine zM ?_; refine zM ?_
  refine zP (q_elem rfl rfl rfl k rfl _ (map_get hx) rfl) ?_; refine zL ?_; refine zM ?_; refine zB ?_; refine zN ?_
  refine zq ?_ ?_ <;> intro h10
  ·
   have hxs : x = s := by simpa using h10
   refine zG ?_; refine zS ?_; refine zQ ?_
   exact retB (any_yes hg hx (by rw [hxs]; simp)).symm
  have hxs : x ≠ s := by simpa using h10
  refine awp_skip ?_; change AWP _ _ _ _  _; refine awp_region ?_; refine zM ?_; refine zP (q_addi rfl rfl rfl (by omega)) ?_; refine zS ?_
  refine aops_nil ?_
  exact ⟨⟨k + 1, hlt, any_go hg hx (beq_eq_false_iff_ne.2 fun e => hxs e.symm)⟩, weak_scrub' rfl (zz2 ⟨(cgI (by dsimp only; omega)), rfl, trivial⟩) trivial, by dsimp only; omega⟩
 have hge : (l).length ≤ k := by simpa using h7
 refine awp_exit ?_; change AWP _ _ _ _  _; refine zG ?_; refine zS ?_; refine zQ ?_
 exact retB (any_end hg hge).symm
set_option maxRecDepth 100000 in
set_option maxHeartbeats 1000000 in
theorem rOf_fc (l : List Nm) (hl : l.length ≤ 1000000) : FC Tryz.prog 190 [svs l] (svs (ofN l)) := by
 refine fc_of_awp [2] Tryz.func190 rfl rfl 62 Tryz.ntmps190 (Nat.le_of_ble_eq_true rfl) ?_
 intro E hN
 refine zG ?_; refine zS ?_; refine zA ?_; refine s_bslice0 hN rfl rfl rfl rfl rfl rfl ?_; refine zT ?_; refine zH ?_; refine zT ?_
 refine awp_block ?_
 refine awp_loop (fun z : {q : Nat × List Nm // q.1 ≤ l.length ∧ pw q.2 ∧ (∀ z, z ∈ q.2 ↔ z ∈ l.take q.1) ∧ q.2.length ≤ q.1} => ⟨[(0, svs l), (3, .own 0 z.1.2.length), (4, i64 (z.1.1 : Nat))], [(0, .arr 9 1 (z.1.2.map sv1))], 1⟩) (fun z => l.length - z.1.1) (⟨(0, []), Nat.zero_le _, List.Pairwise.nil, by simp, Nat.le_refl _⟩) ?_ ?_
 ·
  exact weak_scrub' rfl (zz3 trivial) ⟨rfl, rfl, (ok_arr (fun _ => rfl) _), trivial⟩
 rintro ⟨⟨k, o⟩, hk, ho, hm, hol⟩
 dsimp only at hk ho hm hol ⊢
 refine zH ?_; refine zM ?_; refine zM ?_; refine zE ?_; refine zB ?_; refine zN ?_
 refine zq ?_ ?_ <;> intro h7
 ·
  have hlt : k < (l).length := by simpa using h7
  obtain ⟨x, hx⟩ := get_lt hlt
  refine zW ?_; refine awp_seq ?_; refine awp_block ?_; refine zH ?_; refine zM ?_; refine zM ?_; refine zM ?_
  refine zP (q_elem rfl rfl rfl k rfl _ (map_get hx) rfl) ?_; refine zL ?_
  refine zP (q_lend (rHas_fc o x) rfl rfl rfl (.cons (.own rfl (by simp) (all_okE okE_nm _) (fzs_nms _)) (.cons (.fz rfl) .nil))) ?_; refine zN ?_
  refine zq ?_ ?_ <;> intro h10
  ·
   have hhas : hasB o x = true := h10
   refine awp_exit ?_; change AWP _ _ _ _  _; refine awp_region ?_; refine zM ?_; refine zP (q_addi rfl rfl rfl (by omega)) ?_; refine zS ?_
   refine aops_nil ?_
   exact ⟨⟨(k + 1, o), hlt, ho, fun z => by dsimp only; rw [hm, List.take_add_one, hx]; simp only [List.mem_append, Option.toList_some, List.mem_singleton]; exact ⟨.inl, fun h => h.elim id (fun e => e ▸ (hm x).1 (has_iff.1 hhas))⟩, by dsimp only; omega⟩, weak_scrub' rfl (zz1 ⟨(cgO (by first | rfl | exact insN_len.symm)), rfl, (cgI (by dsimp only; omega)), rfl, trivial⟩) ⟨rfl, rfl, (ok_arr (fun _ => rfl) _), trivial⟩, by dsimp only; omega⟩
  have hno : x ∉ o := fun hm2 => by rw [has_iff.2 hm2] at h10; cases h10
  refine zW ?_; refine zG ?_; refine zM ?_; refine zM ?_; refine zM ?_; refine zP (q_elem rfl rfl rfl k rfl _ (map_get hx) rfl) ?_; refine zL ?_
  refine zP (q_bslice rfl rfl rfl rfl (by exact rfl) (by decide) (by decide)) ?_
  refine s_append_own hN rfl rfl rfl (by simp) rfl rfl rfl (by simp [chunk_1]; omega) rfl rfl rfl rfl ?_
  refine zS ?_; refine zA ?_; refine zM ?_; refine zP ((q_len_own rfl rfl rfl (by simp))) ?_
  refine zP (q_subi rfl rfl rfl (by simp [chunk_1]; omega)) ?_
  refine zT ?_; refine awp_block ?_
  refine awp_loop (fun z : {j : Nat // j ≤ o.length ∧ ∀ z ∈ o.drop j, Op.bytesLess x z = true} => ⟨[(0, svs l), (3, .own 0 (o.length + 1)), (4, i64 (k : Nat)), (5, i64 (z.1 : Nat))], [(0, .arr 9 1 ((insN o z.1 x).map sv1))], 1⟩) (fun z => z.1) (⟨o.length, Nat.le_refl _, by simp⟩) ?_ ?_
  ·
   exact weak_scrub' rfl (zz1 ⟨(cgO (by simp [chunk_1])), rfl, rfl, rfl, (cgI (by simp [chunk_1])), rfl, trivial⟩) ⟨(cgA (by rw [insN_end]; simp [chunk_1, sv1])), rfl, (ok_arr (fun _ => rfl) _), trivial⟩
  rintro ⟨j, hj, hab⟩
  dsimp only
  refine awp_seq ?_; refine awp_seq ?_; refine awp_draw 13 (by kernel_rfl) (by kernel_rfl) ?_; refine zm ?_; refine zp (q_bin rfl rfl rfl) ?_
  refine zm ?_
  refine zd 31 ?_ ?_ <;> intro h22
  ·
   obtain ⟨j, rfl⟩ : ∃ j', j = j' + 1 := ⟨j - 1, by have := of_decide_eq_true h22; omega⟩
   obtain ⟨y, hy⟩ := get_lt (show j < o.length by omega)
   refine vP (w11 h22) (q_move rfl rfl) ?_; refine vP (w11 h22) (q_move rfl rfl) ?_; refine vP (w11 h22) (q_subi rfl rfl rfl (by omega)) ?_
   refine vP (w11 h22) (q_eown rfl rfl rfl rfl (by simp [insN_len]) j (by omega) (by omega)) ?_
   refine vP (w11 h22) (q_loadO rfl rfl rfl (by simp [insN_len]) (len1s _) j rfl (map_get (insN_pre hy)) (fun _ => rfl) rfl) ?_
   refine vP (w11 h22) (q_move rfl rfl) ?_; refine vP (w11 h22) (q_move rfl rfl) ?_
   refine vP (w11 h22) (q_eown rfl rfl rfl rfl (by simp [insN_len]) (j + 1) rfl (by omega)) ?_
   refine vP (w11 h22) (q_loadO rfl rfl rfl (by simp [insN_len]) (len1s _) (j + 1) rfl (map_get (insN_at hj)) (fun _ => rfl) rfl) ?_
   refine vP (w11 h22) (q_bin rfl rfl rfl) ?_; change AOps _ _ _ _ _ _; refine zh1 h22 ?_; refine zN ?_
   refine zq ?_ ?_ <;> intro h28
   ·
    have hgt := gt_of h28
    refine zW ?_; refine awp_seq ?_; refine awp_block ?_; refine awp_take 18 rfl (by kernel_rfl) (by kernel_rfl) (fun _ _ h => h) ?_
    refine at_take 0 rfl (by kernel_rfl) (by kernel_rfl) rfl (wi_move hN rfl rfl rfl rfl rfl rfl) ?_
    refine at_take 1 rfl (by kernel_rfl) (by kernel_rfl) rfl (wi_move hN rfl rfl rfl rfl rfl rfl) ?_
    refine at_take 2 rfl (by kernel_rfl) (by kernel_rfl) rfl (wi_subi hN rfl rfl rfl (by omega) rfl rfl rfl rfl) ?_
    refine at_take 3 rfl (by kernel_rfl) (by kernel_rfl) rfl (wi_move hN rfl rfl rfl rfl rfl rfl) ?_
    refine at_take 4 rfl (by kernel_rfl) (by kernel_rfl) rfl (wi_move hN rfl rfl rfl rfl rfl rfl) ?_
    refine at_take 5 rfl (by kernel_rfl) (by kernel_rfl) rfl (wi_move hN rfl rfl rfl rfl rfl rfl) ?_
    refine at_take 6 rfl (by kernel_rfl) (by kernel_rfl) rfl (wi_move hN rfl rfl rfl rfl rfl rfl) ?_
    refine at_take 7 rfl (by kernel_rfl) (by kernel_rfl) rfl (wi_eown hN rfl rfl rfl rfl (by simp [insN_len]) (j + 1) rfl (by omega) rfl rfl rfl rfl) ?_
    refine at_take 9 rfl (by kernel_rfl) (by kernel_rfl) rfl (wi_move hN rfl rfl rfl rfl rfl rfl) ?_
    refine at_take 10 rfl (by kernel_rfl) (by kernel_rfl) rfl (wi_move hN rfl rfl rfl rfl rfl rfl) ?_
    refine at_take 11 rfl (by kernel_rfl) (by kernel_rfl) rfl (wi_subi hN rfl rfl rfl (by omega) rfl rfl rfl rfl) ?_
    refine at_take 12 rfl (by kernel_rfl) (by kernel_rfl) rfl (wi_eown hN rfl rfl rfl rfl (by simp [insN_len]) j (by omega) (by omega) rfl rfl rfl rfl) ?_
    refine at_all [8, 13] (by kernel_rfl) rfl ⟨.inl (ao_py rfl ?_), .inl (ao_py rfl ?_), trivial⟩
    ·
     refine zp (q_loadO rfl rfl rfl (by simp [insN_len]) (len1s _) (j + 1) rfl (map_get (insN_at hj)) (fun _ => rfl) rfl) ?_
     change AT _ _ _ _ _ _ _ _
     refine at_all [13] (by kernel_rfl) rfl ⟨.inl (ao_py rfl ?_), trivial⟩
     refine zp (q_loadO rfl rfl rfl (by simp [insN_len]) (len1s _) j rfl (map_get (insN_pre hy)) (fun _ => rfl) rfl) ?_
     change AT _ _ _ _ _ _ _ _
     refine at_all [14] (by kernel_rfl) rfl ⟨.inl (ao_py rfl ?_), trivial⟩
     refine zp (q_eown rfl rfl rfl rfl (by simp [insN_len]) j (by omega) (by omega)) ?_
     change AT _ _ _ _ _ _ _ _
     refine at_all [15] (by kernel_rfl) rfl ⟨.inr (ao_storeO rfl rfl rfl rfl (by simp [insN_len]) j rfl (by simp [insN_len]; omega) rfl rfl rfl rfl (len1s _) rfl rfl rfl rfl ?_), trivial⟩
     change AT _ _ _ _ _ _ _ _
     refine at_all [16] (by kernel_rfl) rfl ⟨.inl (ao_py rfl ?_), trivial⟩
     refine zp (q_eown rfl rfl rfl rfl (by simp [insN_len]) (j + 1) rfl (by omega)) ?_
     change AT _ _ _ _ _ _ _ _
     refine at_all [17] (by kernel_rfl) rfl ⟨.inr (ao_storeO rfl rfl rfl rfl (by simp [insN_len]) (j + 1) rfl (by simp [insN_len]; omega) rfl rfl rfl rfl (by rw [set_sv]; exact len1s _) rfl rfl rfl rfl ?_), trivial⟩
     change AT _ _ _ _ _ _ _ _
     refine at_done (by kernel_rfl) ?_; change AWP _ _ _ _  _; refine awp_region ?_; refine zM ?_; refine zP (q_subi rfl rfl rfl (by omega)) ?_
     refine zS ?_; refine aops_nil ?_
     exact ⟨⟨j, by omega, drop_above hy hab hgt⟩, weak_scrub' rfl (zz1 ⟨(cgO rfl), rfl, rfl, rfl, (cgI (by dsimp only; omega)), rfl, trivial⟩) ⟨(cgA (by rw [set_sv, set_sv, insN_swap hy])), rfl, (ok_arr (fun _ => rfl) _), trivial⟩, by dsimp only; omega⟩
    refine zp (q_loadO rfl rfl rfl (by simp [insN_len]) (len1s _) j rfl (map_get (insN_pre hy)) (fun _ => rfl) rfl) ?_
    change AT _ _ _ _ _ _ _ _
    refine at_all [8] (by kernel_rfl) rfl ⟨.inl (ao_py rfl ?_), trivial⟩
    refine zp (q_loadO rfl rfl rfl (by simp [insN_len]) (len1s _) (j + 1) rfl (map_get (insN_at hj)) (fun _ => rfl) rfl) ?_
    change AT _ _ _ _ _ _ _ _
    refine at_all [14] (by kernel_rfl) rfl ⟨.inl (ao_py rfl ?_), trivial⟩
    refine zp (q_eown rfl rfl rfl rfl (by simp [insN_len]) j (by omega) (by omega)) ?_
    change AT _ _ _ _ _ _ _ _
    refine at_all [15] (by kernel_rfl) rfl ⟨.inr (ao_storeO rfl rfl rfl rfl (by simp [insN_len]) j rfl (by simp [insN_len]; omega) rfl rfl rfl rfl (len1s _) rfl rfl rfl rfl ?_), trivial⟩
    change AT _ _ _ _ _ _ _ _
    refine at_all [16] (by kernel_rfl) rfl ⟨.inl (ao_py rfl ?_), trivial⟩
    refine zp (q_eown rfl rfl rfl rfl (by simp [insN_len]) (j + 1) rfl (by omega)) ?_
    change AT _ _ _ _ _ _ _ _
    refine at_all [17] (by kernel_rfl) rfl ⟨.inr (ao_storeO rfl rfl rfl rfl (by simp [insN_len]) (j + 1) rfl (by simp [insN_len]; omega) rfl rfl rfl rfl (by rw [set_sv]; exact len1s _) rfl rfl rfl rfl ?_), trivial⟩
    change AT _ _ _ _ _ _ _ _
    refine at_done (by kernel_rfl) ?_; change AWP _ _ _ _  _; refine awp_region ?_; refine zM ?_; refine zP (q_subi rfl rfl rfl (by omega)) ?_
    refine zS ?_; refine aops_nil ?_
    exact ⟨⟨j, by omega, drop_above hy hab hgt⟩, weak_scrub' rfl (zz1 ⟨(cgO rfl), rfl, rfl, rfl, (cgI (by dsimp only; omega)), rfl, trivial⟩) ⟨(cgA (by rw [set_sv, set_sv, insN_swap hy])), rfl, (ok_arr (fun _ => rfl) _), trivial⟩, by dsimp only; omega⟩
   have hpw := ins_all (insN_pw ho (take_below ho hy (le_of h28 (fun e => hno (e ▸ List.mem_of_getElem? hy)))) hab) hm hx hol
   refine awp_exit ?_; change AWP _ _ _ _  _; refine awp_region ?_; refine zM ?_; refine zP (q_addi rfl rfl rfl (by omega)) ?_; refine zS ?_
   refine aops_nil ?_
   exact ⟨⟨(k + 1, _), hlt, hpw⟩, weak_scrub' rfl (zz1 ⟨(cgO (by first | rfl | exact insN_len.symm)), rfl, (cgI (by dsimp only; omega)), rfl, trivial⟩) ⟨rfl, rfl, (ok_arr (fun _ => rfl) _), trivial⟩, by dsimp only; omega⟩
  have hj0 : j = 0 := by have := of_decide_eq_false h22; omega
  have hpw := ins_all (insN_pw (k := j) ho (by rw [hj0]; simp) hab) hm hx hol
  iterate 10 refine vK (w01 h22) ?_
  change AOps _ _ _ _ _ _; refine zh0 h22 ?_; refine zN ?_; refine c_false rfl rfl ?_; refine awp_exit ?_; change AWP _ _ _ _  _; refine awp_region ?_
  refine zM ?_; refine zP (q_addi rfl rfl rfl (by omega)) ?_; refine zS ?_; refine aops_nil ?_
  exact ⟨⟨(k + 1, _), hlt, hpw⟩, weak_scrub' rfl (zz1 ⟨(cgO (by first | rfl | exact insN_len.symm)), rfl, (cgI (by dsimp only; omega)), rfl, trivial⟩) ⟨rfl, rfl, (ok_arr (fun _ => rfl) _), trivial⟩, by dsimp only; omega⟩
 have hge : l.length ≤ k := by simpa using h7
 have hof : o = ofN l := ofN_one ho (fun z => by rw [hm, List.take_of_length_le hge])
 refine awp_exit ?_; change AWP _ _ _ _  _; refine zG ?_; refine zM ?_; refine zT ?_
 refine awp_weak (weak_frow 2 0 rfl rfl (by simp) (all_okE okE_nm _) (fzs_nms _) rfl) ?_; refine zR ?_
 rw [hof]
set_option maxRecDepth 100000 in
set_option maxHeartbeats 1000000 in
theorem rMinus_fc (a b : List Nm) (ha : a.length ≤ 1000000) : FC Tryz.prog 174 [svs a, svs b] (svs (ofN (minN a b))) := by
 refine fc_of_awp [4] Tryz.func174 rfl rfl 30 Tryz.ntmps174 (Nat.le_of_ble_eq_true rfl) ?_
 intro E hN
 refine zG ?_; refine zS ?_; refine zA ?_; refine s_bslice0 hN rfl rfl rfl rfl rfl rfl ?_; refine zT ?_; refine zH ?_; refine zT ?_
 refine awp_block ?_
 refine awp_loop (fun x : {k : Nat // k ≤ (a).length ∧ True} => ⟨[(0, svs a), (1, svs b), (5, .own 0 ((a.take x.1).filter fun x => !hasB b x).length), (6, i64 (x.1 : Nat))], [(0, .arr 9 1 (((a.take x.1).filter fun x => !hasB b x).map sv1))], 1⟩) (fun x => (a).length - x.1) (⟨0, Nat.zero_le _, by simp⟩) ?_ ?_
 ·
  exact weak_scrub' rfl (zz4 trivial) ⟨rfl, rfl, (ok_arr (fun _ => rfl) _), trivial⟩
 rintro ⟨k, hk, hg⟩
 dsimp only
 refine zH ?_; refine zM ?_; refine zM ?_; refine zE ?_; refine zB ?_; refine zN ?_
 refine zq ?_ ?_ <;> intro h9
 ·
  have hlt : k < (a).length := by simpa using h9
  obtain ⟨x, hx⟩ := get_lt hlt
  refine zW ?_; refine awp_seq ?_; refine awp_block ?_; refine zG ?_; refine zM ?_; refine zM ?_; refine zM ?_
  refine zP (q_elem rfl rfl rfl k rfl _ (map_get hx) rfl) ?_; refine zL ?_; refine zP (q_call (rHas_fc b x) rfl rfl rfl) ?_
  refine zP (q_not rfl rfl) ?_; refine zN ?_
  refine zq ?_ ?_ <;> intro h12
  ·
   have hq : (!hasB b x) = true := h12
   refine awp_region ?_; refine zM ?_; refine zM ?_; refine zM ?_; refine zP (q_elem rfl rfl rfl k rfl _ (map_get hx) rfl) ?_; refine zL ?_
   refine zP (q_bslice rfl rfl rfl rfl (by exact rfl) (by decide) (by decide)) ?_
   refine s_append_own hN rfl rfl rfl (by simp) rfl rfl rfl (by have := fl_len (q := fun x => !hasB b x) (l := a) (k := k); simp [chunk_1] at this ⊢; omega) rfl rfl rfl rfl ?_
   refine zS ?_; refine aops_nil ?_; change AWP _ _ _ _  _; refine awp_region ?_; refine zM ?_; refine zP (q_addi rfl rfl rfl (by omega)) ?_
   refine zS ?_; refine aops_nil ?_
   exact ⟨⟨k + 1, hlt, trivial⟩, weak_scrub' rfl (zz2 ⟨(cgO (by first | (rw [fl_yes hx hq]; simp [chunk_1]; done) | rw [fl_no hx hq])), rfl, (cgI (by dsimp only; omega)), rfl, trivial⟩) ⟨(cgA (by first | (rw [fl_yes hx hq]; simp [chunk_1, sv1]; done) | rw [fl_no hx hq])), rfl, (ok_arr (fun _ => rfl) _), trivial⟩, by dsimp only; omega⟩
  have hq : (!hasB b x) = false := h12
  refine awp_skip ?_; change AWP _ _ _ _  _; refine awp_region ?_; refine zM ?_; refine zP (q_addi rfl rfl rfl (by omega)) ?_; refine zS ?_
  refine aops_nil ?_
  exact ⟨⟨k + 1, hlt, trivial⟩, weak_scrub' rfl (zz2 ⟨(cgO (by first | (rw [fl_yes hx hq]; simp [chunk_1]; done) | rw [fl_no hx hq])), rfl, (cgI (by dsimp only; omega)), rfl, trivial⟩) ⟨(cgA (by first | (rw [fl_yes hx hq]; simp [chunk_1, sv1]; done) | rw [fl_no hx hq])), rfl, (ok_arr (fun _ => rfl) _), trivial⟩, by dsimp only; omega⟩
 have hge : a.length ≤ k := by simpa using h9
 rw [List.take_of_length_le hge]
 refine awp_exit ?_; change AWP _ _ _ _  _; refine awp_seq ?_; refine awp_weak (weak_frow 5 0 rfl rfl (by simp) (all_okE okE_nm _) (fzs_nms _) rfl) ?_
 refine awp_region ?_; refine zM ?_; refine zP (q_call (rOf_fc (minN a b) (Nat.le_trans (List.length_filter_le _ _) ha)) rfl rfl rfl) ?_; refine zS ?_
 refine zQ ?_
 rfl
set_option maxRecDepth 100000 in
set_option maxHeartbeats 1000000 in
theorem rSubset_fc (a b : List Nm) (ha : a.length ≤ 1000000) : FC Tryz.prog 158 [svs a, svs b] (bl (subsetB a b)) := by
 refine fc_of_awp [4] Tryz.func158 rfl rfl 10 Tryz.ntmps158 (Nat.le_of_ble_eq_true rfl) ?_
 intro E hN
 refine zG ?_; refine zS ?_; refine zA ?_; refine zM ?_; refine zM ?_; refine zP (q_call (rMinus_fc a b ha) rfl rfl rfl) ?_; refine zE ?_; refine zB ?_
 refine zS ?_; refine zQ ?_
 exact retB (by rw [List.length_map]; exact min_sub)
end Go.Proofs.YthldgioggjpnpaaGreat
