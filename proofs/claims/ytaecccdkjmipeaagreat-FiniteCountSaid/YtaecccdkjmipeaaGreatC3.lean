/-
  Contracts of the reference: descriptions are checked.
-/
import Derived.Test.YtaecccdkjmipeaaGreatC2
import Derived.Test.YtaecccdkjmipeaaGreatB11
namespace Go.Proofs.YtaecccdkjmipeaaGreat
open Go.RowKit
section
variable {l : Lat}
/-- fields that are not of this kind -/
def strayB (l : Lat) : Bool := (!(l.k == 2 || l.k == 3) && (l.lo != 0 || l.hi != 0)) || (l.k != 10 && ((l.rs.length : Int) != 0))
theorem stray_bad (h : strayB l = true) : (shapeX l == 0) = false := by
 unfold shapeX
 split
 ·have : badB l = true := by
   unfold badB
   unfold strayB at h
   simp only [Bool.or_eq_true, Bool.and_eq_true, Bool.not_eq_true', bne_iff_ne, ne_eq] at h ⊢
   rcases h with h | h
   ·right
    refine ⟨?_, ?_⟩
    ·unfold rangedB; exact h.1
    exact h.2
   left; right
   refine ⟨by simpa using h.1, decide_eq_true (by have := h.2; omega)⟩
  rw [this]; rfl
 rfl
theorem sh_eq (h : strayB l = false) (hk : knownB l.k = true) : (shapeX l == 0) = (((l.ps.length : Int) == partsN l) && !(!namedB l.k && decide ((l.nm.length : Int) > 0)) && !emptyB l) := by
 unfold strayB at h
 simp only [Bool.or_eq_false_iff, Bool.and_eq_false_iff, Bool.not_eq_false', bne_eq_false_iff_eq] at h
 have h1 : (!(l.k == 10) && decide ((l.rs.length : Int) > 0)) = false := by
  rcases h.2 with h2 | h2
  ·rw [h2]; rfl
  rw [decide_eq_false (by omega), Bool.and_false]
 have h2 : (!rangedB l.k && (l.lo != 0 || l.hi != 0)) = false := by
  rcases h.1 with h3 | h3
  ·unfold rangedB; rw [h3]; rfl
  rw [h3.1, h3.2]; simp
 unfold shapeX badB bne
 unfold bne at h2
 rw [if_pos hk, h1, h2, Bool.or_false, Bool.or_false]
 cases ((l.ps.length : Int) == partsN l) <;> cases (!namedB l.k && decide ((l.nm.length : Int) > 0)) <;> cases emptyB l <;> rfl
theorem sh_un (hk : knownB l.k = false) : (shapeX l == 0) = false := by
 unfold shapeX
 rw [if_neg (by rw [hk]; decide)]; rfl
theorem gt0 {n : Nat} : decide ((n : Int) > 0) = !((n : Int) == 0) := by
 by_cases h : n = 0
 ·subst h; rfl
 rw [decide_eq_true (by omega), beq_eq_false_iff_ne.2 (by omega)]; rfl
theorem partsN_0 (h5 : l.k ≠ 5) (h7 : l.k ≠ 7) (h6 : l.k ≠ 6) : partsN l = 0 := by unfold partsN; rw [if_neg h5, if_neg h7, if_neg h6]
theorem sh_A (h : strayB l = false) (hk : l.k = 1 ∨ l.k = 2 ∨ l.k = 3 ∨ l.k = 9) : (shapeX l == 0) = ((l.nm.length : Int) == 0 && (l.ps.length : Int) == 0) := by
 rw [sh_eq h (by rcases hk with hk | hk | hk | hk <;> rw [hk] <;> rfl), partsN_0 (by omega) (by omega) (by omega), gt0, show namedB l.k = false by rcases hk with hk | hk | hk | hk <;> rw [hk] <;> rfl, show emptyB l = false by unfold emptyB; rcases hk with hk | hk | hk | hk <;> rw [hk] <;> rfl]
 cases ((l.nm.length : Int) == 0) <;> cases ((l.ps.length : Int) == 0) <;> rfl
theorem sh_B (h : strayB l = false) (hk : l.k = 4 ∨ l.k = 8) : (shapeX l == 0) = ((l.ps.length : Int) == 0) := by
 rw [sh_eq h (by rcases hk with hk | hk <;> rw [hk] <;> rfl), partsN_0 (by omega) (by omega) (by omega), show namedB l.k = true by rcases hk with hk | hk <;> rw [hk] <;> rfl, show emptyB l = false by unfold emptyB; rcases hk with hk | hk <;> rw [hk] <;> rfl]
 cases ((l.ps.length : Int) == 0) <;> rfl
theorem sh_5 (h : strayB l = false) (hk : l.k = 5) : (shapeX l == 0) = ((l.ps.length : Int) == 1) := by
 rw [sh_eq h (by rw [hk]; rfl), show partsN l = 1 by unfold partsN; rw [if_pos hk], show namedB l.k = true by rw [hk]; rfl, show emptyB l = false by unfold emptyB; rw [hk]; rfl]
 cases ((l.ps.length : Int) == 1) <;> rfl
theorem sh_6 (h : strayB l = false) (hk : l.k = 6) : (shapeX l == 0) = (decide ((l.nm.length : Int) > 0) && ((l.nm.length : Int) == l.ps.length)) := by
 rw [sh_eq h (by rw [hk]; rfl), show partsN l = l.nm.length by unfold partsN; rw [hk]; rfl, show namedB l.k = true by rw [hk]; rfl, show emptyB l = ((l.nm.length : Int) == 0) by unfold emptyB; rw [hk]; rfl, gt0, show ((l.ps.length : Int) == l.nm.length) = ((l.nm.length : Int) == l.ps.length) from BEq.comm]
 cases ((l.nm.length : Int) == 0) <;> cases ((l.nm.length : Int) == l.ps.length) <;> rfl
theorem sh_7 (h : strayB l = false) (hk : l.k = 7) : (shapeX l == 0) = ((l.nm.length : Int) == 0 && (l.ps.length : Int) == 2) := by
 rw [sh_eq h (by rw [hk]; rfl), show partsN l = 2 by unfold partsN; rw [hk]; rfl, gt0, show namedB l.k = false by rw [hk]; rfl, show emptyB l = false by unfold emptyB; rw [hk]; rfl]
 cases ((l.nm.length : Int) == 0) <;> cases ((l.ps.length : Int) == 2) <;> rfl
theorem sh_10 (h : strayB l = false) (hk : l.k = 10) : (shapeX l == 0) = (decide ((l.nm.length : Int) > 0) && ((l.ps.length : Int) == 0)) := by
 rw [sh_eq h (by rw [hk]; rfl), partsN_0 (by omega) (by omega) (by omega), show namedB l.k = true by rw [hk]; rfl, show emptyB l = ((l.nm.length : Int) == 0) by unfold emptyB; rw [hk]; rfl, gt0]
 cases ((l.nm.length : Int) == 0) <;> cases ((l.ps.length : Int) == 0) <;> rfl
/-- names and rules, as the reference looks at them -/
def ruleR (nm : List Nm) (r : Ru) : Bool := !((r.i.length : Int) == 0) && riseB r.i && hasB nm r.t && r.i.all (hasB nm)
def namesR (l : Lat) : Bool := if l.k == 6 then l.nm.zipIdx.all fun q => validB q.1 && !hasB (l.nm.take q.2) q.1 else riseB l.nm && l.rs.all (ruleR l.nm)
theorem zip_valid : ∀ (l : List Nm) (n : Nat), ((l.zipIdx n).all fun q => validB q.1) = l.all validB
 | [], _ => rfl
 | x :: r, n => by rw [List.zipIdx_cons, List.all_cons, List.all_cons, zip_valid r]
theorem namesR_eq (hs : shapeX l = 0) : namesR l = (spellX l == 0) := by
 have hrs : l.k ≠ 10 → l.rs = [] := fun hk => by
  cases hst : strayB l
  ·unfold strayB at hst
   simp only [Bool.or_eq_false_iff, Bool.and_eq_false_iff, bne_eq_false_iff_eq] at hst
   rcases hst.2 with h | h
   ·exact absurd h hk
   exact List.eq_nil_of_length_eq_zero (by omega)
  have := stray_bad hst
  rw [hs] at this; cases this
 unfold namesR spellX
 by_cases h6 : l.k = 6
 ·rw [if_pos (by rw [h6]; rfl), hrs (by omega)]
  have : l.nm.zipIdx.all (nameOk l) = l.nm.zipIdx.all fun q => validB q.1 && !hasB (l.nm.take q.2) q.1 := by
   congr 1
   funext q
   unfold nameOk
   rw [h6]; rfl
  rw [this, h6]
  simp only [beq_self_eq_true, Bool.true_or, Bool.and_true, List.all_nil]
  cases l.nm.zipIdx.all fun q => validB q.1 && !hasB (l.nm.take q.2) q.1 <;> rfl
 have hk6 : (l.k == 6) = false := beq_eq_false_iff_ne.2 h6
 rw [if_neg (by rw [hk6]; decide), hk6]
 have : l.nm.zipIdx.all (nameOk l) = l.nm.all validB := by
  rw [← zip_valid l.nm 0]
  congr 1
  funext q
  unfold nameOk
  rw [hk6]; simp
 rw [this, Bool.false_or]
 by_cases hv : l.nm.all validB = true
 ·have hr : l.rs.all (ruleR l.nm) = l.rs.all (ruleOk l.nm) := by
   have : ∀ r, ruleR l.nm r = ruleOk l.nm r := fun r => by
    unfold ruleR ruleOk riseB
    have hsub : subsetB r.i l.nm = r.i.all (hasB l.nm) := rfl
    rw [hsub]
    cases ha : r.i.all (hasB l.nm)
    ·simp
    have hva : r.i.all validB = true := by
     rw [List.all_eq_true] at ha hv ⊢
     exact fun x hx => hv x (has_iff.1 (ha x hx))
    rw [hva]
    cases (!((r.i.length : Int) == 0)) <;> cases sortedB r.i <;> cases hasB l.nm r.t <;> rfl
   congr 1
   funext r
   exact this r
  unfold riseB
  rw [hr, hv]
  cases sortedB l.nm <;> cases l.rs.all (ruleOk l.nm) <;> rfl
 rw [Bool.not_eq_true] at hv
 unfold riseB
 rw [hv]; rfl
end

set_option maxRecDepth 100000 in
set_option maxHeartbeats 1000000 in
theorem r9shape_fc (l : Lat) : FC Tryz.prog 137 [.agg (latL l)] (bl (shapeX l == 0)) := by
 refine fc_of_awp [2] Tryz.func137 rfl rfl 104 Tryz.ntmps137 (Nat.le_of_ble_eq_true rfl) ?_
 intro E hN
 refine rn11 ?_
 refine zc 7 ?_ ?_ <;> intro h5
 ·
  iterate 3 refine uK (w10 h5) ?_
  refine zh1 h5 ?_; refine zT ?_; refine c_cutF (⟨[(1, .ptr 0 0)], [(0, .var 26 (latL l))], 1⟩) (strayB l = false) ?_ ?_
  ·
   refine rn13 ?_; refine zh0 rfl ?_; refine rn5 ?_
   refine zc 28 ?_ ?_ <;> intro h8
   ·
    refine uF (w11 h8) ?_; refine uL (w11 h8) ?_; refine uE (w11 h8) ?_; refine uP (w11 h8) (q_bin rfl rfl rfl) ?_; refine zh1 h8 ?_; refine zh0 rfl ?_
    refine zN ?_
    refine zq ?_ ?_ <;> intro h12
    ·
     refine rn3 ?_; refine zQ ?_
     exact retB (stray_bad (by first | (simp_all [strayB]; done) | (simp_all [strayB]; omega))).symm
    refine awp_skip ?_
    exact ⟨(by first | (simp_all [strayB]; done) | (simp_all [strayB]; omega)), weak_scrub' rfl (zz1 trivial) ⟨rfl, rfl, rfl, trivial⟩⟩
   iterate 4 refine uK (w01 h8) ?_
   refine zh0 h8 ?_; refine zh0 rfl ?_; refine zN ?_; refine c_false rfl rfl ?_; refine awp_skip ?_
   exact ⟨(by first | (simp_all [strayB]; done) | (simp_all [strayB]; omega)), weak_scrub' rfl (zz1 trivial) ⟨rfl, rfl, rfl, trivial⟩⟩
  intro hst
  refine rn7 ?_
  refine c_cut (⟨[(1, .ptr 0 0), (36, i64 l.k), (37, bl (l.k == 1 || l.k == 2 || l.k == 3 || l.k == 9))], [(0, .var 26 (latL l))], 1⟩) ?_ ?_
  ·
   refine rn5 ?_
   refine zq ?_ ?_ <;> intro h16
   ·
    refine awp_skip ?_
    exact weak_scrub' rfl (zz2 ⟨(cgB (by simp_all)), rfl, trivial⟩) ⟨rfl, rfl, rfl, trivial⟩
   refine rn5 ?_
   refine zq ?_ ?_ <;> intro h17
   ·
    refine awp_skip ?_
    exact weak_scrub' rfl (zz2 ⟨(cgB (by simp_all)), rfl, trivial⟩) ⟨rfl, rfl, rfl, trivial⟩
   refine rn5 ?_
   refine zq ?_ ?_ <;> intro h18
   ·
    refine awp_skip ?_
    exact weak_scrub' rfl (zz2 ⟨(cgB (by simp_all)), rfl, trivial⟩) ⟨rfl, rfl, rfl, trivial⟩
   refine rn3 ?_; refine aops_nil ?_
   exact weak_scrub' rfl (zz2 ⟨(cgB (by simp_all)), rfl, trivial⟩) ⟨rfl, rfl, rfl, trivial⟩
  refine zq ?_ ?_ <;> intro h22
  ·
   have hk : l.k = 1 ∨ l.k = 2 ∨ l.k = 3 ∨ l.k = 9 := by simpa [or_assoc] using h22
   refine rn7 ?_
   refine zc 46 ?_ ?_ <;> intro h26
   ·
    refine uF (w11 h26) ?_; refine uL (w11 h26) ?_; refine uE (w11 h26) ?_; refine uP (w11 h26) (q_bin rfl rfl rfl) ?_; refine zh1 h26 ?_; refine zS ?_
    refine zQ ?_
    exact retB (by rw [sh_A hst hk]; simp_all)
   iterate 4 refine uK (w01 h26) ?_
   refine zh0 h26 ?_; refine zS ?_; refine zQ ?_
   exact retB (by rw [sh_A hst hk]; simp_all)
  have hA := h22
  refine c_cut (⟨[(1, .ptr 0 0), (36, i64 l.k), (52, bl (l.k == 4 || l.k == 8))], [(0, .var 26 (latL l))], 1⟩) ?_ ?_
  ·
   refine rn5 ?_
   refine zq ?_ ?_ <;> intro h31
   ·
    refine awp_skip ?_
    exact weak_scrub' rfl (zz2 ⟨(cgB (by simp_all)), rfl, trivial⟩) ⟨rfl, rfl, rfl, trivial⟩
   refine rn3 ?_; refine aops_nil ?_
   exact weak_scrub' rfl (zz2 ⟨(cgB (by simp_all)), rfl, trivial⟩) ⟨rfl, rfl, rfl, trivial⟩
  refine zq ?_ ?_ <;> intro h35
  ·
   have hk : l.k = 4 ∨ l.k = 8 := by simpa using h35
   refine rn7 ?_; refine zQ ?_
   exact retB (by rw [sh_B hst hk]; simp)
  have hB := h35
  refine rn5 ?_
  refine zq ?_ ?_ <;> intro h40
  ·
   have hk : l.k = 5 := by simpa using h40
   refine rn7 ?_; refine zQ ?_
   exact retB (by rw [sh_5 hst hk]; simp)
  have h5 := h40
  refine rn5 ?_
  refine zq ?_ ?_ <;> intro h45
  ·
   have hk : l.k = 6 := by simpa using h45
   refine rn7 ?_
   refine zc 71 ?_ ?_ <;> intro h49
   ·
    refine uF (w11 h49) ?_; refine uL (w11 h49) ?_; refine uE (w11 h49) ?_; refine uF (w11 h49) ?_; refine uL (w11 h49) ?_; refine uE (w11 h49) ?_
    refine uP (w11 h49) (q_bin rfl rfl rfl) ?_; refine zh1 h49 ?_; refine zS ?_; refine zQ ?_
    exact retB (by rw [sh_6 hst hk]; simp_all)
   iterate 7 refine uK (w01 h49) ?_
   refine zh0 h49 ?_; refine zS ?_; refine zQ ?_
   exact retB (by rw [sh_6 hst hk]; simp_all)
  have h6 := h45
  refine rn5 ?_
  refine zq ?_ ?_ <;> intro h57
  ·
   have hk : l.k = 7 := by simpa using h57
   refine rn7 ?_
   refine zc 86 ?_ ?_ <;> intro h61
   ·
    refine uF (w11 h61) ?_; refine uL (w11 h61) ?_; refine uE (w11 h61) ?_; refine uP (w11 h61) (q_bin rfl rfl rfl) ?_; refine zh1 h61 ?_; refine zS ?_
    refine zQ ?_
    exact retB (by rw [sh_7 hst hk]; simp_all)
   iterate 4 refine uK (w01 h61) ?_
   refine zh0 h61 ?_; refine zS ?_; refine zQ ?_
   exact retB (by rw [sh_7 hst hk]; simp_all)
  have h7 := h57
  refine rn5 ?_
  refine zq ?_ ?_ <;> intro h66
  ·
   have hk : l.k = 10 := by simpa using h66
   refine rn7 ?_
   refine zc 98 ?_ ?_ <;> intro h70
   ·
    refine uF (w11 h70) ?_; refine uL (w11 h70) ?_; refine uE (w11 h70) ?_; refine uP (w11 h70) (q_bin rfl rfl rfl) ?_; refine zh1 h70 ?_; refine zS ?_
    refine zQ ?_
    exact retB (by rw [sh_10 hst hk]; simp_all)
   iterate 4 refine uK (w01 h70) ?_
   refine zh0 h70 ?_; refine zS ?_; refine zQ ?_
   exact retB (by rw [sh_10 hst hk]; simp_all)
  have h10 := h66
  refine rn4 ?_; refine zQ ?_
  exact retB (sh_un (by unfold knownB rangedB namedB; simp_all)).symm
 refine uF (w00 h5) ?_; refine uL (w00 h5) ?_; refine uP (w00 h5) (q_bin rfl rfl rfl) ?_; refine zh0 h5 ?_; refine zT ?_
 refine c_cutF (⟨[(1, .ptr 0 0)], [(0, .var 26 (latL l))], 1⟩) (strayB l = false) ?_ ?_
 ·
  refine rn5 ?_
  refine zc 14 ?_ ?_ <;> intro h77
  ·
   refine uF (w11 (m0 (n1 h77))) ?_; refine uL (w11 (m0 (n1 h77))) ?_; refine uP (w11 (m0 (n1 h77))) (q_bin rfl rfl rfl) ?_
   refine uM (w11 (m0 (n1 h77))) ?_
   refine zc 18 ?_ ?_ <;> intro h80
   ·
    iterate 3 refine uK (w10 h80) ?_
    refine uP (w11 (m0 (n1 h77))) (q_pick1 rfl rfl h80 rfl) ?_; refine zh1 (m0 (n1 h77)) ?_; refine rn10 ?_; refine zh1 rfl ?_; refine zN ?_
    refine c_true rfl rfl ?_; refine rn3 ?_; refine zQ ?_
    exact retB (stray_bad (by first | (simp_all [strayB]; done) | (simp_all [strayB]; omega))).symm
   refine uF (w00 h80) ?_; refine uL (w00 h80) ?_; refine uP (w00 h80) (q_bin rfl rfl rfl) ?_
   refine uP (w11 (m0 (n1 h77))) (q_pick0 rfl rfl h80 rfl) ?_; refine zh1 (m0 (n1 h77)) ?_; refine zM ?_
   refine zc 24 ?_ ?_ <;> intro h83
   ·
    iterate 4 refine uK (w10 h83) ?_
    refine rn4 ?_; refine uK (w10 h83) ?_; refine zh1 h83 ?_; refine zN ?_; refine c_true rfl rfl ?_; refine rn3 ?_; refine zQ ?_
    exact retB (stray_bad (by first | (simp_all [strayB]; done) | (simp_all [strayB]; omega))).symm
   refine uF (w00 h83) ?_; refine uL (w00 h83) ?_; refine uP (w00 h83) (q_bin rfl rfl rfl) ?_; refine uM (w00 h83) ?_
   refine zc 28 ?_ ?_ <;> intro h86
   ·
    refine uF (w11 h86) ?_; refine uL (w11 h86) ?_; refine uE (w11 h86) ?_; refine uP (w11 h86) (q_bin rfl rfl rfl) ?_
    refine uP (w00 h83) (q_pick1 rfl rfl h86 rfl) ?_; refine zh0 h83 ?_; refine zN ?_
    refine zq ?_ ?_ <;> intro h90
    ·
     refine rn3 ?_; refine zQ ?_
     exact retB (stray_bad (by first | (simp_all [strayB]; done) | (simp_all [strayB]; omega))).symm
    refine awp_skip ?_
    exact ⟨(by first | (simp_all [strayB]; done) | (simp_all [strayB]; omega)), weak_scrub' rfl (zz1 trivial) ⟨rfl, rfl, rfl, trivial⟩⟩
   iterate 4 refine uK (w01 h86) ?_
   refine uP (w00 h83) (q_pick0 rfl rfl h86 rfl) ?_; refine zh0 h83 ?_; refine zN ?_; refine c_false rfl rfl ?_; refine awp_skip ?_
   exact ⟨(by first | (simp_all [strayB]; done) | (simp_all [strayB]; omega)), weak_scrub' rfl (zz1 trivial) ⟨rfl, rfl, rfl, trivial⟩⟩
  iterate 4 refine uK (w01 (m1 (n0 h77))) ?_
  refine rn3 ?_; refine uK (w01 (m1 (n0 h77))) ?_; refine zh0 (m1 (n0 h77)) ?_; refine rn5 ?_
  refine zc 28 ?_ ?_ <;> intro h93
  ·
   refine uF (w11 h93) ?_; refine uL (w11 h93) ?_; refine uE (w11 h93) ?_; refine uP (w11 h93) (q_bin rfl rfl rfl) ?_; refine zh1 h93 ?_
   refine zh0 rfl ?_; refine zN ?_
   refine zq ?_ ?_ <;> intro h97
   ·
    refine rn3 ?_; refine zQ ?_
    exact retB (stray_bad (by first | (simp_all [strayB]; done) | (simp_all [strayB]; omega))).symm
   refine awp_skip ?_
   exact ⟨(by first | (simp_all [strayB]; done) | (simp_all [strayB]; omega)), weak_scrub' rfl (zz1 trivial) ⟨rfl, rfl, rfl, trivial⟩⟩
  iterate 4 refine uK (w01 h93) ?_
  refine zh0 h93 ?_; refine zh0 rfl ?_; refine zN ?_; refine c_false rfl rfl ?_; refine awp_skip ?_
  exact ⟨(by first | (simp_all [strayB]; done) | (simp_all [strayB]; omega)), weak_scrub' rfl (zz1 trivial) ⟨rfl, rfl, rfl, trivial⟩⟩
 intro hst
 refine rn7 ?_
 refine c_cut (⟨[(1, .ptr 0 0), (36, i64 l.k), (37, bl (l.k == 1 || l.k == 2 || l.k == 3 || l.k == 9))], [(0, .var 26 (latL l))], 1⟩) ?_ ?_
 ·
  refine rn5 ?_
  refine zq ?_ ?_ <;> intro h101
  ·
   refine awp_skip ?_
   exact weak_scrub' rfl (zz2 ⟨(cgB (by simp_all)), rfl, trivial⟩) ⟨rfl, rfl, rfl, trivial⟩
  refine rn5 ?_
  refine zq ?_ ?_ <;> intro h102
  ·
   refine awp_skip ?_
   exact weak_scrub' rfl (zz2 ⟨(cgB (by simp_all)), rfl, trivial⟩) ⟨rfl, rfl, rfl, trivial⟩
  refine rn5 ?_
  refine zq ?_ ?_ <;> intro h103
  ·
   refine awp_skip ?_
   exact weak_scrub' rfl (zz2 ⟨(cgB (by simp_all)), rfl, trivial⟩) ⟨rfl, rfl, rfl, trivial⟩
  refine rn3 ?_; refine aops_nil ?_
  exact weak_scrub' rfl (zz2 ⟨(cgB (by simp_all)), rfl, trivial⟩) ⟨rfl, rfl, rfl, trivial⟩
 refine zq ?_ ?_ <;> intro h107
 ·
  have hk : l.k = 1 ∨ l.k = 2 ∨ l.k = 3 ∨ l.k = 9 := by simpa [or_assoc] using h107
  refine rn7 ?_
  refine zc 46 ?_ ?_ <;> intro h111
  ·
   refine uF (w11 h111) ?_; refine uL (w11 h111) ?_; refine uE (w11 h111) ?_; refine uP (w11 h111) (q_bin rfl rfl rfl) ?_; refine zh1 h111 ?_
   refine zS ?_; refine zQ ?_
   exact retB (by rw [sh_A hst hk]; simp_all)
  iterate 4 refine uK (w01 h111) ?_
  refine zh0 h111 ?_; refine zS ?_; refine zQ ?_
  exact retB (by rw [sh_A hst hk]; simp_all)
 have hA := h107
 refine c_cut (⟨[(1, .ptr 0 0), (36, i64 l.k), (52, bl (l.k == 4 || l.k == 8))], [(0, .var 26 (latL l))], 1⟩) ?_ ?_
 ·
  refine rn5 ?_
  refine zq ?_ ?_ <;> intro h116
  ·
   refine awp_skip ?_
   exact weak_scrub' rfl (zz2 ⟨(cgB (by simp_all)), rfl, trivial⟩) ⟨rfl, rfl, rfl, trivial⟩
  refine rn3 ?_; refine aops_nil ?_
  exact weak_scrub' rfl (zz2 ⟨(cgB (by simp_all)), rfl, trivial⟩) ⟨rfl, rfl, rfl, trivial⟩
 refine zq ?_ ?_ <;> intro h120
 ·
  have hk : l.k = 4 ∨ l.k = 8 := by simpa using h120
  refine rn7 ?_; refine zQ ?_
  exact retB (by rw [sh_B hst hk]; simp)
 have hB := h120
 refine rn5 ?_
 refine zq ?_ ?_ <;> intro h125
 ·
  have hk : l.k = 5 := by simpa using h125
  refine rn7 ?_; refine zQ ?_
  exact retB (by rw [sh_5 hst hk]; simp)
 have h5 := h125
 refine rn5 ?_
 refine zq ?_ ?_ <;> intro h130
 ·
  have hk : l.k = 6 := by simpa using h130
  refine rn7 ?_
  refine zc 71 ?_ ?_ <;> intro h134
  ·
   refine uF (w11 h134) ?_; refine uL (w11 h134) ?_; refine uE (w11 h134) ?_; refine uF (w11 h134) ?_; refine uL (w11 h134) ?_; refine uE (w11 h134) ?_
   refine uP (w11 h134) (q_bin rfl rfl rfl) ?_; refine zh1 h134 ?_; refine zS ?_; refine zQ ?_
   exact retB (by rw [sh_6 hst hk]; simp_all)
  iterate 7 refine uK (w01 h134) ?_
  refine zh0 h134 ?_; refine zS ?_; refine zQ ?_
  exact retB (by rw [sh_6 hst hk]; simp_all)
 have h6 := h130
 refine rn5 ?_
 refine zq ?_ ?_ <;> intro h142
 ·
  have hk : l.k = 7 := by simpa using h142
  refine rn7 ?_
  refine zc 86 ?_ ?_ <;> intro h146
  ·
   refine uF (w11 h146) ?_; refine uL (w11 h146) ?_; refine uE (w11 h146) ?_; refine uP (w11 h146) (q_bin rfl rfl rfl) ?_; refine zh1 h146 ?_
   refine zS ?_; refine zQ ?_
   exact retB (by rw [sh_7 hst hk]; simp_all)
  iterate 4 refine uK (w01 h146) ?_
  refine zh0 h146 ?_; refine zS ?_; refine zQ ?_
  exact retB (by rw [sh_7 hst hk]; simp_all)
 have h7 := h142
 refine rn5 ?_
 refine zq ?_ ?_ <;> intro h151
 ·
  have hk : l.k = 10 := by simpa using h151
  refine rn7 ?_
  refine zc 98 ?_ ?_ <;> intro h155
  ·
   refine uF (w11 h155) ?_; refine uL (w11 h155) ?_; refine uE (w11 h155) ?_; refine uP (w11 h155) (q_bin rfl rfl rfl) ?_; refine zh1 h155 ?_
   refine zS ?_; refine zQ ?_
   exact retB (by rw [sh_10 hst hk]; simp_all)
  iterate 4 refine uK (w01 h155) ?_
  refine zh0 h155 ?_; refine zS ?_; refine zQ ?_
  exact retB (by rw [sh_10 hst hk]; simp_all)
 have h10 := h151
 refine rn4 ?_; refine zQ ?_
 exact retB (sh_un (by unfold knownB rangedB namedB; simp_all)).symm
end Go.Proofs.YtaecccdkjmipeaaGreat
