/-
  Contracts of the reference: descriptions are checked.
-/
import Derived.Test.YtnkkokmmeplbgaaGreatC2
import Derived.Test.YtnkkokmmeplbgaaGreatB11
namespace Go.Proofs.YtnkkokmmeplbgaaGreat
set_option maxRecDepth 100000
set_option maxHeartbeats 1000000
open Go.RowKit
section
variable {l : Qv}
def Ji (l : Qv) : Bool := (!(l.k == 2 || l.k == 3) && (l.lo != 0 || l.hi != 0)) || (l.k != 10 && ((l.rs.length : Int) != 0))
theorem Qa1 (h : Ji l = true) : (Xr l == 0) = false := by
 unfold Xr
 split
 ·have : KN l = true := by
   unfold KN
   unfold Ji at h
   simp only [Bool.or_eq_true, Bool.and_eq_true, Bool.not_eq_true', bne_iff_ne, ne_eq] at h ⊢
   rcases h with h | h
   ·right
    refine ⟨?_, ?_⟩
    ·unfold Jc; exact h.1
    exact h.2
   left; right
   refine ⟨by simpa using h.1, decide_eq_true (by have := h.2; omega)⟩
  rw [this]; rfl
 rfl
theorem Qij (h : Ji l = false) (hk : YU l.k = true) : (Xr l == 0) = (((l.ps.length : Int) == J3 l) && !(!Jn l.k && decide ((l.nm.length : Int) > 0)) && !YF l) := by
 unfold Ji at h
 simp only [Bool.or_eq_false_iff, Bool.and_eq_false_iff, Bool.not_eq_false', bne_eq_false_iff_eq] at h
 have h1 : (!(l.k == 10) && decide ((l.rs.length : Int) > 0)) = false := by
  rcases h.2 with h2 | h2
  ·rw [h2]; rfl
  rw [decide_eq_false (by omega), Bool.and_false]
 have h2 : (!Jc l.k && (l.lo != 0 || l.hi != 0)) = false := by
  rcases h.1 with h3 | h3
  ·unfold Jc; rw [h3]; rfl
  rw [h3.1, h3.2]; simp
 unfold Xr KN bne
 unfold bne at h2
 rw [if_pos hk, h1, h2, Bool.or_false, Bool.or_false]
 cases ((l.ps.length : Int) == J3 l) <;> cases (!Jn l.k && decide ((l.nm.length : Int) > 0)) <;> cases YF l <;> rfl
theorem Quu (hk : YU l.k = false) : (Xr l == 0) = false := by
 unfold Xr
 rw [if_neg (by rw [hk]; decide)]; rfl
theorem gt0 {n : Nat} : decide ((n : Int) > 0) = !((n : Int) == 0) := by
 by_cases h : n = 0
 ·subst h; rfl
 rw [decide_eq_true (by omega), beq_eq_false_iff_ne.2 (by omega)]; rfl
theorem QhI (h5 : l.k ≠ 5) (h7 : l.k ≠ 7) (h6 : l.k ≠ 6) : J3 l = 0 := by unfold J3; rw [if_neg h5, if_neg h7, if_neg h6]
theorem QsG (h : Ji l = false) (hk : l.k = 1 ∨ l.k = 2 ∨ l.k = 3 ∨ l.k = 9) : (Xr l == 0) = ((l.nm.length : Int) == 0 && (l.ps.length : Int) == 0) := by
 rw [Qij h (by rcases hk with hk | hk | hk | hk <;> rw [hk] <;> rfl), QhI (by omega) (by omega) (by omega), gt0, show Jn l.k = false by rcases hk with hk | hk | hk | hk <;> rw [hk] <;> rfl, show YF l = false by unfold YF; rcases hk with hk | hk | hk | hk <;> rw [hk] <;> rfl]
 cases ((l.nm.length : Int) == 0) <;> cases ((l.ps.length : Int) == 0) <;> rfl
theorem Qv5 (h : Ji l = false) (hk : l.k = 4 ∨ l.k = 8) : (Xr l == 0) = ((l.ps.length : Int) == 0) := by
 rw [Qij h (by rcases hk with hk | hk <;> rw [hk] <;> rfl), QhI (by omega) (by omega) (by omega), show Jn l.k = true by rcases hk with hk | hk <;> rw [hk] <;> rfl, show YF l = false by unfold YF; rcases hk with hk | hk <;> rw [hk] <;> rfl]
 cases ((l.ps.length : Int) == 0) <;> rfl
theorem QvH (h : Ji l = false) (hk : l.k = 5) : (Xr l == 0) = ((l.ps.length : Int) == 1) := by
 rw [Qij h (by rw [hk]; rfl), show J3 l = 1 by unfold J3; rw [if_pos hk], show Jn l.k = true by rw [hk]; rfl, show YF l = false by unfold YF; rw [hk]; rfl]
 cases ((l.ps.length : Int) == 1) <;> rfl
theorem QsO (h : Ji l = false) (hk : l.k = 6) : (Xr l == 0) = (decide ((l.nm.length : Int) > 0) && ((l.nm.length : Int) == l.ps.length)) := by
 rw [Qij h (by rw [hk]; rfl), show J3 l = l.nm.length by unfold J3; rw [hk]; rfl, show Jn l.k = true by rw [hk]; rfl, show YF l = ((l.nm.length : Int) == 0) by unfold YF; rw [hk]; rfl, gt0, show ((l.ps.length : Int) == l.nm.length) = ((l.nm.length : Int) == l.ps.length) from BEq.comm]
 cases ((l.nm.length : Int) == 0) <;> cases ((l.nm.length : Int) == l.ps.length) <;> rfl
theorem Qsq (h : Ji l = false) (hk : l.k = 7) : (Xr l == 0) = ((l.nm.length : Int) == 0 && (l.ps.length : Int) == 2) := by
 rw [Qij h (by rw [hk]; rfl), show J3 l = 2 by unfold J3; rw [hk]; rfl, gt0, show Jn l.k = false by rw [hk]; rfl, show YF l = false by unfold YF; rw [hk]; rfl]
 cases ((l.nm.length : Int) == 0) <;> cases ((l.ps.length : Int) == 2) <;> rfl
theorem Qnf (h : Ji l = false) (hk : l.k = 10) : (Xr l == 0) = (decide ((l.nm.length : Int) > 0) && ((l.ps.length : Int) == 0)) := by
 rw [Qij h (by rw [hk]; rfl), QhI (by omega) (by omega) (by omega), show Jn l.k = true by rw [hk]; rfl, show YF l = ((l.nm.length : Int) == 0) by unfold YF; rw [hk]; rfl, gt0]
 cases ((l.nm.length : Int) == 0) <;> cases ((l.ps.length : Int) == 0) <;> rfl
def QgO (nm : List Nm) (r : Ru) : Bool := !((r.i.length : Int) == 0) && QcA r.i && X6 nm r.t && r.i.all (X6 nm)
def QaM (l : Qv) : Bool := if l.k == 6 then l.nm.zipIdx.all fun q => XP q.1 && !X6 (l.nm.take q.2) q.1 else QcA l.nm && l.rs.all (QgO l.nm)
theorem Qia : ∀ (l : List Nm) (n : Nat), ((l.zipIdx n).all fun q => XP q.1) = l.all XP
 | [], _ => rfl
 | x :: r, n => by rw [List.zipIdx_cons, List.all_cons, List.all_cons, Qia r]
theorem Qdl (hs : Xr l = 0) : QaM l = (Jy l == 0) := by
 have hrs : l.k ≠ 10 → l.rs = [] := fun hk => by
  cases hst : Ji l
  ·unfold Ji at hst
   simp only [Bool.or_eq_false_iff, Bool.and_eq_false_iff, bne_eq_false_iff_eq] at hst
   rcases hst.2 with h | h
   ·exact absurd h hk
   exact List.eq_nil_of_length_eq_zero (by omega)
  have := Qa1 hst
  rw [hs] at this; cases this
 unfold QaM Jy
 by_cases h6 : l.k = 6
 ·rw [if_pos (by rw [h6]; rfl), hrs (by omega)]
  have : l.nm.zipIdx.all (QaJ l) = l.nm.zipIdx.all fun q => XP q.1 && !X6 (l.nm.take q.2) q.1 := by
   congr 1
   funext q
   unfold QaJ
   rw [h6]; rfl
  rw [this, h6]
  simp only [beq_self_eq_true, Bool.true_or, Bool.and_true, List.all_nil]
  cases l.nm.zipIdx.all fun q => XP q.1 && !X6 (l.nm.take q.2) q.1 <;> rfl
 have hk6 : (l.k == 6) = false := beq_eq_false_iff_ne.2 h6
 rw [if_neg (by rw [hk6]; decide), hk6]
 have : l.nm.zipIdx.all (QaJ l) = l.nm.all XP := by
  rw [← Qia l.nm 0]
  congr 1
  funext q
  unfold QaJ
  rw [hk6]; simp
 rw [this, Bool.false_or]
 by_cases hv : l.nm.all XP = true
 ·have hr : l.rs.all (QgO l.nm) = l.rs.all (WN l.nm) := by
   have : ∀ r, QgO l.nm r = WN l.nm r := fun r => by
    unfold QgO WN QcA
    have hsub : J6 r.i l.nm = r.i.all (X6 l.nm) := rfl
    rw [hsub]
    cases ha : r.i.all (X6 l.nm)
    ·simp
    have hva : r.i.all XP = true := by
     rw [List.all_eq_true] at ha hv ⊢
     exact fun x hx => hv x (Yn.1 (ha x hx))
    rw [hva]
    cases (!((r.i.length : Int) == 0)) <;> cases Qt r.i <;> cases X6 l.nm r.t <;> rfl
   congr 1
   funext r
   exact this r
  unfold QcA
  rw [hr, hv]
  cases Qt l.nm <;> cases l.rs.all (WN l.nm) <;> rfl
 rw [Bool.not_eq_true] at hv
 unfold QcA
 rw [hv]; rfl
end
theorem Qhu (l : Qv) : FC Tryz.prog 176 [.agg (Q2 l)] (bl (Xr l == 0)) := by
 refine Qh [2] Tryz.func176 rfl rfl 104 Tryz.ntmps176 (Nat.le_of_ble_eq_true rfl) ?_
 intro E hN;refine Xn ?_
 refine zc 7 ?_ ?_ <;> intro h5
 ·refine Xk ?_;refine QcV (⟨[(1, .ptr 0 0)], [(0, .var 26 (Q2 l))], 1⟩) (Ji l = false) ?_ ?_
  ·refine Qes ?_
   refine zc 28 ?_ ?_ <;> intro h8
   ·refine Xg ?_
    refine zq ?_ ?_ <;> intro h12
    ·refine QD ?_;refine zQ ?_;exact Qo (Qa1 (by first | (simp_all [Ji]; done) | (simp_all [Ji]; omega))).symm
    refine QO ?_;exact ⟨(by first | (simp_all [Ji]; done) | (simp_all [Ji]; omega)), Qa rfl (XE trivial) ⟨rfl, rfl, rfl, trivial⟩⟩
   refine Xo ?_;refine QO ?_;exact ⟨(by first | (simp_all [Ji]; done) | (simp_all [Ji]; omega)), Qa rfl (XE trivial) ⟨rfl, rfl, rfl, trivial⟩⟩
  intro hst;refine Xg ?_;refine JT (⟨[(1, .ptr 0 0), (36, i64 l.k), (37, bl (l.k == 1 || l.k == 2 || l.k == 3 || l.k == 9))], [(0, .var 26 (Q2 l))], 1⟩) ?_ ?_
  ·refine Qy ?_
   refine zq ?_ ?_ <;> intro h16
   ·refine QO ?_;exact Qa rfl (Yf ⟨(Kk (by simp_all)), rfl, trivial⟩) ⟨rfl, rfl, rfl, trivial⟩
   refine Qy ?_
   refine zq ?_ ?_ <;> intro h17
   ·refine QO ?_;exact Qa rfl (Yf ⟨(Kk (by simp_all)), rfl, trivial⟩) ⟨rfl, rfl, rfl, trivial⟩
   refine Qy ?_
   refine zq ?_ ?_ <;> intro h18
   ·refine QO ?_;exact Qa rfl (Yf ⟨(Kk (by simp_all)), rfl, trivial⟩) ⟨rfl, rfl, rfl, trivial⟩
   refine QD ?_;refine Qb ?_;exact Qa rfl (Yf ⟨(Kk (by simp_all)), rfl, trivial⟩) ⟨rfl, rfl, rfl, trivial⟩
  refine zq ?_ ?_ <;> intro h22
  ·have hk : l.k = 1 ∨ l.k = 2 ∨ l.k = 3 ∨ l.k = 9 := by simpa [or_assoc] using h22
   refine Xg ?_
   refine zc 46 ?_ ?_ <;> intro h26
   ·refine Xk ?_;refine zQ ?_;exact Qo (by rw [QsG hst hk]; simp_all)
   refine Xk ?_;refine zQ ?_;exact Qo (by rw [QsG hst hk]; simp_all)
  have hA := h22
  refine JT (⟨[(1, .ptr 0 0), (36, i64 l.k), (52, bl (l.k == 4 || l.k == 8))], [(0, .var 26 (Q2 l))], 1⟩) ?_ ?_
  ·refine Qy ?_
   refine zq ?_ ?_ <;> intro h31
   ·refine QO ?_;exact Qa rfl (Yf ⟨(Kk (by simp_all)), rfl, trivial⟩) ⟨rfl, rfl, rfl, trivial⟩
   refine QD ?_;refine Qb ?_;exact Qa rfl (Yf ⟨(Kk (by simp_all)), rfl, trivial⟩) ⟨rfl, rfl, rfl, trivial⟩
  refine zq ?_ ?_ <;> intro h35
  ·have hk : l.k = 4 ∨ l.k = 8 := by simpa using h35
   refine Xg ?_;refine zQ ?_;exact Qo (by rw [Qv5 hst hk]; simp)
  have hB := h35
  refine Qy ?_
  refine zq ?_ ?_ <;> intro h40
  ·have hk : l.k = 5 := by simpa using h40
   refine Xg ?_;refine zQ ?_;exact Qo (by rw [QvH hst hk]; simp)
  have h5 := h40
  refine Qy ?_
  refine zq ?_ ?_ <;> intro h45
  ·have hk : l.k = 6 := by simpa using h45
   refine Xg ?_
   refine zc 71 ?_ ?_ <;> intro h49
   ·refine X3 ?_;refine zQ ?_;exact Qo (by rw [QsO hst hk]; simp_all)
   refine X3 ?_;refine zQ ?_;exact Qo (by rw [QsO hst hk]; simp_all)
  have h6 := h45
  refine Qy ?_
  refine zq ?_ ?_ <;> intro h57
  ·have hk : l.k = 7 := by simpa using h57
   refine Xg ?_
   refine zc 86 ?_ ?_ <;> intro h61
   ·refine Xk ?_;refine zQ ?_;exact Qo (by rw [Qsq hst hk]; simp_all)
   refine Xk ?_;refine zQ ?_;exact Qo (by rw [Qsq hst hk]; simp_all)
  have h7 := h57
  refine Qy ?_
  refine zq ?_ ?_ <;> intro h66
  rotate_left
  ·have h10 := h66
   refine QC ?_;refine zQ ?_;exact Qo (Quu (by unfold YU Jc Jn; simp_all)).symm
  have hk : l.k = 10 := by simpa using h66
  refine Xg ?_
  refine zc 98 ?_ ?_ <;> intro h70
  ·refine Xk ?_;refine zQ ?_;exact Qo (by rw [Qnf hst hk]; simp_all)
  refine Xk ?_;refine zQ ?_;exact Qo (by rw [Qnf hst hk]; simp_all)
 refine Xk ?_;refine QcV (⟨[(1, .ptr 0 0)], [(0, .var 26 (Q2 l))], 1⟩) (Ji l = false) ?_ ?_
 ·refine Qy ?_
  refine zc 14 ?_ ?_ <;> intro h77
  rotate_left
  ·refine YI ?_
   refine zc 28 ?_ ?_ <;> intro h93
   ·refine Xg ?_
    refine zq ?_ ?_ <;> intro h97
    ·refine QD ?_;refine zQ ?_;exact Qo (Qa1 (by first | (simp_all [Ji]; done) | (simp_all [Ji]; omega))).symm
    refine QO ?_;exact ⟨(by first | (simp_all [Ji]; done) | (simp_all [Ji]; omega)), Qa rfl (XE trivial) ⟨rfl, rfl, rfl, trivial⟩⟩
   refine Xo ?_;refine QO ?_;exact ⟨(by first | (simp_all [Ji]; done) | (simp_all [Ji]; omega)), Qa rfl (XE trivial) ⟨rfl, rfl, rfl, trivial⟩⟩
  refine QC ?_
  refine zc 18 ?_ ?_ <;> intro h80
  ·refine QD ?_;refine uP (XO (m0 (n1 h77))) (XF rfl rfl h80 rfl) ?_;refine Qd8 ?_;refine zQ ?_;exact Qo (Qa1 (by first | (simp_all [Ji]; done) | (simp_all [Ji]; omega))).symm
  refine QD ?_;refine uP (XO (m0 (n1 h77))) (Xx rfl rfl h80 rfl) ?_;refine QH ?_
  refine zc 24 ?_ ?_ <;> intro h83
  ·refine QdK ?_;refine zQ ?_;exact Qo (Qa1 (by first | (simp_all [Ji]; done) | (simp_all [Ji]; omega))).symm
  refine QC ?_
  refine zc 28 ?_ ?_ <;> intro h86
  ·refine QC ?_;refine uP (X0 h83) (XF rfl rfl h86 rfl) ?_;refine QH ?_
   refine zq ?_ ?_ <;> intro h90
   ·refine QD ?_;refine zQ ?_;exact Qo (Qa1 (by first | (simp_all [Ji]; done) | (simp_all [Ji]; omega))).symm
   refine QO ?_;exact ⟨(by first | (simp_all [Ji]; done) | (simp_all [Ji]; omega)), Qa rfl (XE trivial) ⟨rfl, rfl, rfl, trivial⟩⟩
  refine QC ?_;refine uP (X0 h83) (Xx rfl rfl h86 rfl) ?_;refine QD ?_;refine QO ?_;exact ⟨(by first | (simp_all [Ji]; done) | (simp_all [Ji]; omega)), Qa rfl (XE trivial) ⟨rfl, rfl, rfl, trivial⟩⟩
 intro hst;refine Xg ?_;refine JT (⟨[(1, .ptr 0 0), (36, i64 l.k), (37, bl (l.k == 1 || l.k == 2 || l.k == 3 || l.k == 9))], [(0, .var 26 (Q2 l))], 1⟩) ?_ ?_
 ·refine Qy ?_
  refine zq ?_ ?_ <;> intro h101
  ·refine QO ?_;exact Qa rfl (Yf ⟨(Kk (by simp_all)), rfl, trivial⟩) ⟨rfl, rfl, rfl, trivial⟩
  refine Qy ?_
  refine zq ?_ ?_ <;> intro h102
  ·refine QO ?_;exact Qa rfl (Yf ⟨(Kk (by simp_all)), rfl, trivial⟩) ⟨rfl, rfl, rfl, trivial⟩
  refine Qy ?_
  refine zq ?_ ?_ <;> intro h103
  ·refine QO ?_;exact Qa rfl (Yf ⟨(Kk (by simp_all)), rfl, trivial⟩) ⟨rfl, rfl, rfl, trivial⟩
  refine QD ?_;refine Qb ?_;exact Qa rfl (Yf ⟨(Kk (by simp_all)), rfl, trivial⟩) ⟨rfl, rfl, rfl, trivial⟩
 refine zq ?_ ?_ <;> intro h107
 ·have hk : l.k = 1 ∨ l.k = 2 ∨ l.k = 3 ∨ l.k = 9 := by simpa [or_assoc] using h107
  refine Xg ?_
  refine zc 46 ?_ ?_ <;> intro h111
  ·refine Xk ?_;refine zQ ?_;exact Qo (by rw [QsG hst hk]; simp_all)
  refine Xk ?_;refine zQ ?_;exact Qo (by rw [QsG hst hk]; simp_all)
 have hA := h107
 refine JT (⟨[(1, .ptr 0 0), (36, i64 l.k), (52, bl (l.k == 4 || l.k == 8))], [(0, .var 26 (Q2 l))], 1⟩) ?_ ?_
 ·refine Qy ?_
  refine zq ?_ ?_ <;> intro h116
  ·refine QO ?_;exact Qa rfl (Yf ⟨(Kk (by simp_all)), rfl, trivial⟩) ⟨rfl, rfl, rfl, trivial⟩
  refine QD ?_;refine Qb ?_;exact Qa rfl (Yf ⟨(Kk (by simp_all)), rfl, trivial⟩) ⟨rfl, rfl, rfl, trivial⟩
 refine zq ?_ ?_ <;> intro h120
 ·have hk : l.k = 4 ∨ l.k = 8 := by simpa using h120
  refine Xg ?_;refine zQ ?_;exact Qo (by rw [Qv5 hst hk]; simp)
 have hB := h120
 refine Qy ?_
 refine zq ?_ ?_ <;> intro h125
 ·have hk : l.k = 5 := by simpa using h125
  refine Xg ?_;refine zQ ?_;exact Qo (by rw [QvH hst hk]; simp)
 have h5 := h125
 refine Qy ?_
 refine zq ?_ ?_ <;> intro h130
 ·have hk : l.k = 6 := by simpa using h130
  refine Xg ?_
  refine zc 71 ?_ ?_ <;> intro h134
  ·refine X3 ?_;refine zQ ?_;exact Qo (by rw [QsO hst hk]; simp_all)
  refine X3 ?_;refine zQ ?_;exact Qo (by rw [QsO hst hk]; simp_all)
 have h6 := h130
 refine Qy ?_
 refine zq ?_ ?_ <;> intro h142
 ·have hk : l.k = 7 := by simpa using h142
  refine Xg ?_
  refine zc 86 ?_ ?_ <;> intro h146
  ·refine Xk ?_;refine zQ ?_;exact Qo (by rw [Qsq hst hk]; simp_all)
  refine Xk ?_;refine zQ ?_;exact Qo (by rw [Qsq hst hk]; simp_all)
 have h7 := h142
 refine Qy ?_
 refine zq ?_ ?_ <;> intro h151
 rotate_left
 ·have h10 := h151
  refine QC ?_;refine zQ ?_;exact Qo (Quu (by unfold YU Jc Jn; simp_all)).symm
 have hk : l.k = 10 := by simpa using h151
 refine Xg ?_
 refine zc 98 ?_ ?_ <;> intro h155
 ·refine Xk ?_;refine zQ ?_;exact Qo (by rw [Qnf hst hk]; simp_all)
 refine Xk ?_;refine zQ ?_;exact Qo (by rw [Qnf hst hk]; simp_all)
end Go.Proofs.YtnkkokmmeplbgaaGreat
