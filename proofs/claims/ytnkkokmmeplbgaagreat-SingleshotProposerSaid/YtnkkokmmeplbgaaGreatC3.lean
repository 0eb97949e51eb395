/-
  Contracts of the reference: descriptions are checked.
-/
import Derived.Test.YtnkkokmmeplbgaaGreatC2
import Derived.Test.YtnkkokmmeplbgaaGreatB11
namespace Go.Proofs.YtnkkokmmeplbgaaGreat
set_option maxRecDepth 100000
set_option maxHeartbeats 1000000
open Go.RowKit
section
variable {l : QD}
def Jd (l : QD) : Bool := (!(l.k == 2 || l.k == 3) && (l.lo != 0 || l.hi != 0)) || (l.k != 10 && ((l.rs.length : Int) != 0))
theorem Qaf (h : Jd l = true) : (Xo l == 0) = false := by
 unfold Xo
 split
 ·have : Kj l = true := by
   unfold Kj
   unfold Jd at h
   simp only [Bool.or_eq_true, Bool.and_eq_true, Bool.not_eq_true', bne_iff_ne, ne_eq] at h ⊢
   rcases h with h | h
   ·right
    refine ⟨?_, ?_⟩
    ·unfold X8; exact h.1
    exact h.2
   left; right
   refine ⟨by simpa using h.1, decide_eq_true (by have := h.2; omega)⟩
  rw [this]; rfl
 rfl
theorem QhR (h : Jd l = false) (hk : Yz l.k = true) : (Xo l == 0) = (((l.ps.length : Int) == JL l) && !(!Ji l.k && decide ((l.nm.length : Int) > 0)) && !Yn l) := by
 unfold Jd at h
 simp only [Bool.or_eq_false_iff, Bool.and_eq_false_iff, Bool.not_eq_false', bne_eq_false_iff_eq] at h
 have h1 : (!(l.k == 10) && decide ((l.rs.length : Int) > 0)) = false := by
  rcases h.2 with h2 | h2
  ·rw [h2]; rfl
  rw [decide_eq_false (by omega), Bool.and_false]
 have h2 : (!X8 l.k && (l.lo != 0 || l.hi != 0)) = false := by
  rcases h.1 with h3 | h3
  ·unfold X8; rw [h3]; rfl
  rw [h3.1, h3.2]; simp
 unfold Xo Kj bne
 unfold bne at h2
 rw [if_pos hk, h1, h2, Bool.or_false, Bool.or_false]
 cases ((l.ps.length : Int) == JL l) <;> cases (!Ji l.k && decide ((l.nm.length : Int) > 0)) <;> cases Yn l <;> rfl
theorem QrT (hk : Yz l.k = false) : (Xo l == 0) = false := by
 unfold Xo
 rw [if_neg (by rw [hk]; decide)]; rfl
theorem gt0 {n : Nat} : decide ((n : Int) > 0) = !((n : Int) == 0) := by
 by_cases h : n = 0
 ·subst h; rfl
 rw [decide_eq_true (by omega), beq_eq_false_iff_ne.2 (by omega)]; rfl
theorem Qga (h5 : l.k ≠ 5) (h7 : l.k ≠ 7) (h6 : l.k ≠ 6) : JL l = 0 := by unfold JL; rw [if_neg h5, if_neg h7, if_neg h6]
theorem Qqg (h : Jd l = false) (hk : l.k = 1 ∨ l.k = 2 ∨ l.k = 3 ∨ l.k = 9) : (Xo l == 0) = ((l.nm.length : Int) == 0 && (l.ps.length : Int) == 0) := by
 rw [QhR h (by rcases hk with hk | hk | hk | hk <;> rw [hk] <;> rfl), Qga (by omega) (by omega) (by omega), gt0, show Ji l.k = false by rcases hk with hk | hk | hk | hk <;> rw [hk] <;> rfl, show Yn l = false by unfold Yn; rcases hk with hk | hk | hk | hk <;> rw [hk] <;> rfl]
 cases ((l.nm.length : Int) == 0) <;> cases ((l.ps.length : Int) == 0) <;> rfl
theorem QtT (h : Jd l = false) (hk : l.k = 4 ∨ l.k = 8) : (Xo l == 0) = ((l.ps.length : Int) == 0) := by
 rw [QhR h (by rcases hk with hk | hk <;> rw [hk] <;> rfl), Qga (by omega) (by omega) (by omega), show Ji l.k = true by rcases hk with hk | hk <;> rw [hk] <;> rfl, show Yn l = false by unfold Yn; rcases hk with hk | hk <;> rw [hk] <;> rfl]
 cases ((l.ps.length : Int) == 0) <;> rfl
theorem QtB (h : Jd l = false) (hk : l.k = 5) : (Xo l == 0) = ((l.ps.length : Int) == 1) := by
 rw [QhR h (by rw [hk]; rfl), show JL l = 1 by unfold JL; rw [if_pos hk], show Ji l.k = true by rw [hk]; rfl, show Yn l = false by unfold Yn; rw [hk]; rfl]
 cases ((l.ps.length : Int) == 1) <;> rfl
theorem Qrj (h : Jd l = false) (hk : l.k = 6) : (Xo l == 0) = (decide ((l.nm.length : Int) > 0) && ((l.nm.length : Int) == l.ps.length)) := by
 rw [QhR h (by rw [hk]; rfl), show JL l = l.nm.length by unfold JL; rw [hk]; rfl, show Ji l.k = true by rw [hk]; rfl, show Yn l = ((l.nm.length : Int) == 0) by unfold Yn; rw [hk]; rfl, gt0, show ((l.ps.length : Int) == l.nm.length) = ((l.nm.length : Int) == l.ps.length) from BEq.comm]
 cases ((l.nm.length : Int) == 0) <;> cases ((l.nm.length : Int) == l.ps.length) <;> rfl
theorem Qrv (h : Jd l = false) (hk : l.k = 7) : (Xo l == 0) = ((l.nm.length : Int) == 0 && (l.ps.length : Int) == 2) := by
 rw [QhR h (by rw [hk]; rfl), show JL l = 2 by unfold JL; rw [hk]; rfl, gt0, show Ji l.k = false by rw [hk]; rfl, show Yn l = false by unfold Yn; rw [hk]; rfl]
 cases ((l.nm.length : Int) == 0) <;> cases ((l.ps.length : Int) == 2) <;> rfl
theorem Qmu (h : Jd l = false) (hk : l.k = 10) : (Xo l == 0) = (decide ((l.nm.length : Int) > 0) && ((l.ps.length : Int) == 0)) := by
 rw [QhR h (by rw [hk]; rfl), Qga (by omega) (by omega) (by omega), show Ji l.k = true by rw [hk]; rfl, show Yn l = ((l.nm.length : Int) == 0) by unfold Yn; rw [hk]; rfl, gt0]
 cases ((l.nm.length : Int) == 0) <;> cases ((l.ps.length : Int) == 0) <;> rfl
def Qg5 (nm : List Nm) (r : Ru) : Bool := !((r.i.length : Int) == 0) && Qb0 r.i && X2 nm r.t && r.i.all (X2 nm)
def W2 (l : QD) : Bool := if l.k == 6 then l.nm.zipIdx.all fun q => XM q.1 && !X2 (l.nm.take q.2) q.1 else Qb0 l.nm && l.rs.all (Qg5 l.nm)
theorem Qhp : ∀ (l : List Nm) (n : Nat), ((l.zipIdx n).all fun q => XM q.1) = l.all XM
 | [], _ => rfl
 | x :: r, n => by rw [List.zipIdx_cons, List.all_cons, List.all_cons, Qhp r]
theorem QcS (hs : Xo l = 0) : W2 l = (Jr l == 0) := by
 have hrs : l.k ≠ 10 → l.rs = [] := fun hk => by
  cases hst : Jd l
  ·unfold Jd at hst
   simp only [Bool.or_eq_false_iff, Bool.and_eq_false_iff, bne_eq_false_iff_eq] at hst
   rcases hst.2 with h | h
   ·exact absurd h hk
   exact List.eq_nil_of_length_eq_zero (by omega)
  have := Qaf hst
  rw [hs] at this; cases this
 unfold W2 Jr
 by_cases h6 : l.k = 6
 ·rw [if_pos (by rw [h6]; rfl), hrs (by omega)]
  have : l.nm.zipIdx.all (W0 l) = l.nm.zipIdx.all fun q => XM q.1 && !X2 (l.nm.take q.2) q.1 := by
   congr 1
   funext q
   unfold W0
   rw [h6]; rfl
  rw [this, h6]
  simp only [beq_self_eq_true, Bool.true_or, Bool.and_true, List.all_nil]
  cases l.nm.zipIdx.all fun q => XM q.1 && !X2 (l.nm.take q.2) q.1 <;> rfl
 have hk6 : (l.k == 6) = false := beq_eq_false_iff_ne.2 h6
 rw [if_neg (by rw [hk6]; decide), hk6]
 have : l.nm.zipIdx.all (W0 l) = l.nm.all XM := by
  rw [← Qhp l.nm 0]
  congr 1
  funext q
  unfold W0
  rw [hk6]; simp
 rw [this, Bool.false_or]
 by_cases hv : l.nm.all XM = true
 ·have hr : l.rs.all (Qg5 l.nm) = l.rs.all (K5 l.nm) := by
   have : ∀ r, Qg5 l.nm r = K5 l.nm r := fun r => by
    unfold Qg5 K5 Qb0
    have hsub : JT r.i l.nm = r.i.all (X2 l.nm) := rfl
    rw [hsub]
    cases ha : r.i.all (X2 l.nm)
    ·simp
    have hva : r.i.all XM = true := by
     rw [List.all_eq_true] at ha hv ⊢
     exact fun x hx => hv x (Yb.1 (ha x hx))
    rw [hva]
    cases (!((r.i.length : Int) == 0)) <;> cases Qq r.i <;> cases X2 l.nm r.t <;> rfl
   congr 1
   funext r
   exact this r
  unfold Qb0
  rw [hr, hv]
  cases Qq l.nm <;> cases l.rs.all (K5 l.nm) <;> rfl
 rw [Bool.not_eq_true] at hv
 unfold Qb0
 rw [hv]; rfl
end
theorem QgV (l : QD) : FC Tryz.prog 176 [.agg (Q2 l)] (bl (Xo l == 0)) := by
 refine Qg [2] Tryz.func176 rfl rfl 104 Tryz.ntmps176 (Nat.le_of_ble_eq_true rfl) ?_
 intro E hN
 refine Jv ?_
 refine zc 7 ?_ ?_ <;> intro h5
 ·
  refine Q8 ?_; refine Qch (⟨[(1, .ptr 0 0)], [(0, .var 26 (Q2 l))], 1⟩) (Jd l = false) ?_ ?_
  ·
   refine QiL ?_
   refine zc 28 ?_ ?_ <;> intro h8
   ·
    refine Q4 ?_
    refine zq ?_ ?_ <;> intro h12
    ·
     refine Qs ?_; refine zQ ?_
     exact Qm (Qaf (by first | (simp_all [Jd]; done) | (simp_all [Jd]; omega))).symm
    refine Xn ?_
    exact ⟨(by first | (simp_all [Jd]; done) | (simp_all [Jd]; omega)), Qa rfl (Xv trivial) ⟨rfl, rfl, rfl, trivial⟩⟩
   refine XN ?_; refine Xn ?_
   exact ⟨(by first | (simp_all [Jd]; done) | (simp_all [Jd]; omega)), Qa rfl (Xv trivial) ⟨rfl, rfl, rfl, trivial⟩⟩
  intro hst
  refine Q4 ?_
  refine Wm (⟨[(1, .ptr 0 0), (36, i64 l.k), (37, bl (l.k == 1 || l.k == 2 || l.k == 3 || l.k == 9))], [(0, .var 26 (Q2 l))], 1⟩) ?_ ?_
  ·
   refine QF ?_
   refine zq ?_ ?_ <;> intro h16
   ·
    refine Xn ?_
    exact Qa rfl (JI ⟨(YT (by simp_all)), rfl, trivial⟩) ⟨rfl, rfl, rfl, trivial⟩
   refine QF ?_
   refine zq ?_ ?_ <;> intro h17
   ·
    refine Xn ?_
    exact Qa rfl (JI ⟨(YT (by simp_all)), rfl, trivial⟩) ⟨rfl, rfl, rfl, trivial⟩
   refine QF ?_
   refine zq ?_ ?_ <;> intro h18
   ·
    refine Xn ?_
    exact Qa rfl (JI ⟨(YT (by simp_all)), rfl, trivial⟩) ⟨rfl, rfl, rfl, trivial⟩
   refine Qs ?_; refine Qb ?_
   exact Qa rfl (JI ⟨(YT (by simp_all)), rfl, trivial⟩) ⟨rfl, rfl, rfl, trivial⟩
  refine zq ?_ ?_ <;> intro h22
  ·
   have hk : l.k = 1 ∨ l.k = 2 ∨ l.k = 3 ∨ l.k = 9 := by simpa [or_assoc] using h22
   refine Q4 ?_
   refine zc 46 ?_ ?_ <;> intro h26
   ·
    refine Q8 ?_; refine zQ ?_
    exact Qm (by rw [Qqg hst hk]; simp_all)
   refine Q8 ?_; refine zQ ?_
   exact Qm (by rw [Qqg hst hk]; simp_all)
  have hA := h22
  refine Wm (⟨[(1, .ptr 0 0), (36, i64 l.k), (52, bl (l.k == 4 || l.k == 8))], [(0, .var 26 (Q2 l))], 1⟩) ?_ ?_
  ·
   refine QF ?_
   refine zq ?_ ?_ <;> intro h31
   ·
    refine Xn ?_
    exact Qa rfl (JI ⟨(YT (by simp_all)), rfl, trivial⟩) ⟨rfl, rfl, rfl, trivial⟩
   refine Qs ?_; refine Qb ?_
   exact Qa rfl (JI ⟨(YT (by simp_all)), rfl, trivial⟩) ⟨rfl, rfl, rfl, trivial⟩
  refine zq ?_ ?_ <;> intro h35
  ·
   have hk : l.k = 4 ∨ l.k = 8 := by simpa using h35
   refine Q4 ?_; refine zQ ?_
   exact Qm (by rw [QtT hst hk]; simp)
  have hB := h35
  refine QF ?_
  refine zq ?_ ?_ <;> intro h40
  ·
   have hk : l.k = 5 := by simpa using h40
   refine Q4 ?_; refine zQ ?_
   exact Qm (by rw [QtB hst hk]; simp)
  have h5 := h40
  refine QF ?_
  refine zq ?_ ?_ <;> intro h45
  ·
   have hk : l.k = 6 := by simpa using h45
   refine Q4 ?_
   refine zc 71 ?_ ?_ <;> intro h49
   ·
    refine JA ?_; refine zQ ?_
    exact Qm (by rw [Qrj hst hk]; simp_all)
   refine JA ?_; refine zQ ?_
   exact Qm (by rw [Qrj hst hk]; simp_all)
  have h6 := h45
  refine QF ?_
  refine zq ?_ ?_ <;> intro h57
  ·
   have hk : l.k = 7 := by simpa using h57
   refine Q4 ?_
   refine zc 86 ?_ ?_ <;> intro h61
   ·
    refine Q8 ?_; refine zQ ?_
    exact Qm (by rw [Qrv hst hk]; simp_all)
   refine Q8 ?_; refine zQ ?_
   exact Qm (by rw [Qrv hst hk]; simp_all)
  have h7 := h57
  refine QF ?_
  refine zq ?_ ?_ <;> intro h66
  rotate_left
  ·
   have h10 := h66
   refine Qv ?_; refine zQ ?_
   exact Qm (QrT (by unfold Yz X8 Ji; simp_all)).symm
  have hk : l.k = 10 := by simpa using h66
  refine Q4 ?_
  refine zc 98 ?_ ?_ <;> intro h70
  ·
   refine Q8 ?_; refine zQ ?_
   exact Qm (by rw [Qmu hst hk]; simp_all)
  refine Q8 ?_; refine zQ ?_
  exact Qm (by rw [Qmu hst hk]; simp_all)
 refine Q8 ?_; refine Qch (⟨[(1, .ptr 0 0)], [(0, .var 26 (Q2 l))], 1⟩) (Jd l = false) ?_ ?_
 ·
  refine QF ?_
  refine zc 14 ?_ ?_ <;> intro h77
  rotate_left
  ·
   refine Ki ?_
   refine zc 28 ?_ ?_ <;> intro h93
   ·
    refine Q4 ?_
    refine zq ?_ ?_ <;> intro h97
    ·
     refine Qs ?_; refine zQ ?_
     exact Qm (Qaf (by first | (simp_all [Jd]; done) | (simp_all [Jd]; omega))).symm
    refine Xn ?_
    exact ⟨(by first | (simp_all [Jd]; done) | (simp_all [Jd]; omega)), Qa rfl (Xv trivial) ⟨rfl, rfl, rfl, trivial⟩⟩
   refine XN ?_; refine Xn ?_
   exact ⟨(by first | (simp_all [Jd]; done) | (simp_all [Jd]; omega)), Qa rfl (Xv trivial) ⟨rfl, rfl, rfl, trivial⟩⟩
  refine Qv ?_
  refine zc 18 ?_ ?_ <;> intro h80
  ·
   refine Qs ?_; refine uP (XG (m0 (n1 h77))) (Xu rfl rfl h80 rfl) ?_; refine QeT ?_; refine zQ ?_
   exact Qm (Qaf (by first | (simp_all [Jd]; done) | (simp_all [Jd]; omega))).symm
  refine Qs ?_; refine uP (XG (m0 (n1 h77))) (Xw rfl rfl h80 rfl) ?_; refine Qu ?_
  refine zc 24 ?_ ?_ <;> intro h83
  ·
   refine QdD ?_; refine zQ ?_
   exact Qm (Qaf (by first | (simp_all [Jd]; done) | (simp_all [Jd]; omega))).symm
  refine Qv ?_
  refine zc 28 ?_ ?_ <;> intro h86
  ·
   refine Qv ?_; refine uP (Xj h83) (Xu rfl rfl h86 rfl) ?_; refine Qu ?_
   refine zq ?_ ?_ <;> intro h90
   ·
    refine Qs ?_; refine zQ ?_
    exact Qm (Qaf (by first | (simp_all [Jd]; done) | (simp_all [Jd]; omega))).symm
   refine Xn ?_
   exact ⟨(by first | (simp_all [Jd]; done) | (simp_all [Jd]; omega)), Qa rfl (Xv trivial) ⟨rfl, rfl, rfl, trivial⟩⟩
  refine Qv ?_; refine uP (Xj h83) (Xw rfl rfl h86 rfl) ?_; refine Qs ?_; refine Xn ?_
  exact ⟨(by first | (simp_all [Jd]; done) | (simp_all [Jd]; omega)), Qa rfl (Xv trivial) ⟨rfl, rfl, rfl, trivial⟩⟩
 intro hst
 refine Q4 ?_
 refine Wm (⟨[(1, .ptr 0 0), (36, i64 l.k), (37, bl (l.k == 1 || l.k == 2 || l.k == 3 || l.k == 9))], [(0, .var 26 (Q2 l))], 1⟩) ?_ ?_
 ·
  refine QF ?_
  refine zq ?_ ?_ <;> intro h101
  ·
   refine Xn ?_
   exact Qa rfl (JI ⟨(YT (by simp_all)), rfl, trivial⟩) ⟨rfl, rfl, rfl, trivial⟩
  refine QF ?_
  refine zq ?_ ?_ <;> intro h102
  ·
   refine Xn ?_
   exact Qa rfl (JI ⟨(YT (by simp_all)), rfl, trivial⟩) ⟨rfl, rfl, rfl, trivial⟩
  refine QF ?_
  refine zq ?_ ?_ <;> intro h103
  ·
   refine Xn ?_
   exact Qa rfl (JI ⟨(YT (by simp_all)), rfl, trivial⟩) ⟨rfl, rfl, rfl, trivial⟩
  refine Qs ?_; refine Qb ?_
  exact Qa rfl (JI ⟨(YT (by simp_all)), rfl, trivial⟩) ⟨rfl, rfl, rfl, trivial⟩
 refine zq ?_ ?_ <;> intro h107
 ·
  have hk : l.k = 1 ∨ l.k = 2 ∨ l.k = 3 ∨ l.k = 9 := by simpa [or_assoc] using h107
  refine Q4 ?_
  refine zc 46 ?_ ?_ <;> intro h111
  ·
   refine Q8 ?_; refine zQ ?_
   exact Qm (by rw [Qqg hst hk]; simp_all)
  refine Q8 ?_; refine zQ ?_
  exact Qm (by rw [Qqg hst hk]; simp_all)
 have hA := h107
 refine Wm (⟨[(1, .ptr 0 0), (36, i64 l.k), (52, bl (l.k == 4 || l.k == 8))], [(0, .var 26 (Q2 l))], 1⟩) ?_ ?_
 ·
  refine QF ?_
  refine zq ?_ ?_ <;> intro h116
  ·
   refine Xn ?_
   exact Qa rfl (JI ⟨(YT (by simp_all)), rfl, trivial⟩) ⟨rfl, rfl, rfl, trivial⟩
  refine Qs ?_; refine Qb ?_
  exact Qa rfl (JI ⟨(YT (by simp_all)), rfl, trivial⟩) ⟨rfl, rfl, rfl, trivial⟩
 refine zq ?_ ?_ <;> intro h120
 ·
  have hk : l.k = 4 ∨ l.k = 8 := by simpa using h120
  refine Q4 ?_; refine zQ ?_
  exact Qm (by rw [QtT hst hk]; simp)
 have hB := h120
 refine QF ?_
 refine zq ?_ ?_ <;> intro h125
 ·
  have hk : l.k = 5 := by simpa using h125
  refine Q4 ?_; refine zQ ?_
  exact Qm (by rw [QtB hst hk]; simp)
 have h5 := h125
 refine QF ?_
 refine zq ?_ ?_ <;> intro h130
 ·
  have hk : l.k = 6 := by simpa using h130
  refine Q4 ?_
  refine zc 71 ?_ ?_ <;> intro h134
  ·
   refine JA ?_; refine zQ ?_
   exact Qm (by rw [Qrj hst hk]; simp_all)
  refine JA ?_; refine zQ ?_
  exact Qm (by rw [Qrj hst hk]; simp_all)
 have h6 := h130
 refine QF ?_
 refine zq ?_ ?_ <;> intro h142
 ·
  have hk : l.k = 7 := by simpa using h142
  refine Q4 ?_
  refine zc 86 ?_ ?_ <;> intro h146
  ·
   refine Q8 ?_; refine zQ ?_
   exact Qm (by rw [Qrv hst hk]; simp_all)
  refine Q8 ?_; refine zQ ?_
  exact Qm (by rw [Qrv hst hk]; simp_all)
 have h7 := h142
 refine QF ?_
 refine zq ?_ ?_ <;> intro h151
 rotate_left
 ·
  have h10 := h151
  refine Qv ?_; refine zQ ?_
  exact Qm (QrT (by unfold Yz X8 Ji; simp_all)).symm
 have hk : l.k = 10 := by simpa using h151
 refine Q4 ?_
 refine zc 98 ?_ ?_ <;> intro h155
 ·
  refine Q8 ?_; refine zQ ?_
  exact Qm (by rw [Qmu hst hk]; simp_all)
 refine Q8 ?_; refine zQ ?_
 exact Qm (by rw [Qmu hst hk]; simp_all)
end Go.Proofs.YtnkkokmmeplbgaaGreat
