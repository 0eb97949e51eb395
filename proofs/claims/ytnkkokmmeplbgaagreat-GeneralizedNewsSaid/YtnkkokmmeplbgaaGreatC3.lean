/-
  Contracts of the reference: descriptions are checked.
-/
import Derived.Test.YtnkkokmmeplbgaaGreatC1
import Derived.Test.YtnkkokmmeplbgaaGreatB3
import Derived.Test.YtnkkokmmeplbgaaGreatB11
namespace Go.Proofs.YtnkkokmmeplbgaaGreat
set_option maxRecDepth 100000
set_option maxHeartbeats 1000000
open Go.RowKit
instance tpairTick : Qkl Tryz.prog 192 := ⟨by kernel_rfl, by kernel_rfl, by kernel_rfl, by kernel_rfl⟩
theorem Qee (s : Nm) : FC Tryz.prog 207 [sv s] (bl (Xb s)) := by
 refine Qe [2] Tryz.func207 rfl rfl 56 Tryz.ntmps207 (Nat.le_of_ble_eq_true rfl) ?_
 intro E hN
 refine Jc ?_
 refine zc 7 ?_ ?_ <;> intro h3
 ·
  have hv := Qay (s := s) (.inl (by have := of_decide_eq_true h3; omega))
  refine QeN ?_; refine zQ ?_
  exact Qq hv.symm
 obtain ⟨c0, hc0, hh⟩ := QmO (s := s) (by have := of_decide_eq_false h3; omega)
 refine QA ?_
 refine zc 12 ?_ ?_ <;> intro h5
 ·
  have hv := Qay (s := s) (.inr (.inl (by have := of_decide_eq_true h5; omega)))
  refine KJ ?_; refine zQ ?_
  exact Qq hv.symm
 have h16 : s.length ≤ 16 := by have := of_decide_eq_false h5; omega
 refine Yb ?_; refine uP (XF h5) (Yq rfl rfl rfl 0 rfl _ hc0) ?_; refine Qx ?_
 refine zc 17 ?_ ?_ <;> intro h7
 ·
  have hv := Qay (s := s) (.inr (.inr (by rw [hh]; have := of_decide_eq_true h7; rw [decide_eq_false (by omega)]; rfl)))
  refine Jy ?_; refine zQ ?_
  exact Qq hv.symm
 have h97 : 97 ≤ (c0.toNat : Int) := by have := of_decide_eq_false h7; omega
 refine Yb ?_; refine uP (XF h7) (Yq rfl rfl rfl 0 rfl _ hc0) ?_; refine Qx ?_
 refine zq ?_ ?_ <;> intro h9
 ·
  have hv := Qay (s := s) (.inr (.inr (by rw [hh]; have := of_decide_eq_true h9; rw [decide_eq_false (show ¬ (c0.toNat : Int) ≤ 122 by omega), Bool.and_false])))
  refine Qx ?_; refine zQ ?_
  exact Qq hv.symm
 have hv : Xb s = s.all (fun c => XJ c.toNat) := by
  have := of_decide_eq_false h9
  rw [Xb, hh, decide_eq_true h16, decide_eq_true h97, decide_eq_true (by omega)]; rfl
 refine Xj ?_
 refine Qo (fun x : {k : Nat // k ≤ (s).length ∧ (s.drop k).all (fun c => XJ c.toNat) = s.all (fun c => XJ c.toNat)} => ⟨[(0, sv s), (3, i64 (x.1 : Nat))], [], 0⟩) (fun x => (s).length - x.1) (⟨0, Nat.zero_le _, by simp⟩) ?_ ?_
 ·
  exact Qa rfl (Yv trivial) trivial
 rintro ⟨k, hk, hg⟩
 dsimp only
 refine Jf ?_
 refine zq ?_ ?_ <;> intro h13
 rotate_left
 ·
  have hge : (s).length ≤ k := by simpa using h13
  refine Qz ?_; refine zQ ?_
  exact Qq (by rw [hv, XZ hg hge])
 have hlt : k < (s).length := by simpa using h13
 obtain ⟨x, hx⟩ := Qr hlt
 refine Xj ?_; refine zP (Yq rfl rfl rfl k rfl _ hx) ?_; refine QC ?_
 refine zc 32 ?_ ?_ <;> intro h15
 ·
  refine Jf ?_; refine zP (Yq rfl rfl rfl k rfl _ hx) ?_; refine QC ?_
  refine zc 43 ?_ ?_ <;> intro h17
  ·
   refine Jy ?_; refine zP (Yq rfl rfl rfl k rfl _ hx) ?_; refine Qx ?_
   refine zq ?_ ?_ <;> intro h19
   ·
    refine Qx ?_; refine zQ ?_
    exact Qq (by rw [hv, Q1 hg hx (by first | (simp_all; done) | (simp_all [XJ]; done) | (simp_all [XJ]; omega))])
   refine QA ?_; refine Qc ?_
   exact ⟨⟨k + 1, hlt, Xx hg hx (by first | (simp_all; done) | (simp_all [XJ]; done) | (simp_all [XJ]; omega))⟩, Qa rfl (Xr ⟨(Xe (by dsimp only; omega)), rfl, trivial⟩) trivial, by dsimp only; omega⟩
  refine QC ?_; refine uP (XF h17) (Yq rfl rfl rfl k rfl _ hx) ?_; refine Qz ?_
  refine zc 50 ?_ ?_ <;> intro h22
  ·
   refine QC ?_; refine uP (Xo h22) (Yq rfl rfl rfl k rfl _ hx) ?_; refine Qx ?_
   refine zq ?_ ?_ <;> intro h24
   ·
    refine Qx ?_; refine zQ ?_
    exact Qq (by rw [hv, Q1 hg hx (by first | (simp_all; done) | (simp_all [XJ]; done) | (simp_all [XJ]; omega))])
   refine QA ?_; refine Qc ?_
   exact ⟨⟨k + 1, hlt, Xx hg hx (by first | (simp_all; done) | (simp_all [XJ]; done) | (simp_all [XJ]; omega))⟩, Qa rfl (Xr ⟨(Xe (by dsimp only; omega)), rfl, trivial⟩) trivial, by dsimp only; omega⟩
  refine Jn ?_; refine Qc ?_
  exact ⟨⟨k + 1, hlt, Xx hg hx (by first | (simp_all; done) | (simp_all [XJ]; done) | (simp_all [XJ]; omega))⟩, Qa rfl (Xr ⟨(Xe (by dsimp only; omega)), rfl, trivial⟩) trivial, by dsimp only; omega⟩
 refine QC ?_; refine uP (XF h15) (Yq rfl rfl rfl k rfl _ hx) ?_; refine Qx ?_
 refine zc 38 ?_ ?_ <;> intro h28
 rotate_left
 ·
  refine QdU ?_; refine Qc ?_
  exact ⟨⟨k + 1, hlt, Xx hg hx (by first | (simp_all; done) | (simp_all [XJ]; done) | (simp_all [XJ]; omega))⟩, Qa rfl (Xr ⟨(Xe (by dsimp only; omega)), rfl, trivial⟩) trivial, by dsimp only; omega⟩
 refine QC ?_; refine uP (Xo h28) (Yq rfl rfl rfl k rfl _ hx) ?_; refine QC ?_
 refine zc 43 ?_ ?_ <;> intro h30
 ·
  refine Qz ?_; refine uP (Xo h28) (Xf rfl rfl h30 rfl) ?_; refine Qz ?_; refine zP (Yq rfl rfl rfl k rfl _ hx) ?_; refine Qx ?_
  refine zq ?_ ?_ <;> intro h32
  ·
   refine Qx ?_; refine zQ ?_
   exact Qq (by rw [hv, Q1 hg hx (by first | (simp_all; done) | (simp_all [XJ]; done) | (simp_all [XJ]; omega))])
  refine QA ?_; refine Qc ?_
  exact ⟨⟨k + 1, hlt, Xx hg hx (by first | (simp_all; done) | (simp_all [XJ]; done) | (simp_all [XJ]; omega))⟩, Qa rfl (Xr ⟨(Xe (by dsimp only; omega)), rfl, trivial⟩) trivial, by dsimp only; omega⟩
 refine QC ?_; refine uP (XF h30) (Yq rfl rfl rfl k rfl _ hx) ?_; refine Yb ?_; refine uP (Xo h28) (Xl rfl rfl h30 rfl) ?_; refine QC ?_
 refine zc 50 ?_ ?_ <;> intro h35
 ·
  refine QC ?_; refine uP (Xo h35) (Yq rfl rfl rfl k rfl _ hx) ?_; refine Qx ?_
  refine zq ?_ ?_ <;> intro h37
  ·
   refine Qx ?_; refine zQ ?_
   exact Qq (by rw [hv, Q1 hg hx (by first | (simp_all; done) | (simp_all [XJ]; done) | (simp_all [XJ]; omega))])
  refine QA ?_; refine Qc ?_
  exact ⟨⟨k + 1, hlt, Xx hg hx (by first | (simp_all; done) | (simp_all [XJ]; done) | (simp_all [XJ]; omega))⟩, Qa rfl (Xr ⟨(Xe (by dsimp only; omega)), rfl, trivial⟩) trivial, by dsimp only; omega⟩
 refine Jn ?_; refine Qc ?_
 exact ⟨⟨k + 1, hlt, Xx hg hx (by first | (simp_all; done) | (simp_all [XJ]; done) | (simp_all [XJ]; omega))⟩, Qa rfl (Xr ⟨(Xe (by dsimp only; omega)), rfl, trivial⟩) trivial, by dsimp only; omega⟩
theorem Qfg (l : List Nm) (s : Nm) : FC Tryz.prog 208 [XN l, sv s] (bl (XV l s)) := by
 refine Qe [4] Tryz.func208 rfl rfl 18 Tryz.ntmps208 (Nat.le_of_ble_eq_true rfl) ?_
 intro E hN
 refine X7 0 rfl (fun hl0 => ?_)
 refine XM ?_
 refine Qo (fun x : {k : Nat // k ≤ (l).length ∧ (l.drop k).any (s == ·) = l.any (s == ·)} => ⟨[(0, XN l), (1, sv s), (5, i64 (x.1 : Nat))], [], 0⟩) (fun x => (l).length - x.1) (⟨0, Nat.zero_le _, by simp⟩) ?_ ?_
 ·
  exact Qa rfl (Ya trivial) trivial
 rintro ⟨k, hk, hg⟩
 dsimp only
 refine Jf ?_
 refine zq ?_ ?_ <;> intro h7
 rotate_left
 ·
  have hge : (l).length ≤ k := by simpa using h7
  refine Qz ?_; refine zQ ?_
  exact Qq (Ql2 hg hge).symm
 have hlt : k < (l).length := by simpa using h7
 obtain ⟨x, hx⟩ := Qr hlt
 refine Xj ?_; refine zP (Qf rfl rfl rfl k rfl _ (Qu hx) rfl) ?_; refine Qz ?_
 refine zq ?_ ?_ <;> intro h10
 ·
  have hxs : x = s := by simpa using h10
  refine Qx ?_; refine zQ ?_
  exact Qq (QmE hg hx (by rw [hxs]; simp)).symm
 have hxs : x ≠ s := by simpa using h10
 refine QA ?_; refine Qc ?_
 exact ⟨⟨k + 1, hlt, Qn6 hg hx (beq_eq_false_iff_ne.2 fun e => hxs e.symm)⟩, Qa rfl (Yv ⟨(Xe (by dsimp only; omega)), rfl, trivial⟩) trivial, by dsimp only; omega⟩
theorem QiU {l : List Nm} {k : Nat} {x y : Nm} (hk : 0 < k) (hg : Qn (l.drop (k - 1)) = Qn l) (hy : l[k - 1]? = some y) (hx : l[k]? = some x) : Qn l = (Op.bytesLess y x && Qn (l.drop (k + 1 - 1))) := by
 rw [QbR hk hg hy hx, Nat.add_sub_cancel]
def WK (l : List Nm) : Bool := l.all Xb && Qn l
theorem Qh8 (l : List Nm) : FC Tryz.prog 209 [XN l] (bl (WK l)) := by
 refine Qe [2] Tryz.func209 rfl rfl 32 Tryz.ntmps209 (Nat.le_of_ble_eq_true rfl) ?_
 intro E hN
 refine X7 0 rfl (fun hl0 => ?_)
 refine XM ?_
 refine Qo (fun x : {k : Nat // k ≤ l.length ∧ (l.drop k).all Xb = l.all Xb ∧ Qn (l.drop (k - 1)) = Qn l} => ⟨[(0, XN l), (3, i64 (x.1 : Nat))], [], 0⟩) (fun x => l.length - x.1) (⟨0, Nat.zero_le _, rfl, rfl⟩) ?_ ?_
 ·
  exact Qa rfl (Yv trivial) trivial
 rintro ⟨k, hk, hg, hg2⟩
 dsimp only
 refine Jf ?_
 refine zq ?_ ?_ <;> intro h5
 rotate_left
 ·
  have hge : (l).length ≤ k := by simpa using h5
  refine Qz ?_; refine zQ ?_
  exact Qq (by rw [WK, XZ hg hge, QdH hg2 hge]; rfl)
 have hlt : k < (l).length := by simpa using h5
 obtain ⟨x, hx⟩ := Qr hlt
 refine Qz ?_; refine Qg 21 (by kernel_rfl) (by kernel_rfl) ?_; refine QC ?_; refine zp (Qf rfl rfl rfl k rfl _ (Qu hx) rfl) ?_
 refine zl ?_; refine zp (Qb (Qee x) rfl rfl rfl) ?_; refine QC ?_
 refine zd 16 ?_ ?_ <;> intro h8
 ·
  have hno : WK l = false := by rw [WK, Q1 hg hx (n1 h8)]; rfl
  refine KJ ?_; change Ql _ _ _ _ _ _; refine Xk ?_; refine zQ ?_
  exact Qq hno.symm
 have hv : Xb x = true := n0 h8
 refine Qx ?_
 refine zd 19 ?_ ?_ <;> intro h9
 rotate_left
 ·
  have hk0 : k = 0 := by have := of_decide_eq_false h9; omega
  have hnx : Qn (l.drop (k + 1 - 1)) = Qn l := by rw [hk0]; rfl
  refine XM ?_; refine vP (XF (m1 (n0 h8))) (Xl rfl rfl h9 rfl) ?_; change Ql _ _ _ _ _ _; refine Jf ?_; refine Qc ?_
  exact ⟨⟨k + 1, hlt, Xx hg hx hv, hnx⟩, Qa rfl (Xr ⟨(Xe (by dsimp only; omega)), rfl, trivial⟩) trivial, by dsimp only; omega⟩
 have hk0 : 0 < k := by have := of_decide_eq_true h9; omega
 obtain ⟨y, hy⟩ := Qr (show k - 1 < l.length by omega)
 have hrs := QiU hk0 hg2 hy hx
 refine QC ?_; refine vP (Xo h9) (QbO rfl rfl rfl (by omega)) ?_; refine vP (Xo h9) (Qf rfl rfl rfl (k - 1) (by omega) _ (Qu hy) rfl) ?_
 refine Qx ?_; refine vP (Xo h9) (Qf rfl rfl rfl k rfl _ (Qu hx) rfl) ?_; refine QC ?_
 refine vP (XF (m1 (n0 h8))) (Xf rfl rfl h9 rfl) ?_; change Ql _ _ _ _ _ _; refine QC ?_
 refine zq ?_ ?_ <;> intro h15
 ·
  have hno : WK l = false := by rw [WK, hrs]; simp_all
  refine Qx ?_; refine zQ ?_
  exact Qq hno.symm
 have hnx : Qn (l.drop (k + 1 - 1)) = Qn l := by rw [hrs]; simp_all
 refine QA ?_; refine Qc ?_
 exact ⟨⟨k + 1, hlt, Xx hg hx hv, hnx⟩, Qa rfl (Xr ⟨(Xe (by dsimp only; omega)), rfl, trivial⟩) trivial, by dsimp only; omega⟩
theorem Qi6 (l : Qs) (ih : ∀ q ∈ l.ps, FC Tryz.prog 178 [.agg (QP q)] (bl (chainB q))) : FC Tryz.prog 178 [.agg (QP l)] (bl (chainB l)) := by
 refine Qe [2] Tryz.func178 rfl rfl 29 Tryz.ntmps178 (Nat.le_of_ble_eq_true rfl) ?_
 intro E hN
 refine Jn ?_
 refine Yr (⟨[(1, .ptr 0 0), (4, i64 l.k), (5, bl (l.k == 1 || l.k == 2 || l.k == 3))], [(0, .var 26 (QP l))], 1⟩) ?_ ?_
 ·
  refine QA ?_
  refine zq ?_ ?_ <;> intro h5
  ·
   refine QN ?_
   exact Qa rfl (Yv ⟨(J7 (by simp_all)), rfl, trivial⟩) ⟨rfl, rfl, rfl, trivial⟩
  refine QA ?_
  refine zq ?_ ?_ <;> intro h6
  ·
   refine QN ?_
   exact Qa rfl (Yv ⟨(J7 (by simp_all)), rfl, trivial⟩) ⟨rfl, rfl, rfl, trivial⟩
  refine Qx ?_; refine Qc ?_
  exact Qa rfl (Yv ⟨(J7 (by simp_all)), rfl, trivial⟩) ⟨rfl, rfl, rfl, trivial⟩
 refine zq ?_ ?_ <;> intro h10
 ·
  have h123 := h10
  refine Qx ?_; refine zQ ?_
  exact Qq (Qbb h123).symm
 have h123 : (l.k == 1 || l.k == 2 || l.k == 3) = false := h10
 refine QA ?_
 refine zq ?_ ?_ <;> intro h11
 rotate_left
 ·
  have h7 := h11
  refine Qz ?_; refine zQ ?_
  exact Qq (by
   simp only [Bool.or_eq_false_iff] at h123
   exact (Ji h123.1.1 h123.1.2 h123.2 (.inl h7)).symm)
 have h7 := h11
 refine Xj ?_
 refine zc 15 ?_ ?_ <;> intro h15
 rotate_left
 ·
  have h72 : chainB l = false := by
   have e := h15
   simp only [Bool.or_eq_false_iff] at h123
   exact Ji h123.1.1 h123.1.2 h123.2 (.inr (by intro e2; simp [e2] at e))
  refine KJ ?_; refine zQ ?_
  exact Qq (by first | exact h72.symm | (rw [h72]; simp_all))
 obtain ⟨a, b, hps⟩ : ∃ a b, l.ps = [a, b] := by
  have h2 : l.ps.length = 2 := by have e := h15; simp at e; omega
  match l.ps, h2 with
  | [a, b], _ => exact ⟨a, b, rfl⟩
 have ha : l.ps[0]? = some a := by rw [hps]; rfl
 have hb : l.ps[1]? = some b := by rw [hps]; rfl
 have h72 := Qab h7 hps
 refine QC ?_; refine uP (Xo h15) (Qf rfl rfl rfl 0 rfl _ (Xv ha) rfl) ?_; refine Yb ?_
 refine uP (Xo h15) (Qb (ih a (List.mem_of_getElem? ha)) rfl rfl rfl) ?_; refine QC ?_
 refine zc 22 ?_ ?_ <;> intro h20
 ·
  refine QC ?_; refine uP (Xo h20) (Qf rfl rfl rfl 1 rfl _ (Xv hb) rfl) ?_; refine Yb ?_
  refine uP (Xo h20) (Qb (ih b (List.mem_of_getElem? hb)) rfl rfl rfl) ?_; refine QC ?_; refine zQ ?_
  exact Qq (by first | exact h72.symm | (rw [h72]; simp_all))
 refine Xj ?_; refine zQ ?_
 exact Qq (by first | exact h72.symm | (rw [h72]; simp_all))
theorem QaN (l : Qs) : FC Tryz.prog 178 [.agg (QP l)] (bl (chainB l)) := Qi6 l (fun q hq => QaN q)
termination_by l
decreasing_by exact Qs.sizeOf_ps ‹_›
end Go.Proofs.YtnkkokmmeplbgaaGreat
namespace Go.Proofs.YtnkkokmmeplbgaaGreat
set_option maxRecDepth 100000
set_option maxHeartbeats 1000000
open Go.RowKit
section
variable {l : Qs}
def Xc (l : Qs) : Bool := (!(l.k == 2 || l.k == 3) && (l.lo != 0 || l.hi != 0)) || (l.k != 10 && ((l.rs.length : Int) != 0))
theorem Kp (h : Xc l = true) : (QU l == 0) = false := by
 unfold QU
 split
 ·have : JV l = true := by
   unfold JV
   unfold Xc at h
   simp only [Bool.or_eq_true, Bool.and_eq_true, Bool.not_eq_true', bne_iff_ne, ne_eq] at h ⊢
   rcases h with h | h
   ·right
    refine ⟨?_, ?_⟩
    ·unfold Q8; exact h.1
    exact h.2
   left; right
   refine ⟨by simpa using h.1, decide_eq_true (by have := h.2; omega)⟩
  rw [this]; rfl
 rfl
theorem Qed (h : Xc l = false) (hk : Jt l.k = true) : (QU l == 0) = (((l.ps.length : Int) == XO l) && !(!Xh l.k && decide ((l.nm.length : Int) > 0)) && !Jq l) := by
 unfold Xc at h
 simp only [Bool.or_eq_false_iff, Bool.and_eq_false_iff, Bool.not_eq_false', bne_eq_false_iff_eq] at h
 have h1 : (!(l.k == 10) && decide ((l.rs.length : Int) > 0)) = false := by
  rcases h.2 with h2 | h2
  ·rw [h2]; rfl
  rw [decide_eq_false (by omega), Bool.and_false]
 have h2 : (!Q8 l.k && (l.lo != 0 || l.hi != 0)) = false := by
  rcases h.1 with h3 | h3
  ·unfold Q8; rw [h3]; rfl
  rw [h3.1, h3.2]; simp
 unfold QU JV bne
 unfold bne at h2
 rw [if_pos hk, h1, h2, Bool.or_false, Bool.or_false]
 cases ((l.ps.length : Int) == XO l) <;> cases (!Xh l.k && decide ((l.nm.length : Int) > 0)) <;> cases Jq l <;> rfl
theorem Qnr (hk : Jt l.k = false) : (QU l == 0) = false := by
 unfold QU
 rw [if_neg (by rw [hk]; decide)]; rfl
theorem gt0 {n : Nat} : decide ((n : Int) > 0) = !((n : Int) == 0) := by
 by_cases h : n = 0
 ·subst h; rfl
 rw [decide_eq_true (by omega), beq_eq_false_iff_ne.2 (by omega)]; rfl
theorem QdF (h5 : l.k ≠ 5) (h7 : l.k ≠ 7) (h6 : l.k ≠ 6) : XO l = 0 := by unfold XO; rw [if_neg h5, if_neg h7, if_neg h6]
theorem Qmb (h : Xc l = false) (hk : l.k = 1 ∨ l.k = 2 ∨ l.k = 3 ∨ l.k = 9) : (QU l == 0) = ((l.nm.length : Int) == 0 && (l.ps.length : Int) == 0) := by
 rw [Qed h (by rcases hk with hk | hk | hk | hk <;> rw [hk] <;> rfl), QdF (by omega) (by omega) (by omega), gt0, show Xh l.k = false by rcases hk with hk | hk | hk | hk <;> rw [hk] <;> rfl, show Jq l = false by unfold Jq; rcases hk with hk | hk | hk | hk <;> rw [hk] <;> rfl]
 cases ((l.nm.length : Int) == 0) <;> cases ((l.ps.length : Int) == 0) <;> rfl
theorem QoN (h : Xc l = false) (hk : l.k = 4 ∨ l.k = 8) : (QU l == 0) = ((l.ps.length : Int) == 0) := by
 rw [Qed h (by rcases hk with hk | hk <;> rw [hk] <;> rfl), QdF (by omega) (by omega) (by omega), show Xh l.k = true by rcases hk with hk | hk <;> rw [hk] <;> rfl, show Jq l = false by unfold Jq; rcases hk with hk | hk <;> rw [hk] <;> rfl]
 cases ((l.ps.length : Int) == 0) <;> rfl
theorem Qov (h : Xc l = false) (hk : l.k = 5) : (QU l == 0) = ((l.ps.length : Int) == 1) := by
 rw [Qed h (by rw [hk]; rfl), show XO l = 1 by unfold XO; rw [if_pos hk], show Xh l.k = true by rw [hk]; rfl, show Jq l = false by unfold Jq; rw [hk]; rfl]
 cases ((l.ps.length : Int) == 1) <;> rfl
theorem Qmg (h : Xc l = false) (hk : l.k = 6) : (QU l == 0) = (decide ((l.nm.length : Int) > 0) && ((l.nm.length : Int) == l.ps.length)) := by
 rw [Qed h (by rw [hk]; rfl), show XO l = l.nm.length by unfold XO; rw [hk]; rfl, show Xh l.k = true by rw [hk]; rfl, show Jq l = ((l.nm.length : Int) == 0) by unfold Jq; rw [hk]; rfl, gt0, show ((l.ps.length : Int) == l.nm.length) = ((l.nm.length : Int) == l.ps.length) from BEq.comm]
 cases ((l.nm.length : Int) == 0) <;> cases ((l.nm.length : Int) == l.ps.length) <;> rfl
theorem QlS (h : Xc l = false) (hk : l.k = 7) : (QU l == 0) = ((l.nm.length : Int) == 0 && (l.ps.length : Int) == 2) := by
 rw [Qed h (by rw [hk]; rfl), show XO l = 2 by unfold XO; rw [hk]; rfl, gt0, show Xh l.k = false by rw [hk]; rfl, show Jq l = false by unfold Jq; rw [hk]; rfl]
 cases ((l.nm.length : Int) == 0) <;> cases ((l.ps.length : Int) == 2) <;> rfl
theorem Qh2 (h : Xc l = false) (hk : l.k = 10) : (QU l == 0) = (decide ((l.nm.length : Int) > 0) && ((l.ps.length : Int) == 0)) := by
 rw [Qed h (by rw [hk]; rfl), QdF (by omega) (by omega) (by omega), show Xh l.k = true by rw [hk]; rfl, show Jq l = ((l.nm.length : Int) == 0) by unfold Jq; rw [hk]; rfl, gt0]
 cases ((l.nm.length : Int) == 0) <;> cases ((l.ps.length : Int) == 0) <;> rfl
def Qc0 (nm : List Nm) (r : Ru) : Bool := !((r.i.length : Int) == 0) && WK r.i && XV nm r.t && r.i.all (XV nm)
def Kg (l : Qs) : Bool := if l.k == 6 then l.nm.zipIdx.all fun q => Xb q.1 && !XV (l.nm.take q.2) q.1 else WK l.nm && l.rs.all (Qc0 l.nm)
theorem Qd7 : ∀ (l : List Nm) (n : Nat), ((l.zipIdx n).all fun q => Xb q.1) = l.all Xb
 | [], _ => rfl
 | x :: r, n => by rw [List.zipIdx_cons, List.all_cons, List.all_cons, Qd7 r]
theorem Qam (hs : QU l = 0) : Kg l = (Xp l == 0) := by
 have hrs : l.k ≠ 10 → l.rs = [] := fun hk => by
  cases hst : Xc l
  ·unfold Xc at hst
   simp only [Bool.or_eq_false_iff, Bool.and_eq_false_iff, bne_eq_false_iff_eq] at hst
   rcases hst.2 with h | h
   ·exact absurd h hk
   exact List.eq_nil_of_length_eq_zero (by omega)
  have := Kp hst
  rw [hs] at this; cases this
 unfold Kg Xp
 by_cases h6 : l.k = 6
 ·rw [if_pos (by rw [h6]; rfl), hrs (by omega)]
  have : l.nm.zipIdx.all (Ke l) = l.nm.zipIdx.all fun q => Xb q.1 && !XV (l.nm.take q.2) q.1 := by
   congr 1
   funext q
   unfold Ke
   rw [h6]; rfl
  rw [this, h6]
  simp only [beq_self_eq_true, Bool.true_or, Bool.and_true, List.all_nil]
  cases l.nm.zipIdx.all fun q => Xb q.1 && !XV (l.nm.take q.2) q.1 <;> rfl
 have hk6 : (l.k == 6) = false := beq_eq_false_iff_ne.2 h6
 rw [if_neg (by rw [hk6]; decide), hk6]
 have : l.nm.zipIdx.all (Ke l) = l.nm.all Xb := by
  rw [← Qd7 l.nm 0]
  congr 1
  funext q
  unfold Ke
  rw [hk6]; simp
 rw [this, Bool.false_or]
 by_cases hv : l.nm.all Xb = true
 ·have hr : l.rs.all (Qc0 l.nm) = l.rs.all (YD l.nm) := by
   have : ∀ r, Qc0 l.nm r = YD l.nm r := fun r => by
    unfold Qc0 YD WK
    have hsub : Js r.i l.nm = r.i.all (XV l.nm) := rfl
    rw [hsub]
    cases ha : r.i.all (XV l.nm)
    ·simp
    have hva : r.i.all Xb = true := by
     rw [List.all_eq_true] at ha hv ⊢
     exact fun x hx => hv x (Yf.1 (ha x hx))
    rw [hva]
    cases (!((r.i.length : Int) == 0)) <;> cases Qn r.i <;> cases XV l.nm r.t <;> rfl
   congr 1
   funext r
   exact this r
  unfold WK
  rw [hr, hv]
  cases Qn l.nm <;> cases l.rs.all (YD l.nm) <;> rfl
 rw [Bool.not_eq_true] at hv
 unfold WK
 rw [hv]; rfl
end
theorem Qdq (l : Qs) : FC Tryz.prog 176 [.agg (QP l)] (bl (QU l == 0)) := by
 refine Qe [2] Tryz.func176 rfl rfl 104 Tryz.ntmps176 (Nat.le_of_ble_eq_true rfl) ?_
 intro E hN
 refine Jc ?_
 refine zc 7 ?_ ?_ <;> intro h5
 ·
  refine Xk ?_; refine QbM (⟨[(1, .ptr 0 0)], [(0, .var 26 (QP l))], 1⟩) (Xc l = false) ?_ ?_
  ·
   refine QeN ?_
   refine zc 28 ?_ ?_ <;> intro h8
   ·
    refine Xj ?_
    refine zq ?_ ?_ <;> intro h12
    ·
     refine Qx ?_; refine zQ ?_
     exact Qq (Kp (by first | (simp_all [Xc]; done) | (simp_all [Xc]; omega))).symm
    refine QN ?_
    exact ⟨(by first | (simp_all [Xc]; done) | (simp_all [Xc]; omega)), Qa rfl (Xr trivial) ⟨rfl, rfl, rfl, trivial⟩⟩
   refine Jf ?_; refine QN ?_
   exact ⟨(by first | (simp_all [Xc]; done) | (simp_all [Xc]; omega)), Qa rfl (Xr trivial) ⟨rfl, rfl, rfl, trivial⟩⟩
  intro hst
  refine Xj ?_
  refine Yr (⟨[(1, .ptr 0 0), (36, i64 l.k), (37, bl (l.k == 1 || l.k == 2 || l.k == 3 || l.k == 9))], [(0, .var 26 (QP l))], 1⟩) ?_ ?_
  ·
   refine QA ?_
   refine zq ?_ ?_ <;> intro h16
   ·
    refine QN ?_
    exact Qa rfl (Yv ⟨(J7 (by simp_all)), rfl, trivial⟩) ⟨rfl, rfl, rfl, trivial⟩
   refine QA ?_
   refine zq ?_ ?_ <;> intro h17
   ·
    refine QN ?_
    exact Qa rfl (Yv ⟨(J7 (by simp_all)), rfl, trivial⟩) ⟨rfl, rfl, rfl, trivial⟩
   refine QA ?_
   refine zq ?_ ?_ <;> intro h18
   ·
    refine QN ?_
    exact Qa rfl (Yv ⟨(J7 (by simp_all)), rfl, trivial⟩) ⟨rfl, rfl, rfl, trivial⟩
   refine Qx ?_; refine Qc ?_
   exact Qa rfl (Yv ⟨(J7 (by simp_all)), rfl, trivial⟩) ⟨rfl, rfl, rfl, trivial⟩
  refine zq ?_ ?_ <;> intro h22
  ·
   have hk : l.k = 1 ∨ l.k = 2 ∨ l.k = 3 ∨ l.k = 9 := by simpa [or_assoc] using h22
   refine Xj ?_
   refine zc 46 ?_ ?_ <;> intro h26
   ·
    refine Xk ?_; refine zQ ?_
    exact Qq (by rw [Qmb hst hk]; simp_all)
   refine Xk ?_; refine zQ ?_
   exact Qq (by rw [Qmb hst hk]; simp_all)
  have hA := h22
  refine Yr (⟨[(1, .ptr 0 0), (36, i64 l.k), (52, bl (l.k == 4 || l.k == 8))], [(0, .var 26 (QP l))], 1⟩) ?_ ?_
  ·
   refine QA ?_
   refine zq ?_ ?_ <;> intro h31
   ·
    refine QN ?_
    exact Qa rfl (Yv ⟨(J7 (by simp_all)), rfl, trivial⟩) ⟨rfl, rfl, rfl, trivial⟩
   refine Qx ?_; refine Qc ?_
   exact Qa rfl (Yv ⟨(J7 (by simp_all)), rfl, trivial⟩) ⟨rfl, rfl, rfl, trivial⟩
  refine zq ?_ ?_ <;> intro h35
  ·
   have hk : l.k = 4 ∨ l.k = 8 := by simpa using h35
   refine Xj ?_; refine zQ ?_
   exact Qq (by rw [QoN hst hk]; simp)
  have hB := h35
  refine QA ?_
  refine zq ?_ ?_ <;> intro h40
  ·
   have hk : l.k = 5 := by simpa using h40
   refine Xj ?_; refine zQ ?_
   exact Qq (by rw [Qov hst hk]; simp)
  have h5 := h40
  refine QA ?_
  refine zq ?_ ?_ <;> intro h45
  ·
   have hk : l.k = 6 := by simpa using h45
   refine Xj ?_
   refine zc 71 ?_ ?_ <;> intro h49
   ·
    refine Jy ?_; refine zQ ?_
    exact Qq (by rw [Qmg hst hk]; simp_all)
   refine Jy ?_; refine zQ ?_
   exact Qq (by rw [Qmg hst hk]; simp_all)
  have h6 := h45
  refine QA ?_
  refine zq ?_ ?_ <;> intro h57
  ·
   have hk : l.k = 7 := by simpa using h57
   refine Xj ?_
   refine zc 86 ?_ ?_ <;> intro h61
   ·
    refine Xk ?_; refine zQ ?_
    exact Qq (by rw [QlS hst hk]; simp_all)
   refine Xk ?_; refine zQ ?_
   exact Qq (by rw [QlS hst hk]; simp_all)
  have h7 := h57
  refine QA ?_
  refine zq ?_ ?_ <;> intro h66
  rotate_left
  ·
   have h10 := h66
   refine Qz ?_; refine zQ ?_
   exact Qq (Qnr (by unfold Jt Q8 Xh; simp_all)).symm
  have hk : l.k = 10 := by simpa using h66
  refine Xj ?_
  refine zc 98 ?_ ?_ <;> intro h70
  ·
   refine Xk ?_; refine zQ ?_
   exact Qq (by rw [Qh2 hst hk]; simp_all)
  refine Xk ?_; refine zQ ?_
  exact Qq (by rw [Qh2 hst hk]; simp_all)
 refine Xk ?_; refine QbM (⟨[(1, .ptr 0 0)], [(0, .var 26 (QP l))], 1⟩) (Xc l = false) ?_ ?_
 ·
  refine QA ?_
  refine zc 14 ?_ ?_ <;> intro h77
  rotate_left
  ·
   refine KJ ?_
   refine zc 28 ?_ ?_ <;> intro h93
   ·
    refine Xj ?_
    refine zq ?_ ?_ <;> intro h97
    ·
     refine Qx ?_; refine zQ ?_
     exact Qq (Kp (by first | (simp_all [Xc]; done) | (simp_all [Xc]; omega))).symm
    refine QN ?_
    exact ⟨(by first | (simp_all [Xc]; done) | (simp_all [Xc]; omega)), Qa rfl (Xr trivial) ⟨rfl, rfl, rfl, trivial⟩⟩
   refine Jf ?_; refine QN ?_
   exact ⟨(by first | (simp_all [Xc]; done) | (simp_all [Xc]; omega)), Qa rfl (Xr trivial) ⟨rfl, rfl, rfl, trivial⟩⟩
  refine Qz ?_
  refine zc 18 ?_ ?_ <;> intro h80
  ·
   refine Qx ?_; refine uP (Xo (m0 (n1 h77))) (Xf rfl rfl h80 rfl) ?_; refine QmG ?_; refine zQ ?_
   exact Qq (Kp (by first | (simp_all [Xc]; done) | (simp_all [Xc]; omega))).symm
  refine Qx ?_; refine uP (Xo (m0 (n1 h77))) (Xl rfl rfl h80 rfl) ?_; refine QC ?_
  refine zc 24 ?_ ?_ <;> intro h83
  ·
   refine QfB ?_; refine zQ ?_
   exact Qq (Kp (by first | (simp_all [Xc]; done) | (simp_all [Xc]; omega))).symm
  refine Qz ?_
  refine zc 28 ?_ ?_ <;> intro h86
  ·
   refine Qz ?_; refine uP (XF h83) (Xf rfl rfl h86 rfl) ?_; refine QC ?_
   refine zq ?_ ?_ <;> intro h90
   ·
    refine Qx ?_; refine zQ ?_
    exact Qq (Kp (by first | (simp_all [Xc]; done) | (simp_all [Xc]; omega))).symm
   refine QN ?_
   exact ⟨(by first | (simp_all [Xc]; done) | (simp_all [Xc]; omega)), Qa rfl (Xr trivial) ⟨rfl, rfl, rfl, trivial⟩⟩
  refine Qz ?_; refine uP (XF h83) (Xl rfl rfl h86 rfl) ?_; refine Qx ?_; refine QN ?_
  exact ⟨(by first | (simp_all [Xc]; done) | (simp_all [Xc]; omega)), Qa rfl (Xr trivial) ⟨rfl, rfl, rfl, trivial⟩⟩
 intro hst
 refine Xj ?_
 refine Yr (⟨[(1, .ptr 0 0), (36, i64 l.k), (37, bl (l.k == 1 || l.k == 2 || l.k == 3 || l.k == 9))], [(0, .var 26 (QP l))], 1⟩) ?_ ?_
 ·
  refine QA ?_
  refine zq ?_ ?_ <;> intro h101
  ·
   refine QN ?_
   exact Qa rfl (Yv ⟨(J7 (by simp_all)), rfl, trivial⟩) ⟨rfl, rfl, rfl, trivial⟩
  refine QA ?_
  refine zq ?_ ?_ <;> intro h102
  ·
   refine QN ?_
   exact Qa rfl (Yv ⟨(J7 (by simp_all)), rfl, trivial⟩) ⟨rfl, rfl, rfl, trivial⟩
  refine QA ?_
  refine zq ?_ ?_ <;> intro h103
  ·
   refine QN ?_
   exact Qa rfl (Yv ⟨(J7 (by simp_all)), rfl, trivial⟩) ⟨rfl, rfl, rfl, trivial⟩
  refine Qx ?_; refine Qc ?_
  exact Qa rfl (Yv ⟨(J7 (by simp_all)), rfl, trivial⟩) ⟨rfl, rfl, rfl, trivial⟩
 refine zq ?_ ?_ <;> intro h107
 ·
  have hk : l.k = 1 ∨ l.k = 2 ∨ l.k = 3 ∨ l.k = 9 := by simpa [or_assoc] using h107
  refine Xj ?_
  refine zc 46 ?_ ?_ <;> intro h111
  ·
   refine Xk ?_; refine zQ ?_
   exact Qq (by rw [Qmb hst hk]; simp_all)
  refine Xk ?_; refine zQ ?_
  exact Qq (by rw [Qmb hst hk]; simp_all)
 have hA := h107
 refine Yr (⟨[(1, .ptr 0 0), (36, i64 l.k), (52, bl (l.k == 4 || l.k == 8))], [(0, .var 26 (QP l))], 1⟩) ?_ ?_
 ·
  refine QA ?_
  refine zq ?_ ?_ <;> intro h116
  ·
   refine QN ?_
   exact Qa rfl (Yv ⟨(J7 (by simp_all)), rfl, trivial⟩) ⟨rfl, rfl, rfl, trivial⟩
  refine Qx ?_; refine Qc ?_
  exact Qa rfl (Yv ⟨(J7 (by simp_all)), rfl, trivial⟩) ⟨rfl, rfl, rfl, trivial⟩
 refine zq ?_ ?_ <;> intro h120
 ·
  have hk : l.k = 4 ∨ l.k = 8 := by simpa using h120
  refine Xj ?_; refine zQ ?_
  exact Qq (by rw [QoN hst hk]; simp)
 have hB := h120
 refine QA ?_
 refine zq ?_ ?_ <;> intro h125
 ·
  have hk : l.k = 5 := by simpa using h125
  refine Xj ?_; refine zQ ?_
  exact Qq (by rw [Qov hst hk]; simp)
 have h5 := h125
 refine QA ?_
 refine zq ?_ ?_ <;> intro h130
 ·
  have hk : l.k = 6 := by simpa using h130
  refine Xj ?_
  refine zc 71 ?_ ?_ <;> intro h134
  ·
   refine Jy ?_; refine zQ ?_
   exact Qq (by rw [Qmg hst hk]; simp_all)
  refine Jy ?_; refine zQ ?_
  exact Qq (by rw [Qmg hst hk]; simp_all)
 have h6 := h130
 refine QA ?_
 refine zq ?_ ?_ <;> intro h142
 ·
  have hk : l.k = 7 := by simpa using h142
  refine Xj ?_
  refine zc 86 ?_ ?_ <;> intro h146
  ·
   refine Xk ?_; refine zQ ?_
   exact Qq (by rw [QlS hst hk]; simp_all)
  refine Xk ?_; refine zQ ?_
  exact Qq (by rw [QlS hst hk]; simp_all)
 have h7 := h142
 refine QA ?_
 refine zq ?_ ?_ <;> intro h151
 rotate_left
 ·
  have h10 := h151
  refine Qz ?_; refine zQ ?_
  exact Qq (Qnr (by unfold Jt Q8 Xh; simp_all)).symm
 have hk : l.k = 10 := by simpa using h151
 refine Xj ?_
 refine zc 98 ?_ ?_ <;> intro h155
 ·
  refine Xk ?_; refine zQ ?_
  exact Qq (by rw [Qh2 hst hk]; simp_all)
 refine Xk ?_; refine zQ ?_
 exact Qq (by rw [Qh2 hst hk]; simp_all)
end Go.Proofs.YtnkkokmmeplbgaaGreat
