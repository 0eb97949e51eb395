/-
  Contracts: the acceptor.
-/
import Derived.Test.YtnkkokmmeplbgaaGreatC3
import Derived.Test.YtnkkokmmeplbgaaGreatA3
import Derived.Test.YtnkkokmmeplbgaaGreatB18
import Derived.Test.YtnkkokmmeplbgaaGreatB15
import Derived.Test.YtnkkokmmeplbgaaGreatC1
import Derived.Test.YtnkkokmmeplbgaaGreatB14
import Derived.Test.YtnkkokmmeplbgaaGreatT5
namespace Go.Proofs.YtnkkokmmeplbgaaGreat
set_option maxRecDepth 100000
set_option maxHeartbeats 1000000
open Go.RowKit
theorem QcV {l : List Nm} {k : Nat} {x : Nm} (h : l[k]? = some x) : l.zipIdx[k]? = some (x, k) := by simp [h]
def Qgb (l : Qs) (q : Nm × Nat) : Bool := Xb q.1 && !XV (l.nm.take q.2) q.1
def WU (nm : List Nm) (r : Ru) : Bool := !((r.i.length : Int) == 0) && WK r.i && XV nm r.t
theorem Qbe {nm : List Nm} {r : Ru} : Qc0 nm r = (WU nm r && r.i.all (XV nm)) := rfl
theorem QgO (l : Qs) : FC Tryz.prog 177 [.agg (QP l)] (bl (Kg l)) := by
 refine Qe [2] Tryz.func177 rfl rfl 86 Tryz.ntmps177 (Nat.le_of_ble_eq_true rfl) ?_
 intro E hN
 refine Jn ?_
 refine zq ?_ ?_ <;> intro h5
 ·
  have h6 : (l.k == 6) = true := h5
  refine Xk ?_
  refine Qo (fun x : {k : Nat // k ≤ (l.nm).length ∧ (l.nm.zipIdx.drop k).all (Qgb l) = l.nm.zipIdx.all (Qgb l)} => ⟨[(1, .ptr 0 0), (3, i64 (x.1 : Nat))], [(0, .var 26 (QP l))], 1⟩) (fun x => (l.nm).length - x.1) (⟨0, Nat.zero_le _, by simp⟩) ?_ ?_
  ·
   exact Qa rfl (Yv trivial) ⟨rfl, rfl, rfl, trivial⟩
  rintro ⟨k, hk, hg⟩
  dsimp only
  refine Jy ?_
  refine zq ?_ ?_ <;> intro h11
  rotate_left
  ·
   have hge : (l.nm).length ≤ k := by simpa using h11
   refine Qz ?_; refine zQ ?_
   exact Qq (by unfold Kg; rw [if_pos h6]; exact (XZ hg (by simpa using hge)).symm)
  refine X7 12 rfl (fun hlen => ?_)
  have hlt : k < (l.nm).length := by simpa using h11
  obtain ⟨x, hx⟩ := Qr hlt
  refine Qz ?_; refine Qg 18 (by kernel_rfl) (by kernel_rfl) ?_; refine Qx ?_; refine zp (Qf rfl rfl rfl k rfl _ (Qu hx) rfl) ?_
  refine zl ?_; refine zp (Qb (Qee x) rfl rfl rfl) ?_; refine QC ?_
  refine zd 24 ?_ ?_ <;> intro h16
  ·
   have ho0 : Qgb l (x, k) = false := by unfold Qgb; rw [n1 h16]; rfl
   refine XM ?_; change Ql _ _ _ _ _ _; refine Xk ?_; refine zQ ?_
   exact Qq (by unfold Kg; rw [if_pos h6]; exact (Q1 hg (QcV hx) ho0).symm)
  have hv1 : Xb x = true := n0 h16
  refine Qx ?_; refine vP (XF (m1 (n0 h16))) (Qm1 rfl rfl rfl k rfl (by omega) (by exact fun _ => rfl)) ?_; refine Qx ?_
  refine vP (XF (m1 (n0 h16))) (Qf rfl rfl rfl k rfl _ (Qu hx) rfl) ?_; refine Yb ?_
  refine vP (XF (m1 (n0 h16))) (Qb (Qfg (l.nm.take k) x) rfl rfl rfl) ?_; change Ql _ _ _ _ _ _; refine QC ?_
  refine zq ?_ ?_ <;> intro h24
  ·
   have ho0 : Qgb l (x, k) = false := by unfold Qgb; rw [hv1]; simp only [Bool.true_and, Bool.not_eq_false']; exact h24
   refine Qx ?_; refine zQ ?_
   exact Qq (by unfold Kg; rw [if_pos h6]; exact (Q1 hg (QcV hx) ho0).symm)
  have ho1 : Qgb l (x, k) = true := by unfold Qgb; rw [hv1]; simp only [Bool.true_and, Bool.not_eq_true']; exact h24
  refine QA ?_; refine Qc ?_
  exact ⟨⟨k + 1, hlt, Xx hg (QcV hx) ho1⟩, Qa rfl (Xr ⟨(Xe (by dsimp only; omega)), rfl, trivial⟩) ⟨rfl, rfl, rfl, trivial⟩, by dsimp only; omega⟩
 have h6 : (l.k == 6) = false := h5
 refine Xk ?_; refine zP (Qb (Qh8 l.nm) rfl rfl rfl) ?_; refine QC ?_
 refine zq ?_ ?_ <;> intro h28
 ·
  have h8 := n1 h28
  refine Qx ?_; refine zQ ?_
  exact Qq (by unfold Kg; rw [h6, h8]; rfl)
 have h8 := n0 h28
 refine Xj ?_
 refine Qo (fun x : {k : Nat // k ≤ (l.rs).length ∧ (l.rs.drop k).all (Qc0 l.nm) = l.rs.all (Qc0 l.nm)} => ⟨[(1, .ptr 0 0), (4, i64 (x.1 : Nat))], [(0, .var 26 (QP l))], 1⟩) (fun x => (l.rs).length - x.1) (⟨0, Nat.zero_le _, by simp⟩) ?_ ?_
 ·
  exact Qa rfl (Yv trivial) ⟨rfl, rfl, rfl, trivial⟩
 rintro ⟨k, hk, hg⟩
 dsimp only
 refine Jy ?_
 refine zq ?_ ?_ <;> intro h34
 rotate_left
 ·
  have hge : (l.rs).length ≤ k := by simpa using h34
  refine Qz ?_; refine zQ ?_
  exact Qq (by unfold Kg; rw [h6, h8, XZ hg hge]; rfl)
 refine X7 42 rfl (fun hlen => ?_)
 have hlt : k < (l.rs).length := by simpa using h34
 obtain ⟨x, hx⟩ := Qr hlt
 refine Jf ?_; refine zP (Qf rfl rfl rfl k rfl _ (Qu hx) rfl) ?_; refine Jn ?_
 refine zc 56 ?_ ?_ <;> intro h44
 ·
  refine QfA ?_; refine zQ ?_
  exact Qq (by unfold Kg; rw [h6, h8, Q1 hg hx (by rw [Qbe, show WU l.nm x = false by first | exact hra | (unfold WU; simp_all)]; rfl)]; rfl)
 refine QC ?_; refine uP (XF h44) (Qb (Qh8 x.i) rfl rfl rfl) ?_; refine Qx ?_
 refine zc 62 ?_ ?_ <;> intro h47
 ·
  refine Jn ?_; refine zQ ?_
  exact Qq (by unfold Kg; rw [h6, h8, Q1 hg hx (by rw [Qbe, show WU l.nm x = false by first | exact hra | (unfold WU; simp_all)]; rfl)]; rfl)
 refine Qz ?_; refine uP (XF (m1 (n0 h47))) (Qb (Qfg l.nm x.t) rfl rfl rfl) ?_; refine Qx ?_
 refine zq ?_ ?_ <;> intro h52
 ·
  have hra : WU l.nm x = false := by unfold WU; simp_all
  refine Qx ?_; refine zQ ?_
  exact Qq (by unfold Kg; rw [h6, h8, Q1 hg hx (by rw [Qbe, show WU l.nm x = false by first | exact hra | (unfold WU; simp_all)]; rfl)]; rfl)
 have hra : WU l.nm x = true := by unfold WU; simp_all
 refine Xk ?_
 refine Qo (fun z : {j : Nat // j ≤ x.i.length ∧ (x.i.drop j).all (XV l.nm) = x.i.all (XV l.nm)} => ⟨[(1, .ptr 0 0), (4, i64 (k : Nat)), (5, .ptr 1 0), (6, i64 (z.1 : Nat))], [(0, .var 26 (QP l)), (1, .var 188 (ruC x))], 2⟩) (fun z => x.i.length - z.1) (⟨0, Nat.zero_le _, rfl⟩) ?_ ?_
 ·
  exact Qa rfl (Yg trivial) ⟨rfl, rfl, rfl, rfl, rfl, rfl, trivial⟩
 rintro ⟨j, hj, hgj⟩
 dsimp only
 skip
 refine Jy ?_
 refine zq ?_ ?_ <;> intro h60
 rotate_left
 ·
  have hje : x.i.length ≤ j := by have e := h60; simp at e; omega
  refine QA ?_; refine Qc ?_
  exact ⟨⟨k + 1, hlt, Xx hg hx (by rw [Qbe, hra, XZ hgj hje]; rfl)⟩, Qa rfl (Xr ⟨(Xe (by dsimp only; omega)), rfl, trivial⟩) ⟨rfl, rfl, rfl, trivial⟩, by dsimp only; omega⟩
 refine X7 72 rfl (fun hlen => ?_)
 have hjl : j < x.i.length := by have e := h60; simp at e; omega
 obtain ⟨y, hy⟩ := Qr hjl
 refine Qz ?_; refine Qg 8 (by kernel_rfl) (by kernel_rfl) ?_; refine QA ?_; refine zp (Qf rfl rfl rfl j rfl _ (Qu hy) rfl) ?_
 refine zl ?_; refine zp (Qb (Qfg l.nm y) rfl rfl rfl) ?_; change Ql _ _ _ _ _ _; refine QC ?_
 refine zq ?_ ?_ <;> intro h67
 ·
  have h19 := n1 h67
  refine Qx ?_; refine zQ ?_
  exact Qq (by unfold Kg; rw [h6, h8, Q1 hg hx (by rw [Qbe, hra, Q1 hgj hy h19]; rfl)]; rfl)
 have h19 := h67
 refine QA ?_; refine Qc ?_
 exact ⟨⟨j + 1, hjl, Xx hgj hy (n0 h19)⟩, Qa rfl (Ya ⟨(Xe (by dsimp only; omega)), rfl, trivial⟩) ⟨rfl, rfl, rfl, rfl, rfl, rfl, trivial⟩, by dsimp only; omega⟩
def YM (l : Qs) (d n : Int) : Int := if d > 6 ∨ n ≥ 64 then 6 else if QU l ≠ 0 then 1 else KH [XH l, Xp l, Q7 l, Xq l]
section
variable {l : Qs} {d n : Int}
theorem QcJ (h : d > 6 ∨ n ≥ 64) : YM l d n = 6 := by unfold YM; rw [if_pos h]
theorem Qgv (h : ¬ (d > 6 ∨ n ≥ 64)) (hs : (QU l == 0) = false) : YM l d n = 1 := by unfold YM; rw [if_neg h, if_pos (by simpa using hs)]
theorem YN (h : ¬ (d > 6 ∨ n ≥ 64)) (hs : QU l = 0) : YM l d n = KH [XH l, Xp l, Q7 l, Xq l] := by unfold YM; rw [if_neg h, if_neg (by rw [hs]; decide)]
theorem QlL {a b c e : Int} (h : a ≠ 0) : KH [a, b, c, e] = a := by simp [KH, h]
theorem QoS {a b c e : Int} (h1 : a = 0) (h : b ≠ 0) : KH [a, b, c, e] = b := by simp [KH, h, h1]
theorem QiZ {a b c e : Int} (h1 : a = 0) (h2 : b = 0) (h : c ≠ 0) : KH [a, b, c, e] = c := by simp [KH, h, h1, h2]
theorem Qjh {a b c e : Int} (h1 : a = 0) (h2 : b = 0) (h3 : c = 0) : KH [a, b, c, e] = e := by
 by_cases h : e = 0 <;> simp [KH, h, h1, h2, h3]
theorem Qct (h : ((decide ((l.nm.length : Int) > Yy l.k)) || decide ((l.rs.length : Int) > 32)) = true) : XH l = 6 := by unfold XH; rw [h]; rfl
theorem Qnh (h : ((decide ((l.nm.length : Int) > Yy l.k)) || decide ((l.rs.length : Int) > 32)) = false) : XH l = 0 := by unfold XH; rw [h]; rfl
theorem Qad : Q7 l = X4 (decide (l.lo > l.hi) || decide (l.lo < -1000000000) || decide (l.hi > 1000000000)) 5 := by
 unfold Q7
 congr 1
 by_cases h1 : l.lo > l.hi
 ·simp [h1]
 by_cases h2 : l.lo < -1000000000
 ·simp [h2]
 by_cases h3 : l.hi > 1000000000
 ·simp [h3]
 have h4 : ¬ l.lo > 1000000000 := by omega
 have h5 : ¬ l.hi < -1000000000 := by omega
 simp [h1, h2, h3, h4, h5]
end
theorem Qh4 (l : Qs) (d n : Int) : FC Tryz.prog 142 [.agg (QP l), i64 d, i64 n] (i64 (YM l d n)) := by
 refine Qe [6] Tryz.func142 rfl rfl 69 Tryz.ntmps142 (Nat.le_of_ble_eq_true rfl) ?_
 intro E hN
 refine QdO ?_
 refine zq ?_ ?_ <;> intro h7
 ·
  refine Qx ?_; refine Yr (⟨[(1, i64 d), (2, i64 n), (3, .ptr 0 0), (7, i64 (Yy l.k))], [(0, .var 26 (QP l))], 1⟩) ?_ ?_
  ·
   refine Xk ?_
   refine zq ?_ ?_ <;> intro h10
   ·
    refine QC ?_; refine Qc ?_
    exact Qa rfl (Ya ⟨(Xe (by unfold Yy; simp_all)), rfl, trivial⟩) ⟨rfl, rfl, rfl, trivial⟩
   refine QN ?_
   exact Qa rfl (Ya ⟨(Xe (by unfold Yy; simp_all)), rfl, trivial⟩) ⟨rfl, rfl, rfl, trivial⟩
  refine Xj ?_
  refine zc 17 ?_ ?_ <;> intro h13
  ·
   refine Jy ?_; refine zQ ?_
   exact QB (QcJ (by first | (left; simp_all; done) | (right; simp_all; done))).symm
  refine QA ?_
  refine zq ?_ ?_ <;> intro h14
  ·
   have hb : d > 6 ∨ n ≥ 64 := by first | (left; simp_all; done) | (right; simp_all; done)
   refine Qx ?_; refine zQ ?_
   exact QB (QcJ (by first | (left; simp_all; done) | (right; simp_all; done))).symm
  have hb : ¬ (d > 6 ∨ n ≥ 64) := by first | (simp_all; done) | (simp_all; omega)
  refine Qx ?_; refine zP (Qb (Qdq l) rfl rfl rfl) ?_; refine Qx ?_
  refine zq ?_ ?_ <;> intro h16
  ·
   have hs := n1 h16
   refine Qx ?_; refine zQ ?_
   exact QB (Qgv hb hs).symm
  have hs : QU l = 0 := by simpa using n0 h16
  refine Jf ?_
  refine zc 31 ?_ ?_ <;> intro h20
  ·
   refine Jc ?_; refine zQ ?_
   exact QB (by rw [YN hb hs, QlL (by rw [Qct (by simp_all)]; decide), Qct (by simp_all)])
  refine Xj ?_
  refine zq ?_ ?_ <;> intro h24
  ·
   refine Qx ?_; refine zQ ?_
   exact QB (by rw [YN hb hs, QlL (by rw [Qct (by simp_all)]; decide), Qct (by simp_all)])
  have hlim : ((decide ((l.nm.length : Int) > Yy l.k)) || decide ((l.rs.length : Int) > 32)) = false := by simp_all
  have hl0 := Qnh hlim
  have hl1 : (l.nm.length : Int) ≤ Yy l.k ∧ (l.rs.length : Int) ≤ 32 := by simp at hlim; omega
  refine Qx ?_; refine zP (Qb (QgO l) rfl rfl rfl) ?_; refine Qx ?_
  refine zq ?_ ?_ <;> intro h26
  ·
   have hsp : Xp l = 3 := by
    have e := n1 h26
    rw [Qam hs] at e
    unfold Xp at e ⊢
    split
    ·rename_i h; rw [if_pos h] at e; cases e
    rfl
   refine Qx ?_; refine zQ ?_
   exact QB (by rw [YN hb hs, QoS hl0 (by rw [hsp]; decide), hsp])
  have hsp : Xp l = 0 := by
   have e := n0 h26
   rw [Qam hs] at e
   simpa using e
  refine Jf ?_
  refine zc 47 ?_ ?_ <;> intro h31
  ·
   refine QfB ?_; refine zQ ?_
   exact QB (by have e : Q7 l = 5 := (by rw [Qad]; (first | (simp_all; done) | simp_all [X4])); rw [YN hb hs, QiZ hl0 hsp (by rw [e]; decide), e])
  refine QA ?_
  refine zc 52 ?_ ?_ <;> intro h34
  ·
   refine XM ?_; refine zQ ?_
   exact QB (by have e : Q7 l = 5 := (by rw [Qad]; (first | (simp_all; done) | simp_all [X4])); rw [YN hb hs, QiZ hl0 hsp (by rw [e]; decide), e])
  refine Xk ?_
  refine zq ?_ ?_ <;> intro h37
  ·
   refine Qx ?_; refine zQ ?_
   exact QB (by have e : Q7 l = 5 := (by rw [Qad]; (first | (simp_all; done) | simp_all [X4])); rw [YN hb hs, QiZ hl0 hsp (by rw [e]; decide), e])
  have hrg : Q7 l = 0 := by rw [Qad]; (first | (simp_all; done) | simp_all [X4])
  refine Xk ?_
  refine zc 61 ?_ ?_ <;> intro h40
  rotate_left
  ·
   refine KJ ?_; refine zQ ?_
   exact QB (by rw [YN hb hs, Qjh hl0 hsp hrg]; unfold Xq; (first | (simp_all; done) | simp_all [X4]))
  have h7 : l.k = 7 := by simpa using h40
  obtain ⟨a, r, hps⟩ := QfE hs h7
  have ha : l.ps[0]? = some a := by rw [hps]; rfl
  refine QC ?_; refine uP (Xo h40) (Qf rfl rfl rfl 0 rfl _ (Xv ha) rfl) ?_; refine Yb ?_
  refine uP (Xo h40) (Qb (QaN a) rfl rfl rfl) ?_; refine Qz ?_
  refine zq ?_ ?_ <;> intro h45
  ·
   refine Qx ?_; refine zQ ?_
   exact QB (by rw [YN hb hs, Qjh hl0 hsp hrg]; unfold Xq; rw [hps]; (first | (simp_all; done) | simp_all [X4]))
  refine Qz ?_; refine zQ ?_
  exact QB (by rw [YN hb hs, Qjh hl0 hsp hrg]; unfold Xq; (first | (simp_all; done) | simp_all [X4]))
 refine zW ?_; refine Yr (⟨[(1, i64 d), (2, i64 n), (3, .ptr 0 0), (7, i64 (Yy l.k))], [(0, .var 26 (QP l))], 1⟩) ?_ ?_
 ·
  refine Xk ?_
  refine zq ?_ ?_ <;> intro h48
  ·
   refine QC ?_; refine Qc ?_
   exact Qa rfl (Ya ⟨(Xe (by unfold Yy; simp_all)), rfl, trivial⟩) ⟨rfl, rfl, rfl, trivial⟩
  refine QN ?_
  exact Qa rfl (Ya ⟨(Xe (by unfold Yy; simp_all)), rfl, trivial⟩) ⟨rfl, rfl, rfl, trivial⟩
 refine Xj ?_
 refine zc 17 ?_ ?_ <;> intro h51
 ·
  refine Jy ?_; refine zQ ?_
  exact QB (QcJ (by first | (left; simp_all; done) | (right; simp_all; done))).symm
 refine QA ?_
 refine zq ?_ ?_ <;> intro h52
 ·
  have hb : d > 6 ∨ n ≥ 64 := by first | (left; simp_all; done) | (right; simp_all; done)
  refine Qx ?_; refine zQ ?_
  exact QB (QcJ (by first | (left; simp_all; done) | (right; simp_all; done))).symm
 have hb : ¬ (d > 6 ∨ n ≥ 64) := by first | (simp_all; done) | (simp_all; omega)
 refine Qx ?_; refine zP (Qb (Qdq l) rfl rfl rfl) ?_; refine Qx ?_
 refine zq ?_ ?_ <;> intro h54
 ·
  have hs := n1 h54
  refine Qx ?_; refine zQ ?_
  exact QB (Qgv hb hs).symm
 have hs : QU l = 0 := by simpa using n0 h54
 refine Jf ?_
 refine zc 31 ?_ ?_ <;> intro h58
 ·
  refine Jc ?_; refine zQ ?_
  exact QB (by rw [YN hb hs, QlL (by rw [Qct (by simp_all)]; decide), Qct (by simp_all)])
 refine Xj ?_
 refine zq ?_ ?_ <;> intro h62
 ·
  refine Qx ?_; refine zQ ?_
  exact QB (by rw [YN hb hs, QlL (by rw [Qct (by simp_all)]; decide), Qct (by simp_all)])
 have hlim : ((decide ((l.nm.length : Int) > Yy l.k)) || decide ((l.rs.length : Int) > 32)) = false := by simp_all
 have hl0 := Qnh hlim
 have hl1 : (l.nm.length : Int) ≤ Yy l.k ∧ (l.rs.length : Int) ≤ 32 := by simp at hlim; omega
 refine Qx ?_; refine zP (Qb (QgO l) rfl rfl rfl) ?_; refine Qx ?_
 refine zq ?_ ?_ <;> intro h64
 ·
  have hsp : Xp l = 3 := by
   have e := n1 h64
   rw [Qam hs] at e
   unfold Xp at e ⊢
   split
   ·rename_i h; rw [if_pos h] at e; cases e
   rfl
  refine Qx ?_; refine zQ ?_
  exact QB (by rw [YN hb hs, QoS hl0 (by rw [hsp]; decide), hsp])
 have hsp : Xp l = 0 := by
  have e := n0 h64
  rw [Qam hs] at e
  simpa using e
 refine Jf ?_
 refine zc 47 ?_ ?_ <;> intro h69
 ·
  refine QfB ?_; refine zQ ?_
  exact QB (by have e : Q7 l = 5 := (by rw [Qad]; (first | (simp_all; done) | simp_all [X4])); rw [YN hb hs, QiZ hl0 hsp (by rw [e]; decide), e])
 refine QA ?_
 refine zc 52 ?_ ?_ <;> intro h72
 ·
  refine XM ?_; refine zQ ?_
  exact QB (by have e : Q7 l = 5 := (by rw [Qad]; (first | (simp_all; done) | simp_all [X4])); rw [YN hb hs, QiZ hl0 hsp (by rw [e]; decide), e])
 refine Xk ?_
 refine zq ?_ ?_ <;> intro h75
 ·
  refine Qx ?_; refine zQ ?_
  exact QB (by have e : Q7 l = 5 := (by rw [Qad]; (first | (simp_all; done) | simp_all [X4])); rw [YN hb hs, QiZ hl0 hsp (by rw [e]; decide), e])
 have hrg : Q7 l = 0 := by rw [Qad]; (first | (simp_all; done) | simp_all [X4])
 refine Xk ?_
 refine zc 61 ?_ ?_ <;> intro h78
 rotate_left
 ·
  refine KJ ?_; refine zQ ?_
  exact QB (by rw [YN hb hs, Qjh hl0 hsp hrg]; unfold Xq; (first | (simp_all; done) | simp_all [X4]))
 have h7 : l.k = 7 := by simpa using h78
 obtain ⟨a, r, hps⟩ := QfE hs h7
 have ha : l.ps[0]? = some a := by rw [hps]; rfl
 refine QC ?_; refine uP (Xo h78) (Qf rfl rfl rfl 0 rfl _ (Xv ha) rfl) ?_; refine Yb ?_
 refine uP (Xo h78) (Qb (QaN a) rfl rfl rfl) ?_; refine Qz ?_
 refine zq ?_ ?_ <;> intro h83
 ·
  refine Qx ?_; refine zQ ?_
  exact QB (by rw [YN hb hs, Qjh hl0 hsp hrg]; unfold Xq; rw [hps]; (first | (simp_all; done) | simp_all [X4]))
 refine Qz ?_; refine zQ ?_
 exact QB (by rw [YN hb hs, Qjh hl0 hsp hrg]; unfold Xq; (first | (simp_all; done) | simp_all [X4]))
def QgC (v : Int × Int) : AV := .tup [if v.1 = 0 then i64 v.2 else .bot, i64 v.1]
theorem QcT {v : Int × Int} {e : Int} (h : v.1 = e) (he : e ≠ 0) : AV.tup [.bot, i64 e] = QgC v := by unfold QgC; rw [h, if_neg he]
theorem QmK {v : Int × Int} {m : Int} (h : (0, m) = v) : AV.tup [i64 m, i64 0] = QgC v := by unfold QgC; rw [← h, if_pos rfl]
section
variable {f : Nat} {l : Qs} {n d : Int}
theorem QiM (hd : d ≤ 6) (h : YM l d n ≠ 0) : (QG (f + 1) l n).1 = YM l d n := by
 unfold YM at h ⊢
 by_cases h1 : n ≥ 64
 ·rw [Qgg h1, if_pos (.inr h1)]
 rw [if_neg (by omega)] at h ⊢
 cases h2 : QU l != 0 with
 | true =>
  rw [Qbg (by omega) h2, if_pos (by simpa using h2)]
  show QU l = 1
  have : QU l ≠ 0 := by simpa using h2
  unfold QU at this ⊢
  split
  ·rename_i hk; rw [if_pos hk] at this; unfold X4 at this ⊢; split
   ·rfl
   rename_i hb; rw [if_neg hb] at this; exact absurd rfl this
  rfl
 | false =>
  have h3 : QU l = 0 := by simpa using h2
  rw [if_neg (by rw [h3]; decide)] at h ⊢
  rw [Qj8 (by omega) h2 (by simpa using h)]
theorem QjR (hd : d ≤ 6) (h : YM l d n = 0) : QG (f + 1) l n = XG (QG f) l.ps (n + 1) := by
 unfold YM at h
 by_cases h1 : n ≥ 64
 ·rw [if_pos (.inr h1)] at h; cases h
 rw [if_neg (by omega)] at h
 by_cases h2 : QU l = 0
 ·rw [if_neg (by rw [h2]; decide)] at h
  exact Wm (by omega) (by rw [h2]; rfl) (by rw [h]; rfl)
 rw [if_pos h2] at h; cases h
end
theorem QnJ (l : Qs) (n d : Int) (hd : d = 7) : FC Tryz.prog 111 [.agg (QP l), i64 d, i64 n] (QgC (QG 0 l n)) := by
 have hE : YM l d n = 6 := QcJ (.inl (by omega))
 refine Qe [6, 7] Tryz.func111 rfl rfl 48 Tryz.ntmps111 (Nat.le_of_ble_eq_true rfl) ?_
 intro E hN
 refine Jn ?_; refine zP (Qb (Qh4 l d n) rfl rfl rfl) ?_; refine QA ?_
 refine zP (Q6 (b := true) rfl rfl rfl (by rw [hE]; rfl)) ?_
 refine Jy ?_; refine QF (st' := ⟨[(7, i64 (YM l d n))], [], 1⟩) (Qa rfl (Xr trivial) trivial) ?_; refine zR ?_
 rw [hE]; exact QcT rfl (by decide)
theorem Qom (f : Nat) (hf : f + 1 ≤ 6) (ih : ∀ (l : Qs) (n d : Int), d = 7 - (f : Int) → 0 ≤ n → FC Tryz.prog 111 [.agg (QP l), i64 d, i64 n] (QgC (QG f l n))) (l : Qs) (n d : Int) (hd : d = 7 - ((f + 1 : Nat) : Int)) (hn : 0 ≤ n) : FC Tryz.prog 111 [.agg (QP l), i64 d, i64 n] (QgC (QG (f + 1) l n)) := by
 refine Qe [6, 7] Tryz.func111 rfl rfl 48 Tryz.ntmps111 (Nat.le_of_ble_eq_true rfl) ?_
 intro E hN
 refine Jn ?_; refine zP (Qb (Qh4 l d n) rfl rfl rfl) ?_; refine Xj ?_
 refine zq ?_ ?_ <;> intro h7
 ·
  have h2 : YM l d n ≠ 0 := by simpa using h7
  refine Xj ?_; refine QF (st' := ⟨[(7, i64 (YM l d n))], [], 1⟩) (Qa rfl (Xr trivial) trivial) ?_; refine zR ?_
  exact QcT (QiM (by omega) h2) h2
 have h2 : YM l d n = 0 := by simpa using h7
 have hn64 : n < 64 := by
  unfold YM at h2
  by_cases h1 : n ≥ 64
  ·rw [if_pos (.inr h1)] at h2; cases h2
  omega
 have hvo := QjR (f := f) (l := l) (n := n) (d := d) (by omega) h2
 refine Wz ?_
 refine Qo (fun z : {q : Nat × Int // q.1 ≤ l.ps.length ∧ 0 ≤ q.2 ∧ XG (QG f) (l.ps.drop q.1) q.2 = XG (QG f) l.ps (n + 1)} => ⟨[(1, i64 d), (3, .ptr 0 0), (9, i64 z.1.2), (10, i64 (z.1.1 : Nat))], [(0, .var 26 (QP l))], 1⟩) (fun z => l.ps.length - z.1.1) (⟨(0, n + 1), Nat.zero_le _, by show 0 ≤ n + 1; omega, by simp⟩) ?_ ?_
 ·
  exact Qa rfl (Yg trivial) ⟨rfl, rfl, rfl, trivial⟩
 rintro ⟨⟨k, m⟩, hk, hm, hg⟩
 dsimp only at hk hm hg ⊢
 refine Jy ?_
 refine zq ?_ ?_ <;> intro h16
 rotate_left
 ·
  have hge : (l.ps).length ≤ k := by simpa using h16
  refine Xk ?_; refine zQ ?_
  exact QmK (by rw [hvo]; exact QhH hg hge)
 refine X7 25 rfl (fun hlen => ?_)
 have hlt : k < (l.ps).length := by simpa using h16
 obtain ⟨x, hx⟩ := Qr hlt
 refine Jf ?_; refine zP (Qf rfl rfl rfl k rfl _ (Xv hx) rfl) ?_; refine Qz ?_; refine zP (Qb (ih x m _ (by omega) hm) rfl rfl rfl) ?_
 refine Jn ?_
 refine zq ?_ ?_ <;> intro h25
 ·
  have he : (QG f x m).1 ≠ 0 := by simpa using h25
  refine Xj ?_; refine QF (st' := ⟨[(7, i64 ((QG f x m).1))], [], 1⟩) (Qa rfl (Xr trivial) trivial) ?_; refine zR ?_
  exact QcT (by rw [hvo, ← QeJ hg hx (by simpa using he)]) he
 have he : (QG f x m).1 = 0 := by simpa using h25
 rw [if_pos he]
 refine Jy ?_; refine Qc ?_
 exact ⟨⟨(k + 1, (QG f x m).2), hlt, Qb5 _ _ _ hm, Qnm hg hx (by rw [he]; rfl)⟩, Qa rfl (Ya ⟨(Xe (by dsimp only; omega)), rfl, trivial⟩) ⟨rfl, rfl, rfl, trivial⟩, by dsimp only; omega⟩
theorem Qgw : ∀ (f : Nat) (l : Qs) (n d : Int), f ≤ 6 → d = 7 - (f : Int) → 0 ≤ n → FC Tryz.prog 111 [.agg (QP l), i64 d, i64 n] (QgC (QG f l n))
 | 0, l, n, d, _, hd, _ => QnJ l n d (by simpa using hd)
 | f + 1, l, n, d, hf, hd, hn => Qom f hf (fun l n d h1 h2 => Qgw f l n d (by omega) h1 h2) l n d hd hn
theorem Wv (l : Qs) : FC Tryz.prog 64 [.agg (QP l)] (i64 (QK l)) := by
 refine Qe [2] Tryz.func64 rfl rfl 11 Tryz.ntmps64 (Nat.le_of_ble_eq_true rfl) ?_
 intro E hN
 refine Jf ?_; refine zP (Qb (Qgw 6 l 0 1 (by decide) rfl (by decide)) rfl rfl rfl) ?_; refine XM ?_; refine zQ ?_
 rfl
end Go.Proofs.YtnkkokmmeplbgaaGreat
namespace Go.Proofs.YtnkkokmmeplbgaaGreat
set_option maxRecDepth 100000
set_option maxHeartbeats 1000000
open Go.RowKit
theorem Qmq (l : Qs) (hp : l.ps.length ≤ 64) (ih : ∀ p ∈ l.ps, FC Tryz.prog 106 [.agg (QP p)] (.agg (QH (Qm p)))) : FC Tryz.prog 106 [.agg (QP l)] (.agg (QH (Qm l))) := by
 refine X9 [.c 2 30 4 true] ⟨⟨inferInstance, rfl⟩, trivial⟩ Tryz.func106 rfl rfl 40 Tryz.ntmps106 (Nat.le_of_ble_eq_true rfl) ?_
 intro E hN
 refine Qoh ?_
 refine zq ?_ ?_ <;> intro h9
 ·
  refine Jc ?_; refine Qj ?_
  change (resY _ _).bind AV.fzt = some _
  refine Xs rfl ?_
  rw [Xz]
  refine QdN (QB ?_) rfl ?_ rfl
  ·simp_all [Qt.N]
  first | (simp_all [Qt.ps]; done) | (refine QaV ?_; simp_all [Qt.ps, List.take_of_length_le])
 refine QA ?_
 refine zq ?_ ?_ <;> intro h16
 ·
  refine Jc ?_; refine Qj ?_
  change (resY _ _).bind AV.fzt = some _
  refine Xs rfl ?_
  rw [Xz]
  refine QdN (QB ?_) rfl ?_ rfl
  ·simp_all [Qt.N]
  first | (simp_all [Qt.ps]; done) | (refine QaV ?_; simp_all [Qt.ps, List.take_of_length_le])
 refine Xk ?_
 refine zq ?_ ?_ <;> intro h23
 ·
  refine Xj ?_; refine QF (JG rfl 2 2 30 4 rfl rfl rfl) ?_
  refine Qo (fun x : {k : Nat // k ≤ (l.ps).length ∧ True} => ⟨[(1, .ptr 0 0), (2, .ptr 1 0), (3, .ptr 2 0), (4, i64 (x.1 : Nat))], [(0, .var 26 (QP l)), (1, .var 30 [i64 0, .p (.slice none 0 0), .p (.slice none 0 0), .p (.slice none 0 0)]), (2, .var 30 [i64 0, .p (.slice none 0 0), .sl (((l.ps.take x.1).map Qm).map YR) (some 3), .p (.slice none 0 0)]), (3, .tok 30 4 ((l.ps.take x.1).map Qm).length)], 4⟩) (fun x => (l.ps).length - x.1) (⟨0, Nat.zero_le _, by simp⟩) ?_ ?_
  ·
   exact Qa rfl (Yg trivial) ⟨rfl, rfl, rfl, rfl, rfl, rfl, rfl, rfl, rfl, rfl, rfl, rfl, trivial⟩
  rintro ⟨k, hk, hg⟩
  dsimp only
  refine Jy ?_
  refine zq ?_ ?_ <;> intro h31
  rotate_left
  ·
   have hge : (l.ps).length ≤ k := by simpa using h31
   refine Xk ?_; refine Qj ?_
   change (resY _ _).bind AV.fzt = some _
   refine Xs rfl ?_
   rw [Xz]
   refine QdN (QB ?_) rfl ?_ rfl
   ·simp_all [Qt.N]
   first | (simp_all [Qt.ps]; done) | (refine QaV ?_; simp_all [Qt.ps, List.take_of_length_le])
  have hlt : k < (l.ps).length := by simpa using h31
  obtain ⟨x, hx⟩ := Qr hlt
  refine Qx ?_; refine Qg 9 (by kernel_rfl) (by kernel_rfl) ?_; refine QA ?_; refine zp (Qf rfl rfl rfl k rfl _ (Xv hx) rfl) ?_
  refine zl ?_; refine zp (Qb (ih x (List.mem_of_getElem? hx)) rfl rfl rfl) ?_
  refine zp (QJ rfl rfl rfl rfl (by exact rfl) (by decide) (by decide)) ?_; change Ql _ _ _ _ _ _
  refine QM hN rfl rfl rfl (by simp) rfl rfl (Q2 Kl _) rfl (by simp [X3]; omega) rfl rfl rfl rfl ?_
  refine Xj ?_; refine Qc ?_
  exact ⟨⟨k + 1, hlt, trivial⟩, Qa rfl (Ya ⟨(Xe (by dsimp only; omega)), rfl, trivial⟩) ⟨rfl, rfl, rfl, rfl, rfl, rfl, (cgV (Qbp hx)), rfl, rfl, (cgT (by simp [X3]; omega)), rfl, rfl, trivial⟩, by dsimp only; omega⟩
 refine Qz ?_
 refine zq ?_ ?_ <;> intro h46
 rotate_left
 ·
  refine Xk ?_; refine Qj ?_
  change (resY _ _).bind AV.fzt = some _
  refine Xs rfl ?_
  rw [Xz]
  refine QdN (QB ?_) rfl ?_ rfl
  ·simp_all [Qt.N]
  first | (simp_all [Qt.ps]; done) | (refine QaV ?_; simp_all [Qt.ps, List.take_of_length_le])
 refine QA ?_; refine QF (JG rfl 2 2 30 4 rfl rfl rfl) ?_
 refine Qo (fun x : {k : Nat // k ≤ (l.ps).length ∧ True} => ⟨[(1, .ptr 0 0), (2, .ptr 1 0), (3, .ptr 2 0), (4, i64 (x.1 : Nat))], [(0, .var 26 (QP l)), (1, .var 30 [i64 0, .p (.slice none 0 0), .p (.slice none 0 0), .p (.slice none 0 0)]), (2, .var 30 [i64 0, .p (.slice none 0 0), .sl (((l.ps.take x.1).map Qm).map YR) (some 3), .p (.slice none 0 0)]), (3, .tok 30 4 ((l.ps.take x.1).map Qm).length)], 4⟩) (fun x => (l.ps).length - x.1) (⟨0, Nat.zero_le _, by simp⟩) ?_ ?_
 ·
  exact Qa rfl (Yg trivial) ⟨rfl, rfl, rfl, rfl, rfl, rfl, rfl, rfl, rfl, rfl, rfl, rfl, trivial⟩
 rintro ⟨k, hk, hg⟩
 dsimp only
 refine Jy ?_
 refine zq ?_ ?_ <;> intro h54
 rotate_left
 ·
  have hge : (l.ps).length ≤ k := by simpa using h54
  refine Xk ?_; refine Qj ?_
  change (resY _ _).bind AV.fzt = some _
  refine Xs rfl ?_
  rw [Xz]
  refine QdN (QB ?_) rfl ?_ rfl
  ·simp_all [Qt.N]
  first | (simp_all [Qt.ps]; done) | (refine QaV ?_; simp_all [Qt.ps, List.take_of_length_le])
 have hlt : k < (l.ps).length := by simpa using h54
 obtain ⟨x, hx⟩ := Qr hlt
 refine Qx ?_; refine Qg 9 (by kernel_rfl) (by kernel_rfl) ?_; refine QA ?_; refine zp (Qf rfl rfl rfl k rfl _ (Xv hx) rfl) ?_
 refine zl ?_; refine zp (Qb (ih x (List.mem_of_getElem? hx)) rfl rfl rfl) ?_
 refine zp (QJ rfl rfl rfl rfl (by exact rfl) (by decide) (by decide)) ?_; change Ql _ _ _ _ _ _
 refine QM hN rfl rfl rfl (by simp) rfl rfl (Q2 Kl _) rfl (by simp [X3]; omega) rfl rfl rfl rfl ?_
 refine Xj ?_; refine Qc ?_
 exact ⟨⟨k + 1, hlt, trivial⟩, Qa rfl (Ya ⟨(Xe (by dsimp only; omega)), rfl, trivial⟩) ⟨rfl, rfl, rfl, rfl, rfl, rfl, (cgV (Qbp hx)), rfl, rfl, (cgT (by simp [X3]; omega)), rfl, rfl, trivial⟩, by dsimp only; omega⟩
theorem QbP (l : Qs) (h : Ys l) : FC Tryz.prog 106 [.agg (QP l)] (.agg (QH (Qm l))) := Qmq l h.small (fun p hp => QbP p (h.part p hp))
termination_by l
decreasing_by exact Qs.sizeOf_ps ‹_›
end Go.Proofs.YtnkkokmmeplbgaaGreat
namespace Go.Proofs.YtnkkokmmeplbgaaGreat
open Go.RowKit
section
variable {l : Qs} {a b : Qt}
end
section
variable {rs : List Ru} {t : List Nm} {u : List Int}
end
end Go.Proofs.YtnkkokmmeplbgaaGreat
namespace Go.Proofs.YtnkkokmmeplbgaaGreat
open Go.RowKit
end Go.Proofs.YtnkkokmmeplbgaaGreat
namespace Go.Proofs.YtnkkokmmeplbgaaGreat
open Go.RowKit
end Go.Proofs.YtnkkokmmeplbgaaGreat
namespace Go.Proofs.YtnkkokmmeplbgaaGreat
open Go.RowKit
end Go.Proofs.YtnkkokmmeplbgaaGreat
namespace Go.Proofs.YtnkkokmmeplbgaaGreat
set_option maxRecDepth 100000
set_option maxHeartbeats 1000000
open Go.RowKit
section
variable {up : Bool} {q : Qs} {a b : Qt} {s : Nm} {x y : Qt}
end
section
variable {f : Nm → Option Qt} {u : List Nm} {k : Nat} {s : Nm} {v : Qt}
end
theorem Wt (l : Qs) (v : Qt) (hc : QK l = 0) : FC Tryz.prog 57 [.agg (QP l), .agg (QH v)] (bl (eqV v (Qm l))) := by
 refine Qe [4] Tryz.func57 rfl rfl 14 Tryz.ntmps57 (Nat.le_of_ble_eq_true rfl) ?_
 intro E hN
 refine Xj ?_; refine Qg 9 (by kernel_rfl) (by kernel_rfl) ?_; refine zl ?_; refine zp (Qb (Wv l) rfl rfl rfl) ?_; refine QC ?_
 refine zd 8 ?_ ?_ <;> intro h7
 ·
  refine QC ?_; refine vP (Xo h7) (Qb (QbP l (Xg hc)) rfl rfl rfl) ?_; refine vP (Xo h7) (Qb (Qau _ _) rfl rfl rfl) ?_
  refine Yb ?_; change Ql _ _ _ _ _ _; refine zS ?_; refine zQ ?_
  exact Qq (by simp_all)
 refine QA ?_; change Ql _ _ _ _ _ _; refine zS ?_; refine zQ ?_
 exact Qq (by simp_all)
end Go.Proofs.YtnkkokmmeplbgaaGreat
namespace Go.Proofs.YtnkkokmmeplbgaaGreat
open Go.RowKit
structure Bal where
 k : Int
 f : Int
 t : Int
 n : Int
 v : Qt
abbrev K0 (b : Bal) : List AV := [i64 b.k, i64 b.f, i64 b.t, i64 b.n, i64 b.v.N, XN b.v.nm, J8 b.v.ps, KU b.v.es]
abbrev QdL (l : List Bal) : AV := .sl (l.map fun b => K0 b) none
def Bal.zero : Bal := ⟨0, 0, 0, 0, Qt.zero⟩
end Go.Proofs.YtnkkokmmeplbgaaGreat
