/-
  Contracts: descriptions of lattices are checked.
-/
import Derived.Test.YtnkkokmmeplbgaaGreatB1
namespace Go.Proofs.YtnkkokmmeplbgaaGreat
set_option maxRecDepth 100000
set_option maxHeartbeats 1000000
open Go.RowKit
def X4 (b : Bool) (e : Int) : Int := if b then e else 0
def Xh (k : Int) : Bool := k == 4 || k == 8 || k == 5 || k == 6 || k == 10
def Q8 (k : Int) : Bool := k == 2 || k == 3
def Jt (k : Int) : Bool := k == 1 || k == 9 || Q8 k || Xh k || k == 7
def XO (l : Qs) : Int := if l.k = 5 then 1 else if l.k = 7 then 2 else if l.k = 6 then l.nm.length else 0
def JV (l : Qs) : Bool := ((l.ps.length : Int) != XO l) || (!Xh l.k && decide ((l.nm.length : Int) > 0)) || (!(l.k == 10) && decide ((l.rs.length : Int) > 0)) || (!Q8 l.k && (l.lo != 0 || l.hi != 0))
def Jq (l : Qs) : Bool := (l.k == 6 || l.k == 10) && (l.nm.length : Int) == 0
def QU (l : Qs) : Int := if Jt l.k then X4 (JV l || Jq l) 1 else 1
def Yy (k : Int) : Int := if k = 6 then 8 else if k = 10 then 12 else 32
def XH (l : Qs) : Int := X4 (decide ((l.nm.length : Int) > Yy l.k) || decide ((l.rs.length : Int) > 32)) 6
def Q7 (l : Qs) : Int := X4 (decide (l.lo > l.hi) || decide (l.lo < -1000000000) || decide (l.lo > 1000000000) || decide (l.hi < -1000000000) || decide (l.hi > 1000000000)) 5
def chainB (l : Qs) : Bool :=
 if l.k == 1 || l.k == 2 || l.k == 3 then true
 else if l.k == 7 then (match _h : l.ps with | [a, b] => chainB a && chainB b | _ => false)
 else false
termination_by l
decreasing_by all_goals exact Qs.sizeOf_ps (by rw [_h]; simp)
theorem Qab {l a b : Qs} (hk : (l.k == 7) = true) (h : l.ps = [a, b]) : chainB l = (chainB a && chainB b) := by
 have hk' : l.k = 7 := by simpa using hk
 conv => lhs; rw [chainB]
 rw [if_neg (by rw [hk']; decide), if_pos hk]
 split
 ·rename_i c d h2; rw [h] at h2; cases h2; rfl
 rename_i h2; exact absurd h (h2 a b)
theorem Ji {l : Qs} (h1 : (l.k == 1) = false) (h2 : (l.k == 2) = false) (h3 : (l.k == 3) = false) (h : (l.k == 7) = false ∨ l.ps.length ≠ 2) : chainB l = false := by
 rw [chainB, if_neg (by simp [h1, h2, h3])]
 rcases h with h | h
 ·rw [if_neg (by simp [h])]
 split
 ·split
  ·rename_i h4; rw [h4] at h; simp at h
  rfl
 rfl
theorem Qbb {l : Qs} (h : (l.k == 1 || l.k == 2 || l.k == 3) = true) : chainB l = true := by rw [chainB, if_pos h]
def Xq (l : Qs) : Int := X4 (l.k == 7 && !(match l.ps with | a :: _ => chainB a | [] => false)) 4
def Ke (l : Qs) (q : Nm × Nat) : Bool := Xb q.1 && !(l.k == 6 && XV (l.nm.take q.2) q.1)
def YD (nm : List Nm) (r : Ru) : Bool := !((r.i.length : Int) == 0) && Qn r.i && Js r.i nm && XV nm r.t
def Xp (l : Qs) : Int := if l.nm.zipIdx.all (Ke l) && (l.k == 6 || Qn l.nm) && l.rs.all (YD l.nm) then 0 else 3
def KH : List Int → Int
 | [] => 0
 | x :: l => if x == 0 then KH l else x
def XG (f : Qs → Int → Int × Int) : List Qs → Int → Int × Int
 | [], n => (0, n)
 | q :: r, n => if (f q n).1 == 0 then XG f r (f q n).2 else f q n
def QG : Nat → Qs → Int → Int × Int
 | 0, _, n => (6, n)
 | f + 1, l, n =>
  if n ≥ 64 then (6, n)
  else if QU l != 0 then (QU l, n + 1)
  else if KH [XH l, Xp l, Q7 l, Xq l] != 0 then (KH [XH l, Xp l, Q7 l, Xq l], n + 1)
  else XG (QG f) l.ps (n + 1)
def QK (l : Qs) : Int := (QG 6 l 0).1
theorem Qd8 {f : Qs → Int → Int × Int} (hf : ∀ q n, 0 ≤ n → 0 ≤ (f q n).2) : ∀ (l : List Qs) (n : Int), 0 ≤ n → 0 ≤ (XG f l n).2
 | [], n, h => h
 | q :: r, n, h => by
  unfold XG
  split
  ·exact Qd8 hf r _ (hf q n h)
  exact hf q n h
theorem Qb5 : ∀ (f : Nat) (l : Qs) (n : Int), 0 ≤ n → 0 ≤ (QG f l n).2
 | 0, _, _, h => h
 | f + 1, l, n, h => by
  unfold QG
  split
  ·exact h
  split
  ·show (0 : Int) ≤ n + 1; omega
  split
  ·show (0 : Int) ≤ n + 1; omega
  exact Qd8 (Qb5 f) _ _ (by omega)
theorem QcC {l : List Nm} {k : Nat} {x : Nm} (h : l[k]? = some x) : l.zipIdx[k]? = some (x, k) := by simp [h]
theorem YI (b : Bool) (e : Int) : FC Tryz.prog 191 [bl b, i64 e] (i64 (X4 b e)) := by
 refine Qe [4] Tryz.func191 rfl rfl 7 Tryz.ntmps191 (Nat.le_of_ble_eq_true rfl) ?_
 intro E hN
 refine Jy ?_
 refine zq ?_ ?_ <;> intro h1
 ·
  refine Qz ?_; refine zQ ?_
  exact QB (by simp [X4, *])
 refine Qz ?_; refine zQ ?_
 exact QB (by simp [X4, *])
theorem Qlb (l : Qs) : FC Tryz.prog 152 [.agg (QP l)] (i64 (QU l)) := by
 refine Qe [2] Tryz.func152 rfl rfl 89 Tryz.ntmps152 (Nat.le_of_ble_eq_true rfl) ?_
 intro E hN
 refine Jn ?_
 refine QbM (⟨[(1, .ptr 0 0), (3, i64 (XO l)), (4, bl (Xh l.k)), (5, bl (l.k == 10)), (6, bl (Q8 l.k))], [(0, .var 26 (QP l))], 1⟩) (Jt l.k = true) ?_ ?_
 ·
  refine Jn ?_
  refine zq ?_ ?_ <;> intro h5
  ·
   refine QC ?_; refine QN ?_
   exact ⟨(by simp_all [Jt, Xh, Q8]), Qa rfl (Xr ⟨(Xe (by simp_all [XO])), rfl, (J7 (by simp_all [Xh])), rfl, (J7 (by simp_all)), rfl, (J7 (by simp_all [Q8])), rfl, trivial⟩) ⟨rfl, rfl, rfl, trivial⟩⟩
  refine Qz ?_
  refine zq ?_ ?_ <;> intro h6
  ·
   refine QN ?_
   exact ⟨(by simp_all [Jt, Xh, Q8]), Qa rfl (Xr ⟨(Xe (by simp_all [XO])), rfl, (J7 (by simp_all [Xh])), rfl, (J7 (by simp_all)), rfl, (J7 (by simp_all [Q8])), rfl, trivial⟩) ⟨rfl, rfl, rfl, trivial⟩⟩
  refine Xk ?_
  refine zq ?_ ?_ <;> intro h7
  ·
   refine Qz ?_; refine Qc ?_
   exact ⟨(by simp_all [Jt, Xh, Q8]), Qa rfl (Xr ⟨(Xe (by simp_all [XO])), rfl, (J7 (by simp_all [Xh])), rfl, (J7 (by simp_all)), rfl, (J7 (by simp_all [Q8])), rfl, trivial⟩) ⟨rfl, rfl, rfl, trivial⟩⟩
  refine Qz ?_
  refine zq ?_ ?_ <;> intro h8
  ·
   refine QC ?_; refine Qc ?_
   exact ⟨(by simp_all [Jt, Xh, Q8]), Qa rfl (Xr ⟨(Xe (by simp_all [XO])), rfl, (J7 (by simp_all [Xh])), rfl, (J7 (by simp_all)), rfl, (J7 (by simp_all [Q8])), rfl, trivial⟩) ⟨rfl, rfl, rfl, trivial⟩⟩
  refine Xk ?_
  refine zq ?_ ?_ <;> intro h9
  ·
   refine Qz ?_; refine Qc ?_
   exact ⟨(by simp_all [Jt, Xh, Q8]), Qa rfl (Xr ⟨(Xe (by simp_all [XO])), rfl, (J7 (by simp_all [Xh])), rfl, (J7 (by simp_all)), rfl, (J7 (by simp_all [Q8])), rfl, trivial⟩) ⟨rfl, rfl, rfl, trivial⟩⟩
  refine Qz ?_
  refine zq ?_ ?_ <;> intro h10
  ·
   refine QC ?_; refine Qc ?_
   exact ⟨(by simp_all [Jt, Xh, Q8]), Qa rfl (Xr ⟨(Xe (by simp_all [XO])), rfl, (J7 (by simp_all [Xh])), rfl, (J7 (by simp_all)), rfl, (J7 (by simp_all [Q8])), rfl, trivial⟩) ⟨rfl, rfl, rfl, trivial⟩⟩
  refine QA ?_
  refine zq ?_ ?_ <;> intro h11
  ·
   refine Qx ?_; refine Qc ?_
   exact ⟨(by simp_all [Jt, Xh, Q8]), Qa rfl (Xr ⟨(Xe (by simp_all [XO])), rfl, (J7 (by simp_all [Xh])), rfl, (J7 (by simp_all)), rfl, (J7 (by simp_all [Q8])), rfl, trivial⟩) ⟨rfl, rfl, rfl, trivial⟩⟩
  refine QA ?_
  refine zq ?_ ?_ <;> intro h12
  ·
   refine QC ?_; refine Qc ?_
   exact ⟨(by simp_all [Jt, Xh, Q8]), Qa rfl (Xr ⟨(Xe (by simp_all [XO])), rfl, (J7 (by simp_all [Xh])), rfl, (J7 (by simp_all)), rfl, (J7 (by simp_all [Q8])), rfl, trivial⟩) ⟨rfl, rfl, rfl, trivial⟩⟩
  refine QA ?_
  refine zq ?_ ?_ <;> intro h13
  ·
   refine Qg 4 (by kernel_rfl) (by kernel_rfl) ?_; refine Qx ?_; refine zp (XB rfl rfl) ?_; change Ql _ _ _ _ _ _; refine zS ?_
   refine Qc ?_
   exact ⟨(by simp_all [Jt, Xh, Q8]), Qa rfl (Xr ⟨(Xe (by simp_all [XO])), rfl, (J7 (by simp_all [Xh])), rfl, (J7 (by simp_all)), rfl, (J7 (by simp_all [Q8])), rfl, trivial⟩) ⟨rfl, rfl, rfl, trivial⟩⟩
  refine QA ?_
  refine zq ?_ ?_ <;> intro h17
  ·
   refine Qx ?_; refine Qc ?_
   exact ⟨(by simp_all [Jt, Xh, Q8]), Qa rfl (Xr ⟨(Xe (by simp_all [XO])), rfl, (J7 (by simp_all [Xh])), rfl, (J7 (by simp_all)), rfl, (J7 (by simp_all [Q8])), rfl, trivial⟩) ⟨rfl, rfl, rfl, trivial⟩⟩
  refine Qx ?_; refine zQ ?_
  exact QB (by simp_all [QU, Jt, Xh, Q8])
 intro hkn
 refine Yr (⟨[(1, .ptr 0 0), (7, bl (JV l))], [(0, .var 26 (QP l))], 1⟩) ?_ ?_
 ·
  refine Xj ?_
  refine zc 36 ?_ ?_ <;> intro h25
  ·
   refine QdU ?_; refine XM ?_; refine Qc ?_
   exact Qa rfl (Xr ⟨(J7 (by simp_all [JV])), rfl, trivial⟩) ⟨rfl, rfl, rfl, trivial⟩
  refine Qx ?_
  refine zc 39 ?_ ?_ <;> intro h19
  rotate_left
  ·
   refine Qz ?_; refine uP (XF h25) (Xl rfl rfl (m1 (n0 h19)) rfl) ?_; refine QA ?_
   refine zc 49 ?_ ?_ <;> intro h20
   rotate_left
   ·
    refine XM ?_
    refine zc 59 ?_ ?_ <;> intro h21
    rotate_left
    ·
     refine Jc ?_; refine Qc ?_
     exact Qa rfl (Xr ⟨(J7 (by simp_all [JV])), rfl, trivial⟩) ⟨rfl, rfl, rfl, trivial⟩
    refine Qz ?_
    refine zc 63 ?_ ?_ <;> intro h58
    ·
     refine Qx ?_; refine uP (Xo (m0 (n1 h21))) (Xf rfl rfl h58 rfl) ?_; refine Qx ?_; refine Qc ?_
     exact Qa rfl (Xr ⟨(J7 (by simp_all [JV])), rfl, trivial⟩) ⟨rfl, rfl, rfl, trivial⟩
    refine Qx ?_; refine uP (Xo (m0 (n1 h21))) (Xl rfl rfl h58 rfl) ?_; refine Qx ?_; refine Qc ?_
    exact Qa rfl (Xr ⟨(J7 (by simp_all [JV])), rfl, trivial⟩) ⟨rfl, rfl, rfl, trivial⟩
   refine Xj ?_
   refine zc 56 ?_ ?_ <;> intro h49
   ·
    refine KJ ?_; refine Qc ?_
    exact Qa rfl (Xr ⟨(J7 (by simp_all [JV])), rfl, trivial⟩) ⟨rfl, rfl, rfl, trivial⟩
   refine Qx ?_
   refine zc 59 ?_ ?_ <;> intro h21
   rotate_left
   ·
    refine Jf ?_; refine uP (XF h49) (Xl rfl rfl (m1 (n0 h21)) rfl) ?_; refine QC ?_; refine Qc ?_
    exact Qa rfl (Xr ⟨(J7 (by simp_all [JV])), rfl, trivial⟩) ⟨rfl, rfl, rfl, trivial⟩
   refine Qz ?_
   refine zc 63 ?_ ?_ <;> intro h52
   ·
    refine Qx ?_; refine uP (Xo (m0 (n1 h21))) (Xf rfl rfl h52 rfl) ?_; refine uP (XF h49) (Xf rfl rfl (m0 (n1 h21)) rfl) ?_
    refine QC ?_; refine Qc ?_
    exact Qa rfl (Xr ⟨(J7 (by simp_all [JV])), rfl, trivial⟩) ⟨rfl, rfl, rfl, trivial⟩
   refine Qx ?_; refine uP (Xo (m0 (n1 h21))) (Xl rfl rfl h52 rfl) ?_; refine uP (XF h49) (Xf rfl rfl (m0 (n1 h21)) rfl) ?_; refine QC ?_
   refine Qc ?_
   exact Qa rfl (Xr ⟨(J7 (by simp_all [JV])), rfl, trivial⟩) ⟨rfl, rfl, rfl, trivial⟩
  refine Qz ?_; refine uP (XF h25) (Xf rfl rfl (m0 (n1 h19)) rfl) ?_; refine QC ?_
  refine zc 46 ?_ ?_ <;> intro h29
  ·
   refine QdU ?_; refine Qc ?_
   exact Qa rfl (Xr ⟨(J7 (by simp_all [JV])), rfl, trivial⟩) ⟨rfl, rfl, rfl, trivial⟩
  refine Qx ?_
  refine zc 49 ?_ ?_ <;> intro h20
  rotate_left
  ·
   refine Qz ?_; refine uP (XF h29) (Xl rfl rfl (m1 (n0 h20)) rfl) ?_; refine QA ?_
   refine zc 59 ?_ ?_ <;> intro h21
   rotate_left
   ·
    refine Jc ?_; refine Qc ?_
    exact Qa rfl (Xr ⟨(J7 (by simp_all [JV])), rfl, trivial⟩) ⟨rfl, rfl, rfl, trivial⟩
   refine Qz ?_
   refine zc 63 ?_ ?_ <;> intro h42
   ·
    refine Qx ?_; refine uP (Xo (m0 (n1 h21))) (Xf rfl rfl h42 rfl) ?_; refine Qx ?_; refine Qc ?_
    exact Qa rfl (Xr ⟨(J7 (by simp_all [JV])), rfl, trivial⟩) ⟨rfl, rfl, rfl, trivial⟩
   refine Qx ?_; refine uP (Xo (m0 (n1 h21))) (Xl rfl rfl h42 rfl) ?_; refine Qx ?_; refine Qc ?_
   exact Qa rfl (Xr ⟨(J7 (by simp_all [JV])), rfl, trivial⟩) ⟨rfl, rfl, rfl, trivial⟩
  refine Qz ?_; refine uP (XF h29) (Xf rfl rfl (m0 (n1 h20)) rfl) ?_; refine QC ?_
  refine zc 56 ?_ ?_ <;> intro h33
  ·
   refine KJ ?_; refine Qc ?_
   exact Qa rfl (Xr ⟨(J7 (by simp_all [JV])), rfl, trivial⟩) ⟨rfl, rfl, rfl, trivial⟩
  refine Qx ?_
  refine zc 59 ?_ ?_ <;> intro h21
  rotate_left
  ·
   refine Jf ?_; refine uP (XF h33) (Xl rfl rfl (m1 (n0 h21)) rfl) ?_; refine QC ?_; refine Qc ?_
   exact Qa rfl (Xr ⟨(J7 (by simp_all [JV])), rfl, trivial⟩) ⟨rfl, rfl, rfl, trivial⟩
  refine Qz ?_
  refine zc 63 ?_ ?_ <;> intro h36
  ·
   refine Qx ?_; refine uP (Xo (m0 (n1 h21))) (Xf rfl rfl h36 rfl) ?_; refine uP (XF h33) (Xf rfl rfl (m0 (n1 h21)) rfl) ?_; refine QC ?_
   refine Qc ?_
   exact Qa rfl (Xr ⟨(J7 (by simp_all [JV])), rfl, trivial⟩) ⟨rfl, rfl, rfl, trivial⟩
  refine Qx ?_; refine uP (Xo (m0 (n1 h21))) (Xl rfl rfl h36 rfl) ?_; refine uP (XF h33) (Xf rfl rfl (m0 (n1 h21)) rfl) ?_; refine QC ?_
  refine Qc ?_
  exact Qa rfl (Xr ⟨(J7 (by simp_all [JV])), rfl, trivial⟩) ⟨rfl, rfl, rfl, trivial⟩
 refine Yr (⟨[(7, bl (JV l)), (8, bl (Jq l))], [], 0⟩) ?_ ?_
 ·
  refine QA ?_
  refine zc 73 ?_ ?_ <;> intro h65
  ·
   refine Jc ?_; refine Qc ?_
   exact Qa rfl (Xr ⟨(J7 (by simp_all [Jq])), rfl, trivial⟩) trivial
  refine QA ?_
  refine zc 78 ?_ ?_ <;> intro h72
  ·
   refine Xk ?_; refine Qc ?_
   exact Qa rfl (Xr ⟨(J7 (by simp_all [Jq])), rfl, trivial⟩) trivial
  refine Xk ?_; refine Qc ?_
  exact Qa rfl (Xr ⟨(J7 (by simp_all [Jq])), rfl, trivial⟩) trivial
 refine Qz ?_
 refine zc 85 ?_ ?_ <;> intro h62
 ·
  refine QC ?_; refine zP (Qb (YI _ _) rfl rfl rfl) ?_; refine zS ?_; refine zQ ?_
  exact QB (by simp [QU, *])
 refine QC ?_; refine zP (Qb (YI _ _) rfl rfl rfl) ?_; refine zS ?_; refine zQ ?_
 exact QB (by simp [QU, *])
theorem QiD (l : Qs) : FC Tryz.prog 154 [.agg (QP l)] (i64 (XH l)) := by
 refine Qe [2] Tryz.func154 rfl rfl 22 Tryz.ntmps154 (Nat.le_of_ble_eq_true rfl) ?_
 intro E hN
 refine Jy ?_; refine Yr (⟨[(1, .ptr 0 0), (3, i64 (Yy l.k))], [(0, .var 26 (QP l))], 1⟩) ?_ ?_
 ·
  refine Jc ?_
  refine zq ?_ ?_ <;> intro h5
  ·
   refine QC ?_; refine Qc ?_
   exact Qa rfl (Xr ⟨(Xe (by simp_all [Yy])), rfl, trivial⟩) ⟨rfl, rfl, rfl, trivial⟩
  refine QA ?_
  refine zq ?_ ?_ <;> intro h6
  ·
   refine QC ?_; refine Qc ?_
   exact Qa rfl (Xr ⟨(Xe (by simp_all [Yy])), rfl, trivial⟩) ⟨rfl, rfl, rfl, trivial⟩
  refine QN ?_
  exact Qa rfl (Xr ⟨(Xe (by simp_all [Yy])), rfl, trivial⟩) ⟨rfl, rfl, rfl, trivial⟩
 refine Jf ?_
 refine zc 15 ?_ ?_ <;> intro h11
 ·
  refine QA ?_; refine zP (Qb (YI _ _) rfl rfl rfl) ?_; refine zS ?_; refine zQ ?_
  exact QB (by simp only [List.length_map] at *; simp only [XH, *]; simp)
 refine QA ?_; refine zP (Qb (YI _ _) rfl rfl rfl) ?_; refine zS ?_; refine zQ ?_
 exact QB (by simp only [List.length_map] at *; simp only [XH, *]; simp)
theorem QiH (l : Qs) : FC Tryz.prog 156 [.agg (QP l)] (i64 (Q7 l)) := by
 refine Qe [2] Tryz.func156 rfl rfl 29 Tryz.ntmps156 (Nat.le_of_ble_eq_true rfl) ?_
 intro E hN
 refine Wz ?_
 refine zc 8 ?_ ?_ <;> intro h7
 ·
  refine QeN ?_; refine zP (Qb (YI _ _) rfl rfl rfl) ?_; refine zS ?_; refine zQ ?_
  exact QB (by simp only [Q7, *]; simp)
 refine QA ?_
 refine zc 13 ?_ ?_ <;> intro h11
 ·
  refine KJ ?_; refine zP (Qb (YI _ _) rfl rfl rfl) ?_; refine zS ?_; refine zQ ?_
  exact QB (by simp only [Q7, *]; simp)
 refine QA ?_
 refine zc 18 ?_ ?_ <;> intro h15
 ·
  refine Jy ?_; refine zP (Qb (YI _ _) rfl rfl rfl) ?_; refine zS ?_; refine zQ ?_
  exact QB (by simp only [Q7, *]; simp)
 refine QA ?_
 refine zc 23 ?_ ?_ <;> intro h19
 ·
  refine Qz ?_; refine zP (Qb (YI _ _) rfl rfl rfl) ?_; refine zS ?_; refine zQ ?_
  exact QB (by simp only [Q7, *]; simp)
 refine Qz ?_; refine zP (Qb (YI _ _) rfl rfl rfl) ?_; refine zS ?_; refine zQ ?_
 exact QB (by simp only [Q7, *]; simp)
theorem QiE (n : Nat) : ∀ l : Qs, SizeOf.sizeOf l < n → FC Tryz.prog 193 [.agg (QP l)] (bl (chainB l)) := by
 induction n with
 | zero => intro l h; omega
 | succ n ih =>
 intro l hl
 refine Qe [2] Tryz.func193 rfl rfl 29 Tryz.ntmps193 (Nat.le_of_ble_eq_true rfl) ?_
 intro E hN
 refine QfA ?_
 refine zq ?_ ?_ <;> intro h5
 ·
  refine QA ?_; refine zQ ?_
  exact Qq (Qbb (by simp [*])).symm
 refine QA ?_
 refine zq ?_ ?_ <;> intro h6
 ·
  refine QA ?_; refine zQ ?_
  exact Qq (Qbb (by simp [*])).symm
 refine Qz ?_
 refine zq ?_ ?_ <;> intro h7
 ·
  refine Qx ?_; refine zQ ?_
  exact Qq (Qbb (by simp [*])).symm
 refine QA ?_
 refine zq ?_ ?_ <;> intro h8
 rotate_left
 ·
  refine Qz ?_; refine zQ ?_
  exact Qq (Ji (by assumption) (by assumption) (by assumption) (.inl (by assumption))).symm
 refine Xj ?_
 refine zc 15 ?_ ?_ <;> intro h12
 rotate_left
 ·
  refine KJ ?_; refine zQ ?_
  exact Qq (by first | (rw [Qab (by assumption) hab]; simp [*]; done) | (rw [Ji (by assumption) (by assumption) (by assumption) (.inr (by simp_all; omega))]))
 obtain ⟨a, b, hab⟩ : ∃ a b, l.ps = [a, b] := by
  match hp : l.ps with
  | [a, b] => exact ⟨a, b, rfl⟩
  | [] => simp_all
  | [_] => simp_all
  | _ :: _ :: _ :: _ => simp_all; omega
 have ha : l.ps[0]? = some a := by rw [hab]; rfl
 have hb : l.ps[1]? = some b := by rw [hab]; rfl
 refine QC ?_; refine uP (Xo h12) (Qf rfl rfl rfl 0 rfl _ (Xv ha) rfl) ?_; refine Yb ?_
 refine uP (Xo h12) (Qb (ih a (by have := Qs.sizeOf_ps (List.mem_of_getElem? ha); omega)) rfl rfl rfl) ?_
 refine QC ?_
 refine zc 22 ?_ ?_ <;> intro h17
 ·
  refine QC ?_; refine uP (Xo h17) (Qf rfl rfl rfl 1 rfl _ (Xv hb) rfl) ?_; refine Yb ?_
  refine uP (Xo h17) (Qb (ih b (by have := Qs.sizeOf_ps (List.mem_of_getElem? hb); omega)) rfl rfl rfl) ?_
  refine QC ?_; refine zQ ?_
  exact Qq (by first | (rw [Qab (by assumption) hab]; simp [*]; done) | (rw [Ji (by assumption) (by assumption) (by assumption) (.inr (by simp_all; omega))]))
 refine Xj ?_; refine zQ ?_
 exact Qq (by first | (rw [Qab (by assumption) hab]; simp [*]; done) | (rw [Ji (by assumption) (by assumption) (by assumption) (.inr (by simp_all; omega))]))
theorem Qkh (l : Qs) : FC Tryz.prog 193 [.agg (QP l)] (bl (chainB l)) := QiE _ l (Nat.lt_succ_self _)
end Go.Proofs.YtnkkokmmeplbgaaGreat
