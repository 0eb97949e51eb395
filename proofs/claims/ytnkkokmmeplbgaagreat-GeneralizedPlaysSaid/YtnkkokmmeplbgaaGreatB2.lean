/-
  Contracts: descriptions of lattices are checked.
-/
import Derived.Test.YtnkkokmmeplbgaaGreatB1
namespace Go.Proofs.YtnkkokmmeplbgaaGreat
set_option maxRecDepth 100000
set_option maxHeartbeats 1000000
open Go.RowKit
def Yb (b : Bool) (e : Int) : Int := if b then e else 0
def Jn (k : Int) : Bool := k == 4 || k == 8 || k == 5 || k == 6 || k == 10
def Jc (k : Int) : Bool := k == 2 || k == 3
def YU (k : Int) : Bool := k == 1 || k == 9 || Jc k || Jn k || k == 7
def J3 (l : Qv) : Int := if l.k = 5 then 1 else if l.k = 7 then 2 else if l.k = 6 then l.nm.length else 0
def KN (l : Qv) : Bool := ((l.ps.length : Int) != J3 l) || (!Jn l.k && decide ((l.nm.length : Int) > 0)) || (!(l.k == 10) && decide ((l.rs.length : Int) > 0)) || (!Jc l.k && (l.lo != 0 || l.hi != 0))
def YF (l : Qv) : Bool := (l.k == 6 || l.k == 10) && (l.nm.length : Int) == 0
def Xr (l : Qv) : Int := if YU l.k then Yb (KN l || YF l) 1 else 1
def Ky (k : Int) : Int := if k = 6 then 8 else if k = 10 then 12 else 32
def JK (l : Qv) : Int := Yb (decide ((l.nm.length : Int) > Ky l.k) || decide ((l.rs.length : Int) > 32)) 6
def Jb (l : Qv) : Int := Yb (decide (l.lo > l.hi) || decide (l.lo < -1000000000) || decide (l.lo > 1000000000) || decide (l.hi < -1000000000) || decide (l.hi > 1000000000)) 5
def chainB (l : Qv) : Bool :=
 if l.k == 1 || l.k == 2 || l.k == 3 then true
 else if l.k == 7 then (match _h : l.ps with | [a, b] => chainB a && chainB b | _ => false)
 else false
termination_by l
decreasing_by all_goals exact Qv.sizeOf_ps (by rw [_h]; simp)
theorem Qc7 {l a b : Qv} (hk : (l.k == 7) = true) (h : l.ps = [a, b]) : chainB l = (chainB a && chainB b) := by
 have hk' : l.k = 7 := by simpa using hk
 conv => lhs; rw [chainB]
 rw [if_neg (by rw [hk']; decide), if_pos hk]
 split
 ·rename_i c d h2; rw [h] at h2; cases h2; rfl
 rename_i h2; exact absurd h (h2 a b)
theorem Yy {l : Qv} (h1 : (l.k == 1) = false) (h2 : (l.k == 2) = false) (h3 : (l.k == 3) = false) (h : (l.k == 7) = false ∨ l.ps.length ≠ 2) : chainB l = false := by
 rw [chainB, if_neg (by simp [h1, h2, h3])]
 rcases h with h | h
 ·rw [if_neg (by simp [h])]
 split
 ·split
  ·rename_i h4; rw [h4] at h; simp at h
  rfl
 rfl
theorem Qeo {l : Qv} (h : (l.k == 1 || l.k == 2 || l.k == 3) = true) : chainB l = true := by rw [chainB, if_pos h]
def Jz (l : Qv) : Int := Yb (l.k == 7 && !(match l.ps with | a :: _ => chainB a | [] => false)) 4
def QaJ (l : Qv) (q : Nm × Nat) : Bool := XP q.1 && !(l.k == 6 && X6 (l.nm.take q.2) q.1)
def WN (nm : List Nm) (r : Ru) : Bool := !((r.i.length : Int) == 0) && Qt r.i && J6 r.i nm && X6 nm r.t
def Jy (l : Qv) : Int := if l.nm.zipIdx.all (QaJ l) && (l.k == 6 || Qt l.nm) && l.rs.all (WN l.nm) then 0 else 3
def orE : List Int → Int
 | [] => 0
 | x :: l => if x == 0 then orE l else x
def JM (f : Qv → Int → Int × Int) : List Qv → Int → Int × Int
 | [], n => (0, n)
 | q :: r, n => if (f q n).1 == 0 then JM f r (f q n).2 else f q n
def Xd : Nat → Qv → Int → Int × Int
 | 0, _, n => (6, n)
 | f + 1, l, n =>
  if n ≥ 64 then (6, n)
  else if Xr l != 0 then (Xr l, n + 1)
  else if orE [JK l, Jy l, Jb l, Jz l] != 0 then (orE [JK l, Jy l, Jb l, Jz l], n + 1)
  else JM (Xd f) l.ps (n + 1)
def QB (l : Qv) : Int := (Xd 6 l 0).1
theorem Qib {f : Qv → Int → Int × Int} (hf : ∀ q n, 0 ≤ n → 0 ≤ (f q n).2) : ∀ (l : List Qv) (n : Int), 0 ≤ n → 0 ≤ (JM f l n).2
 | [], n, h => h
 | q :: r, n, h => by
  unfold JM
  split
  ·exact Qib hf r _ (hf q n h)
  exact hf q n h
theorem QfF : ∀ (f : Nat) (l : Qv) (n : Int), 0 ≤ n → 0 ≤ (Xd f l n).2
 | 0, _, _, h => h
 | f + 1, l, n, h => by
  unfold Xd
  split
  ·exact h
  split
  ·show (0 : Int) ≤ n + 1; omega
  split
  ·show (0 : Int) ≤ n + 1; omega
  exact Qib (QfF f) _ _ (by omega)
theorem Qgj {l : List Nm} {k : Nat} {x : Nm} (h : l[k]? = some x) : l.zipIdx[k]? = some (x, k) := by simp [h]
theorem WT (b : Bool) (e : Int) : FC Tryz.prog 191 [bl b, i64 e] (i64 (Yb b e)) := by
 refine Qh [4] Tryz.func191 rfl rfl 7 Tryz.ntmps191 (Nat.le_of_ble_eq_true rfl) ?_
 intro E hN;refine X3 ?_
 refine zq ?_ ?_ <;> intro h1
 ·refine QC ?_;refine zQ ?_;exact QZ (by simp [Yb, *])
 refine QC ?_;refine zQ ?_;exact QZ (by simp [Yb, *])
theorem QrF (l : Qv) : FC Tryz.prog 152 [.agg (Q2 l)] (i64 (Xr l)) := by
 refine Qh [2] Tryz.func152 rfl rfl 89 Tryz.ntmps152 (Nat.le_of_ble_eq_true rfl) ?_
 intro E hN;refine Jx ?_;refine QcV (⟨[(1, .ptr 0 0), (3, i64 (J3 l)), (4, bl (Jn l.k)), (5, bl (l.k == 10)), (6, bl (Jc l.k))], [(0, .var 26 (Q2 l))], 1⟩) (YU l.k = true) ?_ ?_
 ·refine Jx ?_
  refine zq ?_ ?_ <;> intro h5
  ·refine QH ?_;refine QO ?_;exact ⟨(by simp_all [YU, Jn, Jc]), Qa rfl (XE ⟨(Y6 (by simp_all [J3])), rfl, (Kk (by simp_all [Jn])), rfl, (Kk (by simp_all)), rfl, (Kk (by simp_all [Jc])), rfl, trivial⟩) ⟨rfl, rfl, rfl, trivial⟩⟩
  refine QC ?_
  refine zq ?_ ?_ <;> intro h6
  ·refine QO ?_;exact ⟨(by simp_all [YU, Jn, Jc]), Qa rfl (XE ⟨(Y6 (by simp_all [J3])), rfl, (Kk (by simp_all [Jn])), rfl, (Kk (by simp_all)), rfl, (Kk (by simp_all [Jc])), rfl, trivial⟩) ⟨rfl, rfl, rfl, trivial⟩⟩
  refine Xk ?_
  refine zq ?_ ?_ <;> intro h7
  ·refine QC ?_;refine Qb ?_;exact ⟨(by simp_all [YU, Jn, Jc]), Qa rfl (XE ⟨(Y6 (by simp_all [J3])), rfl, (Kk (by simp_all [Jn])), rfl, (Kk (by simp_all)), rfl, (Kk (by simp_all [Jc])), rfl, trivial⟩) ⟨rfl, rfl, rfl, trivial⟩⟩
  refine QC ?_
  refine zq ?_ ?_ <;> intro h8
  ·refine QH ?_;refine Qb ?_;exact ⟨(by simp_all [YU, Jn, Jc]), Qa rfl (XE ⟨(Y6 (by simp_all [J3])), rfl, (Kk (by simp_all [Jn])), rfl, (Kk (by simp_all)), rfl, (Kk (by simp_all [Jc])), rfl, trivial⟩) ⟨rfl, rfl, rfl, trivial⟩⟩
  refine Xk ?_
  refine zq ?_ ?_ <;> intro h9
  ·refine QC ?_;refine Qb ?_;exact ⟨(by simp_all [YU, Jn, Jc]), Qa rfl (XE ⟨(Y6 (by simp_all [J3])), rfl, (Kk (by simp_all [Jn])), rfl, (Kk (by simp_all)), rfl, (Kk (by simp_all [Jc])), rfl, trivial⟩) ⟨rfl, rfl, rfl, trivial⟩⟩
  refine QC ?_
  refine zq ?_ ?_ <;> intro h10
  ·refine QH ?_;refine Qb ?_;exact ⟨(by simp_all [YU, Jn, Jc]), Qa rfl (XE ⟨(Y6 (by simp_all [J3])), rfl, (Kk (by simp_all [Jn])), rfl, (Kk (by simp_all)), rfl, (Kk (by simp_all [Jc])), rfl, trivial⟩) ⟨rfl, rfl, rfl, trivial⟩⟩
  refine Qy ?_
  refine zq ?_ ?_ <;> intro h11
  ·refine QD ?_;refine Qb ?_;exact ⟨(by simp_all [YU, Jn, Jc]), Qa rfl (XE ⟨(Y6 (by simp_all [J3])), rfl, (Kk (by simp_all [Jn])), rfl, (Kk (by simp_all)), rfl, (Kk (by simp_all [Jc])), rfl, trivial⟩) ⟨rfl, rfl, rfl, trivial⟩⟩
  refine Qy ?_
  refine zq ?_ ?_ <;> intro h12
  ·refine QH ?_;refine Qb ?_;exact ⟨(by simp_all [YU, Jn, Jc]), Qa rfl (XE ⟨(Y6 (by simp_all [J3])), rfl, (Kk (by simp_all [Jn])), rfl, (Kk (by simp_all)), rfl, (Kk (by simp_all [Jc])), rfl, trivial⟩) ⟨rfl, rfl, rfl, trivial⟩⟩
  refine Qy ?_
  refine zq ?_ ?_ <;> intro h13
  ·refine zD 4 ?_;refine QD ?_;refine zp (JC rfl rfl) ?_;refine zS ?_;refine Qb ?_;exact ⟨(by simp_all [YU, Jn, Jc]), Qa rfl (XE ⟨(Y6 (by simp_all [J3])), rfl, (Kk (by simp_all [Jn])), rfl, (Kk (by simp_all)), rfl, (Kk (by simp_all [Jc])), rfl, trivial⟩) ⟨rfl, rfl, rfl, trivial⟩⟩
  refine Qy ?_
  refine zq ?_ ?_ <;> intro h17
  ·refine QD ?_;refine Qb ?_;exact ⟨(by simp_all [YU, Jn, Jc]), Qa rfl (XE ⟨(Y6 (by simp_all [J3])), rfl, (Kk (by simp_all [Jn])), rfl, (Kk (by simp_all)), rfl, (Kk (by simp_all [Jc])), rfl, trivial⟩) ⟨rfl, rfl, rfl, trivial⟩⟩
  refine QD ?_;refine zQ ?_;exact QZ (by simp_all [Xr, YU, Jn, Jc])
 intro hkn;refine JT (⟨[(1, .ptr 0 0), (7, bl (KN l))], [(0, .var 26 (Q2 l))], 1⟩) ?_ ?_
 ·refine Xg ?_
  refine zc 36 ?_ ?_ <;> intro h25
  ·refine QaZ ?_;refine Xs ?_;refine Qb ?_;exact Qa rfl (XE ⟨(Kk (by simp_all [KN])), rfl, trivial⟩) ⟨rfl, rfl, rfl, trivial⟩
  refine QD ?_
  refine zc 39 ?_ ?_ <;> intro h19
  rotate_left
  ·refine QC ?_;refine uP (X0 h25) (Xx rfl rfl (m1 (n0 h19)) rfl) ?_;refine Qy ?_
   refine zc 49 ?_ ?_ <;> intro h20
   rotate_left
   ·refine Xs ?_
    refine zc 59 ?_ ?_ <;> intro h21
    rotate_left
    ·refine Xn ?_;refine Qb ?_;exact Qa rfl (XE ⟨(Kk (by simp_all [KN])), rfl, trivial⟩) ⟨rfl, rfl, rfl, trivial⟩
    refine QC ?_
    refine zc 63 ?_ ?_ <;> intro h58
    ·refine QD ?_;refine uP (XO (m0 (n1 h21))) (XF rfl rfl h58 rfl) ?_;refine QD ?_;refine Qb ?_;exact Qa rfl (XE ⟨(Kk (by simp_all [KN])), rfl, trivial⟩) ⟨rfl, rfl, rfl, trivial⟩
    refine QD ?_;refine uP (XO (m0 (n1 h21))) (Xx rfl rfl h58 rfl) ?_;refine QD ?_;refine Qb ?_;exact Qa rfl (XE ⟨(Kk (by simp_all [KN])), rfl, trivial⟩) ⟨rfl, rfl, rfl, trivial⟩
   refine Xg ?_
   refine zc 56 ?_ ?_ <;> intro h49
   ·refine YI ?_;refine Qb ?_;exact Qa rfl (XE ⟨(Kk (by simp_all [KN])), rfl, trivial⟩) ⟨rfl, rfl, rfl, trivial⟩
   refine QD ?_
   refine zc 59 ?_ ?_ <;> intro h21
   rotate_left
   ·refine Xo ?_;refine uP (X0 h49) (Xx rfl rfl (m1 (n0 h21)) rfl) ?_;refine QH ?_;refine Qb ?_;exact Qa rfl (XE ⟨(Kk (by simp_all [KN])), rfl, trivial⟩) ⟨rfl, rfl, rfl, trivial⟩
   refine QC ?_
   refine zc 63 ?_ ?_ <;> intro h52
   ·refine QD ?_;refine uP (XO (m0 (n1 h21))) (XF rfl rfl h52 rfl) ?_;refine uP (X0 h49) (XF rfl rfl (m0 (n1 h21)) rfl) ?_;refine QH ?_;refine Qb ?_;exact Qa rfl (XE ⟨(Kk (by simp_all [KN])), rfl, trivial⟩) ⟨rfl, rfl, rfl, trivial⟩
   refine QD ?_;refine uP (XO (m0 (n1 h21))) (Xx rfl rfl h52 rfl) ?_;refine uP (X0 h49) (XF rfl rfl (m0 (n1 h21)) rfl) ?_;refine QH ?_;refine Qb ?_;exact Qa rfl (XE ⟨(Kk (by simp_all [KN])), rfl, trivial⟩) ⟨rfl, rfl, rfl, trivial⟩
  refine QC ?_;refine uP (X0 h25) (XF rfl rfl (m0 (n1 h19)) rfl) ?_;refine QH ?_
  refine zc 46 ?_ ?_ <;> intro h29
  ·refine QaZ ?_;refine Qb ?_;exact Qa rfl (XE ⟨(Kk (by simp_all [KN])), rfl, trivial⟩) ⟨rfl, rfl, rfl, trivial⟩
  refine QD ?_
  refine zc 49 ?_ ?_ <;> intro h20
  rotate_left
  ·refine QC ?_;refine uP (X0 h29) (Xx rfl rfl (m1 (n0 h20)) rfl) ?_;refine Qy ?_
   refine zc 59 ?_ ?_ <;> intro h21
   rotate_left
   ·refine Xn ?_;refine Qb ?_;exact Qa rfl (XE ⟨(Kk (by simp_all [KN])), rfl, trivial⟩) ⟨rfl, rfl, rfl, trivial⟩
   refine QC ?_
   refine zc 63 ?_ ?_ <;> intro h42
   ·refine QD ?_;refine uP (XO (m0 (n1 h21))) (XF rfl rfl h42 rfl) ?_;refine QD ?_;refine Qb ?_;exact Qa rfl (XE ⟨(Kk (by simp_all [KN])), rfl, trivial⟩) ⟨rfl, rfl, rfl, trivial⟩
   refine QD ?_;refine uP (XO (m0 (n1 h21))) (Xx rfl rfl h42 rfl) ?_;refine QD ?_;refine Qb ?_;exact Qa rfl (XE ⟨(Kk (by simp_all [KN])), rfl, trivial⟩) ⟨rfl, rfl, rfl, trivial⟩
  refine QC ?_;refine uP (X0 h29) (XF rfl rfl (m0 (n1 h20)) rfl) ?_;refine QH ?_
  refine zc 56 ?_ ?_ <;> intro h33
  ·refine YI ?_;refine Qb ?_;exact Qa rfl (XE ⟨(Kk (by simp_all [KN])), rfl, trivial⟩) ⟨rfl, rfl, rfl, trivial⟩
  refine QD ?_
  refine zc 59 ?_ ?_ <;> intro h21
  rotate_left
  ·refine Xo ?_;refine uP (X0 h33) (Xx rfl rfl (m1 (n0 h21)) rfl) ?_;refine QH ?_;refine Qb ?_;exact Qa rfl (XE ⟨(Kk (by simp_all [KN])), rfl, trivial⟩) ⟨rfl, rfl, rfl, trivial⟩
  refine QC ?_
  refine zc 63 ?_ ?_ <;> intro h36
  ·refine QD ?_;refine uP (XO (m0 (n1 h21))) (XF rfl rfl h36 rfl) ?_;refine uP (X0 h33) (XF rfl rfl (m0 (n1 h21)) rfl) ?_;refine QH ?_;refine Qb ?_;exact Qa rfl (XE ⟨(Kk (by simp_all [KN])), rfl, trivial⟩) ⟨rfl, rfl, rfl, trivial⟩
  refine QD ?_;refine uP (XO (m0 (n1 h21))) (Xx rfl rfl h36 rfl) ?_;refine uP (X0 h33) (XF rfl rfl (m0 (n1 h21)) rfl) ?_;refine QH ?_;refine Qb ?_;exact Qa rfl (XE ⟨(Kk (by simp_all [KN])), rfl, trivial⟩) ⟨rfl, rfl, rfl, trivial⟩
 refine JT (⟨[(7, bl (KN l)), (8, bl (YF l))], [], 0⟩) ?_ ?_
 ·refine Qy ?_
  refine zc 73 ?_ ?_ <;> intro h65
  ·refine Xn ?_;refine Qb ?_;exact Qa rfl (XE ⟨(Kk (by simp_all [YF])), rfl, trivial⟩) trivial
  refine Qy ?_
  refine zc 78 ?_ ?_ <;> intro h72
  ·refine Xk ?_;refine Qb ?_;exact Qa rfl (XE ⟨(Kk (by simp_all [YF])), rfl, trivial⟩) trivial
  refine Xk ?_;refine Qb ?_;exact Qa rfl (XE ⟨(Kk (by simp_all [YF])), rfl, trivial⟩) trivial
 refine QC ?_
 refine zc 85 ?_ ?_ <;> intro h62
 ·refine QH ?_;refine zP (Qd (WT _ _) rfl rfl rfl) ?_;refine zS ?_;refine zQ ?_;exact QZ (by simp [Xr, *])
 refine QH ?_;refine zP (Qd (WT _ _) rfl rfl rfl) ?_;refine zS ?_;refine zQ ?_;exact QZ (by simp [Xr, *])
theorem Qog (l : Qv) : FC Tryz.prog 154 [.agg (Q2 l)] (i64 (JK l)) := by
 refine Qh [2] Tryz.func154 rfl rfl 22 Tryz.ntmps154 (Nat.le_of_ble_eq_true rfl) ?_
 intro E hN;refine X3 ?_;refine JT (⟨[(1, .ptr 0 0), (3, i64 (Ky l.k))], [(0, .var 26 (Q2 l))], 1⟩) ?_ ?_
 ·refine Xn ?_
  refine zq ?_ ?_ <;> intro h5
  ·refine QH ?_;refine Qb ?_;exact Qa rfl (XE ⟨(Y6 (by simp_all [Ky])), rfl, trivial⟩) ⟨rfl, rfl, rfl, trivial⟩
  refine Qy ?_
  refine zq ?_ ?_ <;> intro h6
  ·refine QH ?_;refine Qb ?_;exact Qa rfl (XE ⟨(Y6 (by simp_all [Ky])), rfl, trivial⟩) ⟨rfl, rfl, rfl, trivial⟩
  refine QO ?_;exact Qa rfl (XE ⟨(Y6 (by simp_all [Ky])), rfl, trivial⟩) ⟨rfl, rfl, rfl, trivial⟩
 refine Xo ?_
 refine zc 15 ?_ ?_ <;> intro h11
 ·refine Qy ?_;refine zP (Qd (WT _ _) rfl rfl rfl) ?_;refine zS ?_;refine zQ ?_;exact QZ (by simp only [List.length_map] at *; simp only [JK, *]; simp)
 refine Qy ?_;refine zP (Qd (WT _ _) rfl rfl rfl) ?_;refine zS ?_;refine zQ ?_;exact QZ (by simp only [List.length_map] at *; simp only [JK, *]; simp)
theorem Qok (l : Qv) : FC Tryz.prog 156 [.agg (Q2 l)] (i64 (Jb l)) := by
 refine Qh [2] Tryz.func156 rfl rfl 29 Tryz.ntmps156 (Nat.le_of_ble_eq_true rfl) ?_
 intro E hN;refine WV ?_
 refine zc 8 ?_ ?_ <;> intro h7
 ·refine Qes ?_;refine zP (Qd (WT _ _) rfl rfl rfl) ?_;refine zS ?_;refine zQ ?_;exact QZ (by simp only [Jb, *]; simp)
 refine Qy ?_
 refine zc 13 ?_ ?_ <;> intro h11
 ·refine YI ?_;refine zP (Qd (WT _ _) rfl rfl rfl) ?_;refine zS ?_;refine zQ ?_;exact QZ (by simp only [Jb, *]; simp)
 refine Qy ?_
 refine zc 18 ?_ ?_ <;> intro h15
 ·refine X3 ?_;refine zP (Qd (WT _ _) rfl rfl rfl) ?_;refine zS ?_;refine zQ ?_;exact QZ (by simp only [Jb, *]; simp)
 refine Qy ?_
 refine zc 23 ?_ ?_ <;> intro h19
 ·refine QC ?_;refine zP (Qd (WT _ _) rfl rfl rfl) ?_;refine zS ?_;refine zQ ?_;exact QZ (by simp only [Jb, *]; simp)
 refine QC ?_;refine zP (Qd (WT _ _) rfl rfl rfl) ?_;refine zS ?_;refine zQ ?_;exact QZ (by simp only [Jb, *]; simp)
theorem Qoh (n : Nat) : ∀ l : Qv, SizeOf.sizeOf l < n → FC Tryz.prog 193 [.agg (Q2 l)] (bl (chainB l)) := by
 induction n with
 | zero => intro l h; omega
 | succ n ih =>
 intro l hl
 refine Qh [2] Tryz.func193 rfl rfl 29 Tryz.ntmps193 (Nat.le_of_ble_eq_true rfl) ?_
 intro E hN;refine Wn ?_
 refine zq ?_ ?_ <;> intro h5
 ·refine Qy ?_;refine zQ ?_;exact Qo (Qeo (by simp [*])).symm
 refine Qy ?_
 refine zq ?_ ?_ <;> intro h6
 ·refine Qy ?_;refine zQ ?_;exact Qo (Qeo (by simp [*])).symm
 refine QC ?_
 refine zq ?_ ?_ <;> intro h7
 ·refine QD ?_;refine zQ ?_;exact Qo (Qeo (by simp [*])).symm
 refine Qy ?_
 refine zq ?_ ?_ <;> intro h8
 rotate_left
 ·refine QC ?_;refine zQ ?_;exact Qo (Yy (by assumption) (by assumption) (by assumption) (.inl (by assumption))).symm
 refine Xg ?_
 refine zc 15 ?_ ?_ <;> intro h12
 rotate_left
 ·refine YI ?_;refine zQ ?_;exact Qo (by first | (rw [Qc7 (by assumption) hab]; simp [*]; done) | (rw [Yy (by assumption) (by assumption) (by assumption) (.inr (by simp_all; omega))]))
 obtain ⟨a, b, hab⟩ : ∃ a b, l.ps = [a, b] := by
  match hp : l.ps with
  | [a, b] => exact ⟨a, b, rfl⟩
  | [] => simp_all
  | [_] => simp_all
  | _ :: _ :: _ :: _ => simp_all; omega
 have ha : l.ps[0]? = some a := by rw [hab]; rfl
 have hb : l.ps[1]? = some b := by rw [hab]; rfl
 refine QH ?_;refine uP (XO h12) (Qf rfl rfl rfl 0 rfl _ (XK ha) rfl) ?_;refine JB ?_;refine uP (XO h12) (Qd (ih a (by have := Qv.sizeOf_ps (List.mem_of_getElem? ha); omega)) rfl rfl rfl) ?_;refine QH ?_
 refine zc 22 ?_ ?_ <;> intro h17
 ·refine QH ?_;refine uP (XO h17) (Qf rfl rfl rfl 1 rfl _ (XK hb) rfl) ?_;refine JB ?_;refine uP (XO h17) (Qd (ih b (by have := Qv.sizeOf_ps (List.mem_of_getElem? hb); omega)) rfl rfl rfl) ?_;refine QH ?_;refine zQ ?_;exact Qo (by first | (rw [Qc7 (by assumption) hab]; simp [*]; done) | (rw [Yy (by assumption) (by assumption) (by assumption) (.inr (by simp_all; omega))]))
 refine Xg ?_;refine zQ ?_;exact Qo (by first | (rw [Qc7 (by assumption) hab]; simp [*]; done) | (rw [Yy (by assumption) (by assumption) (by assumption) (.inr (by simp_all; omega))]))
theorem QqA (l : Qv) : FC Tryz.prog 193 [.agg (Q2 l)] (bl (chainB l)) := Qoh _ l (Nat.lt_succ_self _)
end Go.Proofs.YtnkkokmmeplbgaaGreat
