/-
  Contracts: descriptions of lattices are checked.
-/
import Derived.Test.YtnkkokmmeplbgaaGreatB1
namespace Go.Proofs.YtnkkokmmeplbgaaGreat
set_option maxRecDepth 100000
set_option maxHeartbeats 1000000
open Go.RowKit
def J1 (b : Bool) (e : Int) : Int := if b then e else 0
def Ji (k : Int) : Bool := k == 4 || k == 8 || k == 5 || k == 6 || k == 10
def X8 (k : Int) : Bool := k == 2 || k == 3
def Yz (k : Int) : Bool := k == 1 || k == 9 || X8 k || Ji k || k == 7
def JL (l : QD) : Int := if l.k = 5 then 1 else if l.k = 7 then 2 else if l.k = 6 then l.nm.length else 0
def Kj (l : QD) : Bool := ((l.ps.length : Int) != JL l) || (!Ji l.k && decide ((l.nm.length : Int) > 0)) || (!(l.k == 10) && decide ((l.rs.length : Int) > 0)) || (!X8 l.k && (l.lo != 0 || l.hi != 0))
def Yn (l : QD) : Bool := (l.k == 6 || l.k == 10) && (l.nm.length : Int) == 0
def Xo (l : QD) : Int := if Yz l.k then J1 (Kj l || Yn l) 1 else 1
def Y7 (k : Int) : Int := if k = 6 then 8 else if k = 10 then 12 else 32
def JC (l : QD) : Int := J1 (decide ((l.nm.length : Int) > Y7 l.k) || decide ((l.rs.length : Int) > 32)) 6
def X7 (l : QD) : Int := J1 (decide (l.lo > l.hi) || decide (l.lo < -1000000000) || decide (l.lo > 1000000000) || decide (l.hi < -1000000000) || decide (l.hi > 1000000000)) 5
def chainB (l : QD) : Bool :=
 if l.k == 1 || l.k == 2 || l.k == 3 then true
 else if l.k == 7 then (match _h : l.ps with | [a, b] => chainB a && chainB b | _ => false)
 else false
termination_by l
decreasing_by all_goals exact QD.sizeOf_ps (by rw [_h]; simp)
theorem Qck {l a b : QD} (hk : (l.k == 7) = true) (h : l.ps = [a, b]) : chainB l = (chainB a && chainB b) := by
 have hk' : l.k = 7 := by simpa using hk
 conv => lhs; rw [chainB]
 rw [if_neg (by rw [hk']; decide), if_pos hk]
 split
 ·rename_i c d h2; rw [h] at h2; cases h2; rfl
 rename_i h2; exact absurd h (h2 a b)
theorem Yh {l : QD} (h1 : (l.k == 1) = false) (h2 : (l.k == 2) = false) (h3 : (l.k == 3) = false) (h : (l.k == 7) = false ∨ l.ps.length ≠ 2) : chainB l = false := by
 rw [chainB, if_neg (by simp [h1, h2, h3])]
 rcases h with h | h
 ·rw [if_neg (by simp [h])]
 split
 ·split
  ·rename_i h4; rw [h4] at h; simp at h
  rfl
 rfl
theorem Qd1 {l : QD} (h : (l.k == 1 || l.k == 2 || l.k == 3) = true) : chainB l = true := by rw [chainB, if_pos h]
def Js (l : QD) : Int := J1 (l.k == 7 && !(match l.ps with | a :: _ => chainB a | [] => false)) 4
def W0 (l : QD) (q : Nm × Nat) : Bool := XM q.1 && !(l.k == 6 && X2 (l.nm.take q.2) q.1)
def K5 (nm : List Nm) (r : Ru) : Bool := !((r.i.length : Int) == 0) && Qq r.i && JT r.i nm && X2 nm r.t
def Jr (l : QD) : Int := if l.nm.zipIdx.all (W0 l) && (l.k == 6 || Qq l.nm) && l.rs.all (K5 l.nm) then 0 else 3
def orE : List Int → Int
 | [] => 0
 | x :: l => if x == 0 then orE l else x
def JE (f : QD → Int → Int × Int) : List QD → Int → Int × Int
 | [], n => (0, n)
 | q :: r, n => if (f q n).1 == 0 then JE f r (f q n).2 else f q n
def Xc : Nat → QD → Int → Int × Int
 | 0, _, n => (6, n)
 | f + 1, l, n =>
  if n ≥ 64 then (6, n)
  else if Xo l != 0 then (Xo l, n + 1)
  else if orE [JC l, Jr l, X7 l, Js l] != 0 then (orE [JC l, Jr l, X7 l, Js l], n + 1)
  else JE (Xc f) l.ps (n + 1)
def Xp (l : QD) : Int := (Xc 6 l 0).1
theorem Qhu {f : QD → Int → Int × Int} (hf : ∀ q n, 0 ≤ n → 0 ≤ (f q n).2) : ∀ (l : List QD) (n : Int), 0 ≤ n → 0 ≤ (JE f l n).2
 | [], n, h => h
 | q :: r, n, h => by
  unfold JE
  split
  ·exact Qhu hf r _ (hf q n h)
  exact hf q n h
theorem QeE : ∀ (f : Nat) (l : QD) (n : Int), 0 ≤ n → 0 ≤ (Xc f l n).2
 | 0, _, _, h => h
 | f + 1, l, n, h => by
  unfold Xc
  split
  ·exact h
  split
  ·show (0 : Int) ≤ n + 1; omega
  split
  ·show (0 : Int) ≤ n + 1; omega
  exact Qhu (QeE f) _ _ (by omega)
theorem QfR {l : List Nm} {k : Nat} {x : Nm} (h : l[k]? = some x) : l.zipIdx[k]? = some (x, k) := by simp [h]
theorem Wg (b : Bool) (e : Int) : FC Tryz.prog 191 [bl b, i64 e] (i64 (J1 b e)) := by
 refine Qg [4] Tryz.func191 rfl rfl 7 Tryz.ntmps191 (Nat.le_of_ble_eq_true rfl) ?_
 intro E hN
 refine JA ?_
 refine zq ?_ ?_ <;> intro h1
 ·
  refine Qv ?_; refine zQ ?_
  exact QS (by simp [J1, *])
 refine Qv ?_; refine zQ ?_
 exact QS (by simp [J1, *])
theorem QoR (l : QD) : FC Tryz.prog 152 [.agg (Q2 l)] (i64 (Xo l)) := by
 refine Qg [2] Tryz.func152 rfl rfl 89 Tryz.ntmps152 (Nat.le_of_ble_eq_true rfl) ?_
 intro E hN
 refine X6 ?_
 refine Qch (⟨[(1, .ptr 0 0), (3, i64 (JL l)), (4, bl (Ji l.k)), (5, bl (l.k == 10)), (6, bl (X8 l.k))], [(0, .var 26 (Q2 l))], 1⟩) (Yz l.k = true) ?_ ?_
 ·
  refine X6 ?_
  refine zq ?_ ?_ <;> intro h5
  ·
   refine Qu ?_; refine Xn ?_
   exact ⟨(by simp_all [Yz, Ji, X8]), Qa rfl (Xv ⟨(Q0 (by simp_all [JL])), rfl, (YT (by simp_all [Ji])), rfl, (YT (by simp_all)), rfl, (YT (by simp_all [X8])), rfl, trivial⟩) ⟨rfl, rfl, rfl, trivial⟩⟩
  refine Qv ?_
  refine zq ?_ ?_ <;> intro h6
  ·
   refine Xn ?_
   exact ⟨(by simp_all [Yz, Ji, X8]), Qa rfl (Xv ⟨(Q0 (by simp_all [JL])), rfl, (YT (by simp_all [Ji])), rfl, (YT (by simp_all)), rfl, (YT (by simp_all [X8])), rfl, trivial⟩) ⟨rfl, rfl, rfl, trivial⟩⟩
  refine Q8 ?_
  refine zq ?_ ?_ <;> intro h7
  ·
   refine Qv ?_; refine Qb ?_
   exact ⟨(by simp_all [Yz, Ji, X8]), Qa rfl (Xv ⟨(Q0 (by simp_all [JL])), rfl, (YT (by simp_all [Ji])), rfl, (YT (by simp_all)), rfl, (YT (by simp_all [X8])), rfl, trivial⟩) ⟨rfl, rfl, rfl, trivial⟩⟩
  refine Qv ?_
  refine zq ?_ ?_ <;> intro h8
  ·
   refine Qu ?_; refine Qb ?_
   exact ⟨(by simp_all [Yz, Ji, X8]), Qa rfl (Xv ⟨(Q0 (by simp_all [JL])), rfl, (YT (by simp_all [Ji])), rfl, (YT (by simp_all)), rfl, (YT (by simp_all [X8])), rfl, trivial⟩) ⟨rfl, rfl, rfl, trivial⟩⟩
  refine Q8 ?_
  refine zq ?_ ?_ <;> intro h9
  ·
   refine Qv ?_; refine Qb ?_
   exact ⟨(by simp_all [Yz, Ji, X8]), Qa rfl (Xv ⟨(Q0 (by simp_all [JL])), rfl, (YT (by simp_all [Ji])), rfl, (YT (by simp_all)), rfl, (YT (by simp_all [X8])), rfl, trivial⟩) ⟨rfl, rfl, rfl, trivial⟩⟩
  refine Qv ?_
  refine zq ?_ ?_ <;> intro h10
  ·
   refine Qu ?_; refine Qb ?_
   exact ⟨(by simp_all [Yz, Ji, X8]), Qa rfl (Xv ⟨(Q0 (by simp_all [JL])), rfl, (YT (by simp_all [Ji])), rfl, (YT (by simp_all)), rfl, (YT (by simp_all [X8])), rfl, trivial⟩) ⟨rfl, rfl, rfl, trivial⟩⟩
  refine QF ?_
  refine zq ?_ ?_ <;> intro h11
  ·
   refine Qs ?_; refine Qb ?_
   exact ⟨(by simp_all [Yz, Ji, X8]), Qa rfl (Xv ⟨(Q0 (by simp_all [JL])), rfl, (YT (by simp_all [Ji])), rfl, (YT (by simp_all)), rfl, (YT (by simp_all [X8])), rfl, trivial⟩) ⟨rfl, rfl, rfl, trivial⟩⟩
  refine QF ?_
  refine zq ?_ ?_ <;> intro h12
  ·
   refine Qu ?_; refine Qb ?_
   exact ⟨(by simp_all [Yz, Ji, X8]), Qa rfl (Xv ⟨(Q0 (by simp_all [JL])), rfl, (YT (by simp_all [Ji])), rfl, (YT (by simp_all)), rfl, (YT (by simp_all [X8])), rfl, trivial⟩) ⟨rfl, rfl, rfl, trivial⟩⟩
  refine QF ?_
  refine zq ?_ ?_ <;> intro h13
  ·
   refine Qd 4 (by kernel_rfl) (by kernel_rfl) ?_; refine Qs ?_; refine zp (Xb rfl rfl) ?_; change Qj _ _ _ _ _ _; refine zS ?_
   refine Qb ?_
   exact ⟨(by simp_all [Yz, Ji, X8]), Qa rfl (Xv ⟨(Q0 (by simp_all [JL])), rfl, (YT (by simp_all [Ji])), rfl, (YT (by simp_all)), rfl, (YT (by simp_all [X8])), rfl, trivial⟩) ⟨rfl, rfl, rfl, trivial⟩⟩
  refine QF ?_
  refine zq ?_ ?_ <;> intro h17
  ·
   refine Qs ?_; refine Qb ?_
   exact ⟨(by simp_all [Yz, Ji, X8]), Qa rfl (Xv ⟨(Q0 (by simp_all [JL])), rfl, (YT (by simp_all [Ji])), rfl, (YT (by simp_all)), rfl, (YT (by simp_all [X8])), rfl, trivial⟩) ⟨rfl, rfl, rfl, trivial⟩⟩
  refine Qs ?_; refine zQ ?_
  exact QS (by simp_all [Xo, Yz, Ji, X8])
 intro hkn
 refine Wm (⟨[(1, .ptr 0 0), (7, bl (Kj l))], [(0, .var 26 (Q2 l))], 1⟩) ?_ ?_
 ·
  refine Q4 ?_
  refine zc 36 ?_ ?_ <;> intro h25
  ·
   refine QaA ?_; refine XB ?_; refine Qb ?_
   exact Qa rfl (Xv ⟨(YT (by simp_all [Kj])), rfl, trivial⟩) ⟨rfl, rfl, rfl, trivial⟩
  refine Qs ?_
  refine zc 39 ?_ ?_ <;> intro h19
  rotate_left
  ·
   refine Qv ?_; refine uP (Xj h25) (Xw rfl rfl (m1 (n0 h19)) rfl) ?_; refine QF ?_
   refine zc 49 ?_ ?_ <;> intro h20
   rotate_left
   ·
    refine XB ?_
    refine zc 59 ?_ ?_ <;> intro h21
    rotate_left
    ·
     refine Jv ?_; refine Qb ?_
     exact Qa rfl (Xv ⟨(YT (by simp_all [Kj])), rfl, trivial⟩) ⟨rfl, rfl, rfl, trivial⟩
    refine Qv ?_
    refine zc 63 ?_ ?_ <;> intro h58
    ·
     refine Qs ?_; refine uP (XG (m0 (n1 h21))) (Xu rfl rfl h58 rfl) ?_; refine Qs ?_; refine Qb ?_
     exact Qa rfl (Xv ⟨(YT (by simp_all [Kj])), rfl, trivial⟩) ⟨rfl, rfl, rfl, trivial⟩
    refine Qs ?_; refine uP (XG (m0 (n1 h21))) (Xw rfl rfl h58 rfl) ?_; refine Qs ?_; refine Qb ?_
    exact Qa rfl (Xv ⟨(YT (by simp_all [Kj])), rfl, trivial⟩) ⟨rfl, rfl, rfl, trivial⟩
   refine Q4 ?_
   refine zc 56 ?_ ?_ <;> intro h49
   ·
    refine Ki ?_; refine Qb ?_
    exact Qa rfl (Xv ⟨(YT (by simp_all [Kj])), rfl, trivial⟩) ⟨rfl, rfl, rfl, trivial⟩
   refine Qs ?_
   refine zc 59 ?_ ?_ <;> intro h21
   rotate_left
   ·
    refine XN ?_; refine uP (Xj h49) (Xw rfl rfl (m1 (n0 h21)) rfl) ?_; refine Qu ?_; refine Qb ?_
    exact Qa rfl (Xv ⟨(YT (by simp_all [Kj])), rfl, trivial⟩) ⟨rfl, rfl, rfl, trivial⟩
   refine Qv ?_
   refine zc 63 ?_ ?_ <;> intro h52
   ·
    refine Qs ?_; refine uP (XG (m0 (n1 h21))) (Xu rfl rfl h52 rfl) ?_; refine uP (Xj h49) (Xu rfl rfl (m0 (n1 h21)) rfl) ?_
    refine Qu ?_; refine Qb ?_
    exact Qa rfl (Xv ⟨(YT (by simp_all [Kj])), rfl, trivial⟩) ⟨rfl, rfl, rfl, trivial⟩
   refine Qs ?_; refine uP (XG (m0 (n1 h21))) (Xw rfl rfl h52 rfl) ?_; refine uP (Xj h49) (Xu rfl rfl (m0 (n1 h21)) rfl) ?_; refine Qu ?_
   refine Qb ?_
   exact Qa rfl (Xv ⟨(YT (by simp_all [Kj])), rfl, trivial⟩) ⟨rfl, rfl, rfl, trivial⟩
  refine Qv ?_; refine uP (Xj h25) (Xu rfl rfl (m0 (n1 h19)) rfl) ?_; refine Qu ?_
  refine zc 46 ?_ ?_ <;> intro h29
  ·
   refine QaA ?_; refine Qb ?_
   exact Qa rfl (Xv ⟨(YT (by simp_all [Kj])), rfl, trivial⟩) ⟨rfl, rfl, rfl, trivial⟩
  refine Qs ?_
  refine zc 49 ?_ ?_ <;> intro h20
  rotate_left
  ·
   refine Qv ?_; refine uP (Xj h29) (Xw rfl rfl (m1 (n0 h20)) rfl) ?_; refine QF ?_
   refine zc 59 ?_ ?_ <;> intro h21
   rotate_left
   ·
    refine Jv ?_; refine Qb ?_
    exact Qa rfl (Xv ⟨(YT (by simp_all [Kj])), rfl, trivial⟩) ⟨rfl, rfl, rfl, trivial⟩
   refine Qv ?_
   refine zc 63 ?_ ?_ <;> intro h42
   ·
    refine Qs ?_; refine uP (XG (m0 (n1 h21))) (Xu rfl rfl h42 rfl) ?_; refine Qs ?_; refine Qb ?_
    exact Qa rfl (Xv ⟨(YT (by simp_all [Kj])), rfl, trivial⟩) ⟨rfl, rfl, rfl, trivial⟩
   refine Qs ?_; refine uP (XG (m0 (n1 h21))) (Xw rfl rfl h42 rfl) ?_; refine Qs ?_; refine Qb ?_
   exact Qa rfl (Xv ⟨(YT (by simp_all [Kj])), rfl, trivial⟩) ⟨rfl, rfl, rfl, trivial⟩
  refine Qv ?_; refine uP (Xj h29) (Xu rfl rfl (m0 (n1 h20)) rfl) ?_; refine Qu ?_
  refine zc 56 ?_ ?_ <;> intro h33
  ·
   refine Ki ?_; refine Qb ?_
   exact Qa rfl (Xv ⟨(YT (by simp_all [Kj])), rfl, trivial⟩) ⟨rfl, rfl, rfl, trivial⟩
  refine Qs ?_
  refine zc 59 ?_ ?_ <;> intro h21
  rotate_left
  ·
   refine XN ?_; refine uP (Xj h33) (Xw rfl rfl (m1 (n0 h21)) rfl) ?_; refine Qu ?_; refine Qb ?_
   exact Qa rfl (Xv ⟨(YT (by simp_all [Kj])), rfl, trivial⟩) ⟨rfl, rfl, rfl, trivial⟩
  refine Qv ?_
  refine zc 63 ?_ ?_ <;> intro h36
  ·
   refine Qs ?_; refine uP (XG (m0 (n1 h21))) (Xu rfl rfl h36 rfl) ?_; refine uP (Xj h33) (Xu rfl rfl (m0 (n1 h21)) rfl) ?_; refine Qu ?_
   refine Qb ?_
   exact Qa rfl (Xv ⟨(YT (by simp_all [Kj])), rfl, trivial⟩) ⟨rfl, rfl, rfl, trivial⟩
  refine Qs ?_; refine uP (XG (m0 (n1 h21))) (Xw rfl rfl h36 rfl) ?_; refine uP (Xj h33) (Xu rfl rfl (m0 (n1 h21)) rfl) ?_; refine Qu ?_
  refine Qb ?_
  exact Qa rfl (Xv ⟨(YT (by simp_all [Kj])), rfl, trivial⟩) ⟨rfl, rfl, rfl, trivial⟩
 refine Wm (⟨[(7, bl (Kj l)), (8, bl (Yn l))], [], 0⟩) ?_ ?_
 ·
  refine QF ?_
  refine zc 73 ?_ ?_ <;> intro h65
  ·
   refine Jv ?_; refine Qb ?_
   exact Qa rfl (Xv ⟨(YT (by simp_all [Yn])), rfl, trivial⟩) trivial
  refine QF ?_
  refine zc 78 ?_ ?_ <;> intro h72
  ·
   refine Q8 ?_; refine Qb ?_
   exact Qa rfl (Xv ⟨(YT (by simp_all [Yn])), rfl, trivial⟩) trivial
  refine Q8 ?_; refine Qb ?_
  exact Qa rfl (Xv ⟨(YT (by simp_all [Yn])), rfl, trivial⟩) trivial
 refine Qv ?_
 refine zc 85 ?_ ?_ <;> intro h62
 ·
  refine Qu ?_; refine zP (Qc (Wg _ _) rfl rfl rfl) ?_; refine zS ?_; refine zQ ?_
  exact QS (by simp [Xo, *])
 refine Qu ?_; refine zP (Qc (Wg _ _) rfl rfl rfl) ?_; refine zS ?_; refine zQ ?_
 exact QS (by simp [Xo, *])
theorem Qnl (l : QD) : FC Tryz.prog 154 [.agg (Q2 l)] (i64 (JC l)) := by
 refine Qg [2] Tryz.func154 rfl rfl 22 Tryz.ntmps154 (Nat.le_of_ble_eq_true rfl) ?_
 intro E hN
 refine JA ?_; refine Wm (⟨[(1, .ptr 0 0), (3, i64 (Y7 l.k))], [(0, .var 26 (Q2 l))], 1⟩) ?_ ?_
 ·
  refine Jv ?_
  refine zq ?_ ?_ <;> intro h5
  ·
   refine Qu ?_; refine Qb ?_
   exact Qa rfl (Xv ⟨(Q0 (by simp_all [Y7])), rfl, trivial⟩) ⟨rfl, rfl, rfl, trivial⟩
  refine QF ?_
  refine zq ?_ ?_ <;> intro h6
  ·
   refine Qu ?_; refine Qb ?_
   exact Qa rfl (Xv ⟨(Q0 (by simp_all [Y7])), rfl, trivial⟩) ⟨rfl, rfl, rfl, trivial⟩
  refine Xn ?_
  exact Qa rfl (Xv ⟨(Q0 (by simp_all [Y7])), rfl, trivial⟩) ⟨rfl, rfl, rfl, trivial⟩
 refine XN ?_
 refine zc 15 ?_ ?_ <;> intro h11
 ·
  refine QF ?_; refine zP (Qc (Wg _ _) rfl rfl rfl) ?_; refine zS ?_; refine zQ ?_
  exact QS (by simp only [List.length_map] at *; simp only [JC, *]; simp)
 refine QF ?_; refine zP (Qc (Wg _ _) rfl rfl rfl) ?_; refine zS ?_; refine zQ ?_
 exact QS (by simp only [List.length_map] at *; simp only [JC, *]; simp)
theorem Qn1 (l : QD) : FC Tryz.prog 156 [.agg (Q2 l)] (i64 (X7 l)) := by
 refine Qg [2] Tryz.func156 rfl rfl 29 Tryz.ntmps156 (Nat.le_of_ble_eq_true rfl) ?_
 intro E hN
 refine YR ?_
 refine zc 8 ?_ ?_ <;> intro h7
 ·
  refine QiL ?_; refine zP (Qc (Wg _ _) rfl rfl rfl) ?_; refine zS ?_; refine zQ ?_
  exact QS (by simp only [X7, *]; simp)
 refine QF ?_
 refine zc 13 ?_ ?_ <;> intro h11
 ·
  refine Ki ?_; refine zP (Qc (Wg _ _) rfl rfl rfl) ?_; refine zS ?_; refine zQ ?_
  exact QS (by simp only [X7, *]; simp)
 refine QF ?_
 refine zc 18 ?_ ?_ <;> intro h15
 ·
  refine JA ?_; refine zP (Qc (Wg _ _) rfl rfl rfl) ?_; refine zS ?_; refine zQ ?_
  exact QS (by simp only [X7, *]; simp)
 refine QF ?_
 refine zc 23 ?_ ?_ <;> intro h19
 ·
  refine Qv ?_; refine zP (Qc (Wg _ _) rfl rfl rfl) ?_; refine zS ?_; refine zQ ?_
  exact QS (by simp only [X7, *]; simp)
 refine Qv ?_; refine zP (Qc (Wg _ _) rfl rfl rfl) ?_; refine zS ?_; refine zQ ?_
 exact QS (by simp only [X7, *]; simp)
theorem QnL (n : Nat) : ∀ l : QD, SizeOf.sizeOf l < n → FC Tryz.prog 193 [.agg (Q2 l)] (bl (chainB l)) := by
 induction n with
 | zero => intro l h; omega
 | succ n ih =>
 intro l hl
 refine Qg [2] Tryz.func193 rfl rfl 29 Tryz.ntmps193 (Nat.le_of_ble_eq_true rfl) ?_
 intro E hN
 refine QeU ?_
 refine zq ?_ ?_ <;> intro h5
 ·
  refine QF ?_; refine zQ ?_
  exact Qm (Qd1 (by simp [*])).symm
 refine QF ?_
 refine zq ?_ ?_ <;> intro h6
 ·
  refine QF ?_; refine zQ ?_
  exact Qm (Qd1 (by simp [*])).symm
 refine Qv ?_
 refine zq ?_ ?_ <;> intro h7
 ·
  refine Qs ?_; refine zQ ?_
  exact Qm (Qd1 (by simp [*])).symm
 refine QF ?_
 refine zq ?_ ?_ <;> intro h8
 rotate_left
 ·
  refine Qv ?_; refine zQ ?_
  exact Qm (Yh (by assumption) (by assumption) (by assumption) (.inl (by assumption))).symm
 refine Q4 ?_
 refine zc 15 ?_ ?_ <;> intro h12
 rotate_left
 ·
  refine Ki ?_; refine zQ ?_
  exact Qm (by first | (rw [Qck (by assumption) hab]; simp [*]; done) | (rw [Yh (by assumption) (by assumption) (by assumption) (.inr (by simp_all; omega))]))
 obtain ⟨a, b, hab⟩ : ∃ a b, l.ps = [a, b] := by
  match hp : l.ps with
  | [a, b] => exact ⟨a, b, rfl⟩
  | [] => simp_all
  | [_] => simp_all
  | _ :: _ :: _ :: _ => simp_all; omega
 have ha : l.ps[0]? = some a := by rw [hab]; rfl
 have hb : l.ps[1]? = some b := by rw [hab]; rfl
 refine Qu ?_; refine uP (XG h12) (Qf rfl rfl rfl 0 rfl _ (XK ha) rfl) ?_; refine Jk ?_
 refine uP (XG h12) (Qc (ih a (by have := QD.sizeOf_ps (List.mem_of_getElem? ha); omega)) rfl rfl rfl) ?_
 refine Qu ?_
 refine zc 22 ?_ ?_ <;> intro h17
 ·
  refine Qu ?_; refine uP (XG h17) (Qf rfl rfl rfl 1 rfl _ (XK hb) rfl) ?_; refine Jk ?_
  refine uP (XG h17) (Qc (ih b (by have := QD.sizeOf_ps (List.mem_of_getElem? hb); omega)) rfl rfl rfl) ?_
  refine Qu ?_; refine zQ ?_
  exact Qm (by first | (rw [Qck (by assumption) hab]; simp [*]; done) | (rw [Yh (by assumption) (by assumption) (by assumption) (.inr (by simp_all; omega))]))
 refine Q4 ?_; refine zQ ?_
 exact Qm (by first | (rw [Qck (by assumption) hab]; simp [*]; done) | (rw [Yh (by assumption) (by assumption) (by assumption) (.inr (by simp_all; omega))]))
theorem QoA (l : QD) : FC Tryz.prog 193 [.agg (Q2 l)] (bl (chainB l)) := QnL _ l (Nat.lt_succ_self _)
end Go.Proofs.YtnkkokmmeplbgaaGreat
