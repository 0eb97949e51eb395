/-
  Contracts: descriptions of lattices are checked.
-/
import Derived.Test.YtaecccdkjmipeaaGreatB1
namespace Go.Proofs.YtaecccdkjmipeaaGreat
open Go.RowKit
def whenE (b : Bool) (e : Int) : Int := if b then e else 0
def namedB (k : Int) : Bool := k == 4 || k == 8 || k == 5 || k == 6 || k == 10
def rangedB (k : Int) : Bool := k == 2 || k == 3
def knownB (k : Int) : Bool := k == 1 || k == 9 || rangedB k || namedB k || k == 7
def partsN (l : Lat) : Int := if l.k = 5 then 1 else if l.k = 7 then 2 else if l.k = 6 then l.nm.length else 0
def badB (l : Lat) : Bool := ((l.ps.length : Int) != partsN l) || (!namedB l.k && decide ((l.nm.length : Int) > 0)) || (!(l.k == 10) && decide ((l.rs.length : Int) > 0)) || (!rangedB l.k && (l.lo != 0 || l.hi != 0))
def emptyB (l : Lat) : Bool := (l.k == 6 || l.k == 10) && (l.nm.length : Int) == 0
/-- the error of a node's shape -/
def shapeX (l : Lat) : Int := if knownB l.k then whenE (badB l || emptyB l) 1 else 1
def mostN (k : Int) : Int := if k = 6 then 8 else if k = 10 then 12 else 32
def limitsX (l : Lat) : Int := whenE (decide ((l.nm.length : Int) > mostN l.k) || decide ((l.rs.length : Int) > 32)) 6
def rangesX (l : Lat) : Int := whenE (decide (l.lo > l.hi) || decide (l.lo < -1000000000) || decide (l.lo > 1000000000) || decide (l.hi < -1000000000) || decide (l.hi > 1000000000)) 5
def chainB (l : Lat) : Bool :=
 if l.k == 1 || l.k == 2 || l.k == 3 then true
 else if l.k == 7 then (match _h : l.ps with | [a, b] => chainB a && chainB b | _ => false)
 else false
termination_by l
decreasing_by all_goals exact Lat.sizeOf_ps (by rw [_h]; simp)
theorem chainB_7 {l a b : Lat} (hk : (l.k == 7) = true) (h : l.ps = [a, b]) : chainB l = (chainB a && chainB b) := by
 have hk' : l.k = 7 := by simpa using hk
 conv => lhs; rw [chainB]
 rw [if_neg (by rw [hk']; decide), if_pos hk]
 split
 ·rename_i c d h2; rw [h] at h2; cases h2; rfl
 rename_i h2; exact absurd h (h2 a b)
theorem chainB_no {l : Lat} (h1 : (l.k == 1) = false) (h2 : (l.k == 2) = false) (h3 : (l.k == 3) = false) (h : (l.k == 7) = false ∨ l.ps.length ≠ 2) : chainB l = false := by
 rw [chainB, if_neg (by simp [h1, h2, h3])]
 rcases h with h | h
 ·rw [if_neg (by simp [h])]
 split
 ·split
  ·rename_i h4; rw [h4] at h; simp at h
  rfl
 rfl
theorem chainB_1 {l : Lat} (h : (l.k == 1 || l.k == 2 || l.k == 3) = true) : chainB l = true := by rw [chainB, if_pos h]
def chainsX (l : Lat) : Int := whenE (l.k == 7 && !(match l.ps with | a :: _ => chainB a | [] => false)) 4
def nameOk (l : Lat) (q : Nm × Nat) : Bool := validB q.1 && !(l.k == 6 && hasB (l.nm.take q.2) q.1)
def ruleOk (nm : List Nm) (r : Ru) : Bool := !((r.i.length : Int) == 0) && sortedB r.i && subsetB r.i nm && hasB nm r.t
def spellX (l : Lat) : Int := if l.nm.zipIdx.all (nameOk l) && (l.k == 6 || sortedB l.nm) && l.rs.all (ruleOk l.nm) then 0 else 3
def orE : List Int → Int
 | [] => 0
 | x :: l => if x == 0 then orE l else x
def visitL (f : Lat → Int → Int × Int) : List Lat → Int → Int × Int
 | [], n => (0, n)
 | q :: r, n => if (f q n).1 == 0 then visitL f r (f q n).2 else f q n
/-- what visit returns, and the nodes counted: at most f levels more -/
def visitF : Nat → Lat → Int → Int × Int
 | 0, _, n => (6, n)
 | f + 1, l, n =>
  if n ≥ 64 then (6, n)
  else if shapeX l != 0 then (shapeX l, n + 1)
  else if orE [limitsX l, spellX l, rangesX l, chainsX l] != 0 then (orE [limitsX l, spellX l, rangesX l, chainsX l], n + 1)
  else visitL (visitF f) l.ps (n + 1)
def checkX (l : Lat) : Int := (visitF 6 l 0).1
theorem visitL_ge {f : Lat → Int → Int × Int} (hf : ∀ q n, 0 ≤ n → 0 ≤ (f q n).2) : ∀ (l : List Lat) (n : Int), 0 ≤ n → 0 ≤ (visitL f l n).2
 | [], n, h => h
 | q :: r, n, h => by
  unfold visitL
  split
  ·exact visitL_ge hf r _ (hf q n h)
  exact hf q n h
theorem visitF_ge : ∀ (f : Nat) (l : Lat) (n : Int), 0 ≤ n → 0 ≤ (visitF f l n).2
 | 0, _, _, h => h
 | f + 1, l, n, h => by
  unfold visitF
  split
  ·exact h
  split
  ·show (0 : Int) ≤ n + 1; omega
  split
  ·show (0 : Int) ≤ n + 1; omega
  exact visitL_ge (visitF_ge f) _ _ (by omega)
theorem zip_get {l : List Nm} {k : Nat} {x : Nm} (h : l[k]? = some x) : l.zipIdx[k]? = some (x, k) := by simp [h]

set_option maxRecDepth 100000 in
set_option maxHeartbeats 1000000 in
theorem when_fc (b : Bool) (e : Int) : FC Tryz.prog 146 [bl b, i64 e] (i64 (whenE b e)) := by
 refine fc_of_awp [4] Tryz.func146 rfl rfl 7 Tryz.ntmps146 (Nat.le_of_ble_eq_true rfl) ?_
 intro E hN
 refine rn9 ?_
 refine zq ?_ ?_ <;> intro h1
 ·
  refine rn4 ?_; refine zQ ?_
  exact retI (by simp [whenE, *])
 refine rn4 ?_; refine zQ ?_
 exact retI (by simp [whenE, *])
set_option maxRecDepth 100000 in
set_option maxHeartbeats 1000000 in
theorem shape_fc (l : Lat) : FC Tryz.prog 102 [.agg (latL l)] (i64 (shapeX l)) := by
 refine fc_of_awp [2] Tryz.func102 rfl rfl 89 Tryz.ntmps102 (Nat.le_of_ble_eq_true rfl) ?_
 intro E hN
 refine rn12 ?_
 refine c_cutF (⟨[(1, .ptr 0 0), (3, i64 (partsN l)), (4, bl (namedB l.k)), (5, bl (l.k == 10)), (6, bl (rangedB l.k))], [(0, .var 26 (latL l))], 1⟩) (knownB l.k = true) ?_ ?_
 ·
  refine rn12 ?_
  refine zq ?_ ?_ <;> intro h5
  ·
   refine zW ?_; refine c_true rfl h5 ?_; refine awp_skip ?_
   exact ⟨(by simp_all [knownB, namedB, rangedB]), weak_scrub' rfl (zz1 ⟨(cgI (by simp_all [partsN])), rfl, (cgB (by simp_all [namedB])), rfl, (cgB (by simp_all)), rfl, (cgB (by simp_all [rangedB])), rfl, trivial⟩) ⟨rfl, rfl, rfl, trivial⟩⟩
  refine rn4 ?_
  refine zq ?_ ?_ <;> intro h6
  ·
   refine awp_skip ?_
   exact ⟨(by simp_all [knownB, namedB, rangedB]), weak_scrub' rfl (zz1 ⟨(cgI (by simp_all [partsN])), rfl, (cgB (by simp_all [namedB])), rfl, (cgB (by simp_all)), rfl, (cgB (by simp_all [rangedB])), rfl, trivial⟩) ⟨rfl, rfl, rfl, trivial⟩⟩
  refine rn6 ?_
  refine zq ?_ ?_ <;> intro h7
  ·
   refine zW ?_; refine c_true rfl h7 ?_; refine rn2 ?_; refine aops_nil ?_
   exact ⟨(by simp_all [knownB, namedB, rangedB]), weak_scrub' rfl (zz1 ⟨(cgI (by simp_all [partsN])), rfl, (cgB (by simp_all [namedB])), rfl, (cgB (by simp_all)), rfl, (cgB (by simp_all [rangedB])), rfl, trivial⟩) ⟨rfl, rfl, rfl, trivial⟩⟩
  refine rn4 ?_
  refine zq ?_ ?_ <;> intro h8
  ·
   refine rn2 ?_; refine aops_nil ?_
   exact ⟨(by simp_all [knownB, namedB, rangedB]), weak_scrub' rfl (zz1 ⟨(cgI (by simp_all [partsN])), rfl, (cgB (by simp_all [namedB])), rfl, (cgB (by simp_all)), rfl, (cgB (by simp_all [rangedB])), rfl, trivial⟩) ⟨rfl, rfl, rfl, trivial⟩⟩
  refine rn6 ?_
  refine zq ?_ ?_ <;> intro h9
  ·
   refine zW ?_; refine c_true rfl h9 ?_; refine rn2 ?_; refine aops_nil ?_
   exact ⟨(by simp_all [knownB, namedB, rangedB]), weak_scrub' rfl (zz1 ⟨(cgI (by simp_all [partsN])), rfl, (cgB (by simp_all [namedB])), rfl, (cgB (by simp_all)), rfl, (cgB (by simp_all [rangedB])), rfl, trivial⟩) ⟨rfl, rfl, rfl, trivial⟩⟩
  refine rn4 ?_
  refine zq ?_ ?_ <;> intro h10
  ·
   refine rn2 ?_; refine aops_nil ?_
   exact ⟨(by simp_all [knownB, namedB, rangedB]), weak_scrub' rfl (zz1 ⟨(cgI (by simp_all [partsN])), rfl, (cgB (by simp_all [namedB])), rfl, (cgB (by simp_all)), rfl, (cgB (by simp_all [rangedB])), rfl, trivial⟩) ⟨rfl, rfl, rfl, trivial⟩⟩
  refine rn5 ?_
  refine zq ?_ ?_ <;> intro h11
  ·
   refine rn3 ?_; refine aops_nil ?_
   exact ⟨(by simp_all [knownB, namedB, rangedB]), weak_scrub' rfl (zz1 ⟨(cgI (by simp_all [partsN])), rfl, (cgB (by simp_all [namedB])), rfl, (cgB (by simp_all)), rfl, (cgB (by simp_all [rangedB])), rfl, trivial⟩) ⟨rfl, rfl, rfl, trivial⟩⟩
  refine rn5 ?_
  refine zq ?_ ?_ <;> intro h12
  ·
   refine rn2 ?_; refine aops_nil ?_
   exact ⟨(by simp_all [knownB, namedB, rangedB]), weak_scrub' rfl (zz1 ⟨(cgI (by simp_all [partsN])), rfl, (cgB (by simp_all [namedB])), rfl, (cgB (by simp_all)), rfl, (cgB (by simp_all [rangedB])), rfl, trivial⟩) ⟨rfl, rfl, rfl, trivial⟩⟩
  refine rn5 ?_
  refine zq ?_ ?_ <;> intro h13
  ·
   refine awp_draw 4 (by kernel_rfl) (by kernel_rfl) ?_; refine rn3 ?_; refine zp (q_assign rfl rfl) ?_; change AOps _ _ _ _ _ _; refine zS ?_
   refine aops_nil ?_
   exact ⟨(by simp_all [knownB, namedB, rangedB]), weak_scrub' rfl (zz1 ⟨(cgI (by simp_all [partsN])), rfl, (cgB (by simp_all [namedB])), rfl, (cgB (by simp_all)), rfl, (cgB (by simp_all [rangedB])), rfl, trivial⟩) ⟨rfl, rfl, rfl, trivial⟩⟩
  refine rn5 ?_
  refine zq ?_ ?_ <;> intro h17
  ·
   refine rn3 ?_; refine aops_nil ?_
   exact ⟨(by simp_all [knownB, namedB, rangedB]), weak_scrub' rfl (zz1 ⟨(cgI (by simp_all [partsN])), rfl, (cgB (by simp_all [namedB])), rfl, (cgB (by simp_all)), rfl, (cgB (by simp_all [rangedB])), rfl, trivial⟩) ⟨rfl, rfl, rfl, trivial⟩⟩
  refine rn3 ?_; refine zQ ?_
  exact retI (by simp_all [shapeX, knownB, namedB, rangedB])
 intro hkn
 refine c_cut (⟨[(1, .ptr 0 0), (7, bl (badB l))], [(0, .var 26 (latL l))], 1⟩) ?_ ?_
 ·
  refine rn7 ?_
  refine zc 36 ?_ ?_ <;> intro h25
  ·
   iterate 3 refine uK (w10 h25) ?_
   refine rn4 ?_; refine uK (w10 h25) ?_; refine zh1 h25 ?_; refine rn9 ?_; refine zh1 rfl ?_; refine rn13 ?_; refine zh1 rfl ?_; refine zS ?_
   refine aops_nil ?_
   exact weak_scrub' rfl (zz1 ⟨(cgB (by simp_all [badB])), rfl, trivial⟩) ⟨rfl, rfl, rfl, trivial⟩
  refine uM (w00 h25) ?_; refine uP (w00 h25) (q_not rfl rfl) ?_; refine uM (w00 h25) ?_
  refine zc 39 ?_ ?_ <;> intro h19
  ·
   refine uF (w11 (m0 (n1 h19))) ?_; refine uL (w11 (m0 (n1 h19))) ?_; refine uE (w11 (m0 (n1 h19))) ?_
   refine uP (w11 (m0 (n1 h19))) (q_bin rfl rfl rfl) ?_; refine uP (w00 h25) (q_pick1 rfl rfl (m0 (n1 h19)) rfl) ?_; refine zh0 h25 ?_; refine zM ?_
   refine zc 46 ?_ ?_ <;> intro h29
   ·
    iterate 3 refine uK (w10 h29) ?_
    refine rn4 ?_; refine uK (w10 h29) ?_; refine zh1 h29 ?_; refine rn13 ?_; refine zh1 rfl ?_; refine zS ?_; refine aops_nil ?_
    exact weak_scrub' rfl (zz1 ⟨(cgB (by simp_all [badB])), rfl, trivial⟩) ⟨rfl, rfl, rfl, trivial⟩
   refine uM (w00 h29) ?_; refine uP (w00 h29) (q_not rfl rfl) ?_; refine uM (w00 h29) ?_
   refine zc 49 ?_ ?_ <;> intro h20
   ·
    refine uF (w11 (m0 (n1 h20))) ?_; refine uL (w11 (m0 (n1 h20))) ?_; refine uE (w11 (m0 (n1 h20))) ?_
    refine uP (w11 (m0 (n1 h20))) (q_bin rfl rfl rfl) ?_; refine uP (w00 h29) (q_pick1 rfl rfl (m0 (n1 h20)) rfl) ?_; refine zh0 h29 ?_; refine zM ?_
    refine zc 56 ?_ ?_ <;> intro h33
    ·
     iterate 3 refine uK (w10 h33) ?_
     refine rn8 ?_; refine uK (w10 h33) ?_; refine zh1 h33 ?_; refine zS ?_; refine aops_nil ?_
     exact weak_scrub' rfl (zz1 ⟨(cgB (by simp_all [badB])), rfl, trivial⟩) ⟨rfl, rfl, rfl, trivial⟩
    refine uM (w00 h33) ?_; refine uP (w00 h33) (q_not rfl rfl) ?_; refine uM (w00 h33) ?_
    refine zc 59 ?_ ?_ <;> intro h21
    ·
     refine uF (w11 (m0 (n1 h21))) ?_; refine uL (w11 (m0 (n1 h21))) ?_; refine uP (w11 (m0 (n1 h21))) (q_bin rfl rfl rfl) ?_
     refine uM (w11 (m0 (n1 h21))) ?_
     refine zc 63 ?_ ?_ <;> intro h36
     ·
      iterate 3 refine uK (w10 h36) ?_
      refine uP (w11 (m0 (n1 h21))) (q_pick1 rfl rfl h36 rfl) ?_; refine uP (w00 h33) (q_pick1 rfl rfl (m0 (n1 h21)) rfl) ?_; refine zh0 h33 ?_
      refine zS ?_; refine aops_nil ?_
      exact weak_scrub' rfl (zz1 ⟨(cgB (by simp_all [badB])), rfl, trivial⟩) ⟨rfl, rfl, rfl, trivial⟩
     refine uF (w00 h36) ?_; refine uL (w00 h36) ?_; refine uP (w00 h36) (q_bin rfl rfl rfl) ?_
     refine uP (w11 (m0 (n1 h21))) (q_pick0 rfl rfl h36 rfl) ?_; refine uP (w00 h33) (q_pick1 rfl rfl (m0 (n1 h21)) rfl) ?_; refine zh0 h33 ?_
     refine zS ?_; refine aops_nil ?_
     exact weak_scrub' rfl (zz1 ⟨(cgB (by simp_all [badB])), rfl, trivial⟩) ⟨rfl, rfl, rfl, trivial⟩
    iterate 4 refine uK (w01 (m1 (n0 h21))) ?_
    refine rn3 ?_; refine uK (w01 (m1 (n0 h21))) ?_; refine uP (w00 h33) (q_pick0 rfl rfl (m1 (n0 h21)) rfl) ?_; refine zh0 h33 ?_; refine zS ?_
    refine aops_nil ?_
    exact weak_scrub' rfl (zz1 ⟨(cgB (by simp_all [badB])), rfl, trivial⟩) ⟨rfl, rfl, rfl, trivial⟩
   iterate 4 refine uK (w01 (m1 (n0 h20))) ?_
   refine uP (w00 h29) (q_pick0 rfl rfl (m1 (n0 h20)) rfl) ?_; refine zh0 h29 ?_; refine rn4 ?_
   refine zc 59 ?_ ?_ <;> intro h21
   ·
    refine uF (w11 (m0 (n1 h21))) ?_; refine uL (w11 (m0 (n1 h21))) ?_; refine uP (w11 (m0 (n1 h21))) (q_bin rfl rfl rfl) ?_
    refine uM (w11 (m0 (n1 h21))) ?_
    refine zc 63 ?_ ?_ <;> intro h42
    ·
     iterate 3 refine uK (w10 h42) ?_
     refine uP (w11 (m0 (n1 h21))) (q_pick1 rfl rfl h42 rfl) ?_; refine zh1 (m0 (n1 h21)) ?_; refine zh0 rfl ?_; refine zS ?_; refine aops_nil ?_
     exact weak_scrub' rfl (zz1 ⟨(cgB (by simp_all [badB])), rfl, trivial⟩) ⟨rfl, rfl, rfl, trivial⟩
    refine uF (w00 h42) ?_; refine uL (w00 h42) ?_; refine uP (w00 h42) (q_bin rfl rfl rfl) ?_
    refine uP (w11 (m0 (n1 h21))) (q_pick0 rfl rfl h42 rfl) ?_; refine zh1 (m0 (n1 h21)) ?_; refine zh0 rfl ?_; refine zS ?_; refine aops_nil ?_
    exact weak_scrub' rfl (zz1 ⟨(cgB (by simp_all [badB])), rfl, trivial⟩) ⟨rfl, rfl, rfl, trivial⟩
   iterate 4 refine uK (w01 (m1 (n0 h21))) ?_
   refine rn3 ?_; refine uK (w01 (m1 (n0 h21))) ?_; refine zh0 (m1 (n0 h21)) ?_; refine zh0 rfl ?_; refine zS ?_; refine aops_nil ?_
   exact weak_scrub' rfl (zz1 ⟨(cgB (by simp_all [badB])), rfl, trivial⟩) ⟨rfl, rfl, rfl, trivial⟩
  iterate 4 refine uK (w01 (m1 (n0 h19))) ?_
  refine uP (w00 h25) (q_pick0 rfl rfl (m1 (n0 h19)) rfl) ?_; refine zh0 h25 ?_; refine rn4 ?_
  refine zc 49 ?_ ?_ <;> intro h20
  ·
   refine uF (w11 (m0 (n1 h20))) ?_; refine uL (w11 (m0 (n1 h20))) ?_; refine uE (w11 (m0 (n1 h20))) ?_
   refine uP (w11 (m0 (n1 h20))) (q_bin rfl rfl rfl) ?_; refine zh1 (m0 (n1 h20)) ?_; refine zh0 rfl ?_; refine zM ?_
   refine zc 56 ?_ ?_ <;> intro h49
   ·
    iterate 3 refine uK (w10 h49) ?_
    refine rn8 ?_; refine uK (w10 h49) ?_; refine zh1 h49 ?_; refine zS ?_; refine aops_nil ?_
    exact weak_scrub' rfl (zz1 ⟨(cgB (by simp_all [badB])), rfl, trivial⟩) ⟨rfl, rfl, rfl, trivial⟩
   refine uM (w00 h49) ?_; refine uP (w00 h49) (q_not rfl rfl) ?_; refine uM (w00 h49) ?_
   refine zc 59 ?_ ?_ <;> intro h21
   ·
    refine uF (w11 (m0 (n1 h21))) ?_; refine uL (w11 (m0 (n1 h21))) ?_; refine uP (w11 (m0 (n1 h21))) (q_bin rfl rfl rfl) ?_
    refine uM (w11 (m0 (n1 h21))) ?_
    refine zc 63 ?_ ?_ <;> intro h52
    ·
     iterate 3 refine uK (w10 h52) ?_
     refine uP (w11 (m0 (n1 h21))) (q_pick1 rfl rfl h52 rfl) ?_; refine uP (w00 h49) (q_pick1 rfl rfl (m0 (n1 h21)) rfl) ?_; refine zh0 h49 ?_
     refine zS ?_; refine aops_nil ?_
     exact weak_scrub' rfl (zz1 ⟨(cgB (by simp_all [badB])), rfl, trivial⟩) ⟨rfl, rfl, rfl, trivial⟩
    refine uF (w00 h52) ?_; refine uL (w00 h52) ?_; refine uP (w00 h52) (q_bin rfl rfl rfl) ?_
    refine uP (w11 (m0 (n1 h21))) (q_pick0 rfl rfl h52 rfl) ?_; refine uP (w00 h49) (q_pick1 rfl rfl (m0 (n1 h21)) rfl) ?_; refine zh0 h49 ?_
    refine zS ?_; refine aops_nil ?_
    exact weak_scrub' rfl (zz1 ⟨(cgB (by simp_all [badB])), rfl, trivial⟩) ⟨rfl, rfl, rfl, trivial⟩
   iterate 4 refine uK (w01 (m1 (n0 h21))) ?_
   refine rn3 ?_; refine uK (w01 (m1 (n0 h21))) ?_; refine uP (w00 h49) (q_pick0 rfl rfl (m1 (n0 h21)) rfl) ?_; refine zh0 h49 ?_; refine zS ?_
   refine aops_nil ?_
   exact weak_scrub' rfl (zz1 ⟨(cgB (by simp_all [badB])), rfl, trivial⟩) ⟨rfl, rfl, rfl, trivial⟩
  iterate 4 refine uK (w01 (m1 (n0 h20))) ?_
  refine zh0 (m1 (n0 h20)) ?_; refine zh0 rfl ?_; refine rn4 ?_
  refine zc 59 ?_ ?_ <;> intro h21
  ·
   refine uF (w11 (m0 (n1 h21))) ?_; refine uL (w11 (m0 (n1 h21))) ?_; refine uP (w11 (m0 (n1 h21))) (q_bin rfl rfl rfl) ?_
   refine uM (w11 (m0 (n1 h21))) ?_
   refine zc 63 ?_ ?_ <;> intro h58
   ·
    iterate 3 refine uK (w10 h58) ?_
    refine uP (w11 (m0 (n1 h21))) (q_pick1 rfl rfl h58 rfl) ?_; refine zh1 (m0 (n1 h21)) ?_; refine zh0 rfl ?_; refine zS ?_; refine aops_nil ?_
    exact weak_scrub' rfl (zz1 ⟨(cgB (by simp_all [badB])), rfl, trivial⟩) ⟨rfl, rfl, rfl, trivial⟩
   refine uF (w00 h58) ?_; refine uL (w00 h58) ?_; refine uP (w00 h58) (q_bin rfl rfl rfl) ?_
   refine uP (w11 (m0 (n1 h21))) (q_pick0 rfl rfl h58 rfl) ?_; refine zh1 (m0 (n1 h21)) ?_; refine zh0 rfl ?_; refine zS ?_; refine aops_nil ?_
   exact weak_scrub' rfl (zz1 ⟨(cgB (by simp_all [badB])), rfl, trivial⟩) ⟨rfl, rfl, rfl, trivial⟩
  iterate 4 refine uK (w01 (m1 (n0 h21))) ?_
  refine rn3 ?_; refine uK (w01 (m1 (n0 h21))) ?_; refine zh0 (m1 (n0 h21)) ?_; refine zh0 rfl ?_; refine zS ?_; refine aops_nil ?_
  exact weak_scrub' rfl (zz1 ⟨(cgB (by simp_all [badB])), rfl, trivial⟩) ⟨rfl, rfl, rfl, trivial⟩
 refine c_cut (⟨[(7, bl (badB l)), (8, bl (emptyB l))], [], 0⟩) ?_ ?_
 ·
  refine rn5 ?_
  refine zc 73 ?_ ?_ <;> intro h65
  ·
   iterate 3 refine uK (w10 h65) ?_
   refine zh1 h65 ?_; refine rn5 ?_; refine zh1 rfl ?_; refine zS ?_; refine aops_nil ?_
   exact weak_scrub' rfl (zz1 ⟨(cgB (by simp_all [emptyB])), rfl, trivial⟩) trivial
  refine uF (w00 h65) ?_; refine uL (w00 h65) ?_; refine uP (w00 h65) (q_bin rfl rfl rfl) ?_; refine zh0 h65 ?_; refine zM ?_
  refine zc 78 ?_ ?_ <;> intro h72
  ·
   refine uF (w11 h72) ?_; refine uL (w11 h72) ?_; refine uE (w11 h72) ?_; refine uP (w11 h72) (q_bin rfl rfl rfl) ?_; refine zh1 h72 ?_; refine zS ?_
   refine aops_nil ?_
   exact weak_scrub' rfl (zz1 ⟨(cgB (by simp_all [emptyB])), rfl, trivial⟩) trivial
  iterate 4 refine uK (w01 h72) ?_
  refine zh0 h72 ?_; refine zS ?_; refine aops_nil ?_
  exact weak_scrub' rfl (zz1 ⟨(cgB (by simp_all [emptyB])), rfl, trivial⟩) trivial
 refine rn4 ?_
 refine zc 85 ?_ ?_ <;> intro h62
 ·
  refine uK (w10 h62) ?_; refine zh1 h62 ?_; refine zP (q_call (when_fc _ _) rfl rfl rfl) ?_; refine zS ?_; refine zQ ?_
  exact retI (by simp [shapeX, *])
 refine uM (w00 h62) ?_; refine zh0 h62 ?_; refine zP (q_call (when_fc _ _) rfl rfl rfl) ?_; refine zS ?_; refine zQ ?_
 exact retI (by simp [shapeX, *])
set_option maxRecDepth 100000 in
set_option maxHeartbeats 1000000 in
theorem limits_fc (l : Lat) : FC Tryz.prog 104 [.agg (latL l)] (i64 (limitsX l)) := by
 refine fc_of_awp [2] Tryz.func104 rfl rfl 22 Tryz.ntmps104 (Nat.le_of_ble_eq_true rfl) ?_
 intro E hN
 refine rn9 ?_; refine c_cut (⟨[(1, .ptr 0 0), (3, i64 (mostN l.k))], [(0, .var 26 (latL l))], 1⟩) ?_ ?_
 ·
  refine rn11 ?_
  refine zq ?_ ?_ <;> intro h5
  ·
   refine rn2 ?_; refine aops_nil ?_
   exact weak_scrub' rfl (zz1 ⟨(cgI (by simp_all [mostN])), rfl, trivial⟩) ⟨rfl, rfl, rfl, trivial⟩
  refine rn5 ?_
  refine zq ?_ ?_ <;> intro h6
  ·
   refine rn2 ?_; refine aops_nil ?_
   exact weak_scrub' rfl (zz1 ⟨(cgI (by simp_all [mostN])), rfl, trivial⟩) ⟨rfl, rfl, rfl, trivial⟩
  refine awp_skip ?_
  exact weak_scrub' rfl (zz1 ⟨(cgI (by simp_all [mostN])), rfl, trivial⟩) ⟨rfl, rfl, rfl, trivial⟩
 refine rn8 ?_
 refine zc 15 ?_ ?_ <;> intro h11
 ·
  iterate 4 refine uK (w10 h11) ?_
  refine zh1 h11 ?_; refine zP (q_call (when_fc _ _) rfl rfl rfl) ?_; refine zS ?_; refine zQ ?_
  exact retI (by simp only [List.length_map] at *; simp only [limitsX, *]; simp)
 refine uF (w00 h11) ?_; refine uL (w00 h11) ?_; refine uE (w00 h11) ?_; refine uP (w00 h11) (q_bin rfl rfl rfl) ?_; refine zh0 h11 ?_
 refine zP (q_call (when_fc _ _) rfl rfl rfl) ?_; refine zS ?_; refine zQ ?_
 exact retI (by simp only [List.length_map] at *; simp only [limitsX, *]; simp)
set_option maxRecDepth 100000 in
set_option maxHeartbeats 1000000 in
theorem ranges_fc (l : Lat) : FC Tryz.prog 106 [.agg (latL l)] (i64 (rangesX l)) := by
 refine fc_of_awp [2] Tryz.func106 rfl rfl 29 Tryz.ntmps106 (Nat.le_of_ble_eq_true rfl) ?_
 intro E hN
 refine rn13 ?_
 refine zc 8 ?_ ?_ <;> intro h7
 ·
  iterate 3 refine uK (w10 h7) ?_
  refine zh1 h7 ?_; refine rn4 ?_; refine zh1 rfl ?_; refine rn4 ?_; refine zh1 rfl ?_; refine rn4 ?_; refine zh1 rfl ?_
  refine zP (q_call (when_fc _ _) rfl rfl rfl) ?_; refine zS ?_; refine zQ ?_
  exact retI (by simp only [rangesX, *]; simp)
 refine uF (w00 h7) ?_; refine uL (w00 h7) ?_; refine uP (w00 h7) (q_bin rfl rfl rfl) ?_; refine zh0 h7 ?_; refine zM ?_
 refine zc 13 ?_ ?_ <;> intro h11
 ·
  iterate 3 refine uK (w10 h11) ?_
  refine zh1 h11 ?_; refine rn4 ?_; refine zh1 rfl ?_; refine rn4 ?_; refine zh1 rfl ?_; refine zP (q_call (when_fc _ _) rfl rfl rfl) ?_; refine zS ?_
  refine zQ ?_
  exact retI (by simp only [rangesX, *]; simp)
 refine uF (w00 h11) ?_; refine uL (w00 h11) ?_; refine uP (w00 h11) (q_bin rfl rfl rfl) ?_; refine zh0 h11 ?_; refine zM ?_
 refine zc 18 ?_ ?_ <;> intro h15
 ·
  iterate 3 refine uK (w10 h15) ?_
  refine zh1 h15 ?_; refine rn4 ?_; refine zh1 rfl ?_; refine zP (q_call (when_fc _ _) rfl rfl rfl) ?_; refine zS ?_; refine zQ ?_
  exact retI (by simp only [rangesX, *]; simp)
 refine uF (w00 h15) ?_; refine uL (w00 h15) ?_; refine uP (w00 h15) (q_bin rfl rfl rfl) ?_; refine zh0 h15 ?_; refine zM ?_
 refine zc 23 ?_ ?_ <;> intro h19
 ·
  iterate 3 refine uK (w10 h19) ?_
  refine zh1 h19 ?_; refine zP (q_call (when_fc _ _) rfl rfl rfl) ?_; refine zS ?_; refine zQ ?_
  exact retI (by simp only [rangesX, *]; simp)
 refine uF (w00 h19) ?_; refine uL (w00 h19) ?_; refine uP (w00 h19) (q_bin rfl rfl rfl) ?_; refine zh0 h19 ?_
 refine zP (q_call (when_fc _ _) rfl rfl rfl) ?_; refine zS ?_; refine zQ ?_
 exact retI (by simp only [rangesX, *]; simp)
set_option maxRecDepth 100000 in
set_option maxHeartbeats 1000000 in
theorem chain_fc' (n : Nat) : ∀ l : Lat, SizeOf.sizeOf l < n → FC Tryz.prog 150 [.agg (latL l)] (bl (chainB l)) := by
 induction n with
 | zero => intro l h; omega
 | succ n ih =>
 intro l hl
 refine fc_of_awp [2] Tryz.func150 rfl rfl 29 Tryz.ntmps150 (Nat.le_of_ble_eq_true rfl) ?_
 intro E hN
 refine rn18 ?_
 refine zq ?_ ?_ <;> intro h5
 ·
  refine zW ?_; refine c_true rfl h5 ?_; refine rn3 ?_; refine zQ ?_
  exact retB (chainB_1 (by simp [*])).symm
 refine rn5 ?_
 refine zq ?_ ?_ <;> intro h6
 ·
  refine zW ?_; refine c_true rfl h6 ?_; refine rn3 ?_; refine zQ ?_
  exact retB (chainB_1 (by simp [*])).symm
 refine rn4 ?_
 refine zq ?_ ?_ <;> intro h7
 ·
  refine rn3 ?_; refine zQ ?_
  exact retB (chainB_1 (by simp [*])).symm
 refine rn5 ?_
 refine zq ?_ ?_ <;> intro h8
 ·
  refine rn7 ?_
  refine zc 15 ?_ ?_ <;> intro h12
  ·
   obtain ⟨a, b, hab⟩ : ∃ a b, l.ps = [a, b] := by
    match hp : l.ps with
    | [a, b] => exact ⟨a, b, rfl⟩
    | [] => simp_all
    | [_] => simp_all
    | _ :: _ :: _ :: _ => simp_all; omega
   have ha : l.ps[0]? = some a := by rw [hab]; rfl
   have hb : l.ps[1]? = some b := by rw [hab]; rfl
   refine uF (w11 h12) ?_; refine uL (w11 h12) ?_; refine uP (w11 h12) (q_elem rfl rfl rfl 0 rfl _ (lat_get ha) rfl) ?_; refine uL (w11 h12) ?_
   refine uP (w11 h12) (q_call (ih a (by have := Lat.sizeOf_ps (List.mem_of_getElem? ha); omega)) rfl rfl rfl) ?_
   refine zh1 h12 ?_; refine zM ?_
   refine zc 22 ?_ ?_ <;> intro h17
   ·
    refine uF (w11 h17) ?_; refine uL (w11 h17) ?_; refine uP (w11 h17) (q_elem rfl rfl rfl 1 rfl _ (lat_get hb) rfl) ?_; refine uL (w11 h17) ?_
    refine uP (w11 h17) (q_call (ih b (by have := Lat.sizeOf_ps (List.mem_of_getElem? hb); omega)) rfl rfl rfl) ?_
    refine zh1 h17 ?_; refine zS ?_; refine zQ ?_
    exact retB (by first | (rw [chainB_7 (by assumption) hab]; simp [*]; done) | (rw [chainB_no (by assumption) (by assumption) (by assumption) (.inr (by simp_all; omega))]))
   iterate 5 refine uK (w01 h17) ?_
   refine zh0 h17 ?_; refine zS ?_; refine zQ ?_
   exact retB (by first | (rw [chainB_7 (by assumption) hab]; simp [*]; done) | (rw [chainB_no (by assumption) (by assumption) (by assumption) (.inr (by simp_all; omega))]))
  iterate 5 refine uK (w01 h12) ?_
  refine zh0 h12 ?_; refine rn6 ?_; refine zh0 rfl ?_; refine zS ?_; refine zQ ?_
  exact retB (by first | (rw [chainB_7 (by assumption) hab]; simp [*]; done) | (rw [chainB_no (by assumption) (by assumption) (by assumption) (.inr (by simp_all; omega))]))
 refine rn4 ?_; refine zQ ?_
 exact retB (chainB_no (by assumption) (by assumption) (by assumption) (.inl (by assumption))).symm
theorem chain_fc (l : Lat) : FC Tryz.prog 150 [.agg (latL l)] (bl (chainB l)) := chain_fc' _ l (Nat.lt_succ_self _)
end Go.Proofs.YtaecccdkjmipeaaGreat
