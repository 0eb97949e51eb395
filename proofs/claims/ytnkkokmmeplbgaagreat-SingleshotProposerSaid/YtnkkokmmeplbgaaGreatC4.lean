/-
  Contracts of the reference: Check.
-/
import Derived.Test.YtnkkokmmeplbgaaGreatC3
import Derived.Test.YtnkkokmmeplbgaaGreatA3
namespace Go.Proofs.YtnkkokmmeplbgaaGreat
set_option maxRecDepth 100000
set_option maxHeartbeats 1000000
open Go.RowKit
theorem Qgj {l : List Nm} {k : Nat} {x : Nm} (h : l[k]? = some x) : l.zipIdx[k]? = some (x, k) := by simp [h]
def Qjs (l : QD) (q : Nm × Nat) : Bool := XM q.1 && !X2 (l.nm.take q.2) q.1
def Qcl (nm : List Nm) (r : Ru) : Bool := !((r.i.length : Int) == 0) && Qb0 r.i && X2 nm r.t
theorem Qea {nm : List Nm} {r : Ru} : Qg5 nm r = (Qcl nm r && r.i.all (X2 nm)) := rfl
theorem QkI (l : QD) : FC Tryz.prog 177 [.agg (Q2 l)] (bl (W2 l)) := by
 refine Qg [2] Tryz.func177 rfl rfl 86 Tryz.ntmps177 (Nat.le_of_ble_eq_true rfl) ?_
 intro E hN
 refine X6 ?_
 refine zq ?_ ?_ <;> intro h5
 ·
  have h6 : (l.k == 6) = true := h5
  refine Q8 ?_
  refine Ql (fun x : {k : Nat // k ≤ (l.nm).length ∧ (l.nm.zipIdx.drop k).all (Qjs l) = l.nm.zipIdx.all (Qjs l)} => ⟨[(1, .ptr 0 0), (3, i64 (x.1 : Nat))], [(0, .var 26 (Q2 l))], 1⟩) (fun x => (l.nm).length - x.1) (⟨0, Nat.zero_le _, by simp⟩) ?_ ?_
  ·
   exact Qa rfl (JI trivial) ⟨rfl, rfl, rfl, trivial⟩
  rintro ⟨k, hk, hg⟩
  dsimp only
  refine JA ?_
  refine zq ?_ ?_ <;> intro h11
  rotate_left
  ·
   have hge : (l.nm).length ≤ k := by simpa using h11
   refine Qv ?_; refine zQ ?_
   exact Qm (by unfold W2; rw [if_pos h6]; exact (XU hg (by simpa using hge)).symm)
  refine Jj 12 rfl (fun hlen => ?_)
  have hlt : k < (l.nm).length := by simpa using h11
  obtain ⟨x, hx⟩ := Qn hlt
  refine Qv ?_; refine Qd 18 (by kernel_rfl) (by kernel_rfl) ?_; refine Qs ?_; refine zp (Qf rfl rfl rfl k rfl _ (Qk hx) rfl) ?_
  refine zl ?_; refine zp (Qc (Qhn x) rfl rfl rfl) ?_; refine Qu ?_
  refine zd 24 ?_ ?_ <;> intro h16
  ·
   have ho0 : Qjs l (x, k) = false := by unfold Qjs; rw [n1 h16]; rfl
   refine XB ?_; change Qj _ _ _ _ _ _; refine Q8 ?_; refine zQ ?_
   exact Qm (by unfold W2; rw [if_pos h6]; exact (Q3 hg (Qgj hx) ho0).symm)
  have hv1 : XM x = true := n0 h16
  refine Qs ?_; refine vP (Xj (m1 (n0 h16))) (Qrm rfl rfl rfl k rfl (by omega) (by exact fun _ => rfl)) ?_; refine Qs ?_
  refine vP (Xj (m1 (n0 h16))) (Qf rfl rfl rfl k rfl _ (Qk hx) rfl) ?_; refine Jk ?_
  refine vP (Xj (m1 (n0 h16))) (Qc (Qi5 (l.nm.take k) x) rfl rfl rfl) ?_; change Qj _ _ _ _ _ _; refine Qu ?_
  refine zq ?_ ?_ <;> intro h24
  ·
   have ho0 : Qjs l (x, k) = false := by unfold Qjs; rw [hv1]; simp only [Bool.true_and, Bool.not_eq_false']; exact h24
   refine Qs ?_; refine zQ ?_
   exact Qm (by unfold W2; rw [if_pos h6]; exact (Q3 hg (Qgj hx) ho0).symm)
  have ho1 : Qjs l (x, k) = true := by unfold Qjs; rw [hv1]; simp only [Bool.true_and, Bool.not_eq_true']; exact h24
  refine QF ?_; refine Qb ?_
  exact ⟨⟨k + 1, hlt, Xx hg (Qgj hx) ho1⟩, Qa rfl (Xv ⟨(Q0 (by dsimp only; omega)), rfl, trivial⟩) ⟨rfl, rfl, rfl, trivial⟩, by dsimp only; omega⟩
 have h6 : (l.k == 6) = false := h5
 refine Q8 ?_; refine zP (Qc (Qmd l.nm) rfl rfl rfl) ?_; refine Qu ?_
 refine zq ?_ ?_ <;> intro h28
 ·
  have h8 := n1 h28
  refine Qs ?_; refine zQ ?_
  exact Qm (by unfold W2; rw [h6, h8]; rfl)
 have h8 := n0 h28
 refine Q4 ?_
 refine Ql (fun x : {k : Nat // k ≤ (l.rs).length ∧ (l.rs.drop k).all (Qg5 l.nm) = l.rs.all (Qg5 l.nm)} => ⟨[(1, .ptr 0 0), (4, i64 (x.1 : Nat))], [(0, .var 26 (Q2 l))], 1⟩) (fun x => (l.rs).length - x.1) (⟨0, Nat.zero_le _, by simp⟩) ?_ ?_
 ·
  exact Qa rfl (JI trivial) ⟨rfl, rfl, rfl, trivial⟩
 rintro ⟨k, hk, hg⟩
 dsimp only
 refine JA ?_
 refine zq ?_ ?_ <;> intro h34
 rotate_left
 ·
  have hge : (l.rs).length ≤ k := by simpa using h34
  refine Qv ?_; refine zQ ?_
  exact Qm (by unfold W2; rw [h6, h8, XU hg hge]; rfl)
 refine Jj 42 rfl (fun hlen => ?_)
 have hlt : k < (l.rs).length := by simpa using h34
 obtain ⟨x, hx⟩ := Qn hlt
 refine XN ?_; refine zP (Qf rfl rfl rfl k rfl _ (Qk hx) rfl) ?_; refine X6 ?_
 refine zc 56 ?_ ?_ <;> intro h44
 ·
  refine QeU ?_; refine zQ ?_
  exact Qm (by unfold W2; rw [h6, h8, Q3 hg hx (by rw [Qea, show Qcl l.nm x = false by first | exact hra | (unfold Qcl; simp_all)]; rfl)]; rfl)
 refine Qu ?_; refine uP (Xj h44) (Qc (Qmd x.i) rfl rfl rfl) ?_; refine Qs ?_
 refine zc 62 ?_ ?_ <;> intro h47
 ·
  refine X6 ?_; refine zQ ?_
  exact Qm (by unfold W2; rw [h6, h8, Q3 hg hx (by rw [Qea, show Qcl l.nm x = false by first | exact hra | (unfold Qcl; simp_all)]; rfl)]; rfl)
 refine Qv ?_; refine uP (Xj (m1 (n0 h47))) (Qc (Qi5 l.nm x.t) rfl rfl rfl) ?_; refine Qs ?_
 refine zq ?_ ?_ <;> intro h52
 ·
  have hra : Qcl l.nm x = false := by unfold Qcl; simp_all
  refine Qs ?_; refine zQ ?_
  exact Qm (by unfold W2; rw [h6, h8, Q3 hg hx (by rw [Qea, show Qcl l.nm x = false by first | exact hra | (unfold Qcl; simp_all)]; rfl)]; rfl)
 have hra : Qcl l.nm x = true := by unfold Qcl; simp_all
 refine Q8 ?_
 refine Ql (fun z : {j : Nat // j ≤ x.i.length ∧ (x.i.drop j).all (X2 l.nm) = x.i.all (X2 l.nm)} => ⟨[(1, .ptr 0 0), (4, i64 (k : Nat)), (5, .ptr 1 0), (6, i64 (z.1 : Nat))], [(0, .var 26 (Q2 l)), (1, .var 188 (ruC x))], 2⟩) (fun z => x.i.length - z.1) (⟨0, Nat.zero_le _, rfl⟩) ?_ ?_
 ·
  exact Qa rfl (JH trivial) ⟨rfl, rfl, rfl, rfl, rfl, rfl, trivial⟩
 rintro ⟨j, hj, hgj⟩
 dsimp only
 skip
 refine JA ?_
 refine zq ?_ ?_ <;> intro h60
 rotate_left
 ·
  have hje : x.i.length ≤ j := by have e := h60; simp at e; omega
  refine QF ?_; refine Qb ?_
  exact ⟨⟨k + 1, hlt, Xx hg hx (by rw [Qea, hra, XU hgj hje]; rfl)⟩, Qa rfl (Xv ⟨(Q0 (by dsimp only; omega)), rfl, trivial⟩) ⟨rfl, rfl, rfl, trivial⟩, by dsimp only; omega⟩
 refine Jj 72 rfl (fun hlen => ?_)
 have hjl : j < x.i.length := by have e := h60; simp at e; omega
 obtain ⟨y, hy⟩ := Qn hjl
 refine Qv ?_; refine Qd 8 (by kernel_rfl) (by kernel_rfl) ?_; refine QF ?_; refine zp (Qf rfl rfl rfl j rfl _ (Qk hy) rfl) ?_
 refine zl ?_; refine zp (Qc (Qi5 l.nm y) rfl rfl rfl) ?_; change Qj _ _ _ _ _ _; refine Qu ?_
 refine zq ?_ ?_ <;> intro h67
 ·
  have h19 := n1 h67
  refine Qs ?_; refine zQ ?_
  exact Qm (by unfold W2; rw [h6, h8, Q3 hg hx (by rw [Qea, hra, Q3 hgj hy h19]; rfl)]; rfl)
 have h19 := h67
 refine QF ?_; refine Qb ?_
 exact ⟨⟨j + 1, hjl, Xx hgj hy (n0 h19)⟩, Qa rfl (JO ⟨(Q0 (by dsimp only; omega)), rfl, trivial⟩) ⟨rfl, rfl, rfl, rfl, rfl, rfl, trivial⟩, by dsimp only; omega⟩
def Wo (l : QD) (d n : Int) : Int := if d > 6 ∨ n ≥ 64 then 6 else if Xo l ≠ 0 then 1 else orE [JC l, Jr l, X7 l, Js l]
section
variable {l : QD} {d n : Int}
theorem Qg2 (h : d > 6 ∨ n ≥ 64) : Wo l d n = 6 := by unfold Wo; rw [if_pos h]
theorem QkA (h : ¬ (d > 6 ∨ n ≥ 64)) (hs : (Xo l == 0) = false) : Wo l d n = 1 := by unfold Wo; rw [if_neg h, if_pos (by simpa using hs)]
theorem Wp (h : ¬ (d > 6 ∨ n ≥ 64)) (hs : Xo l = 0) : Wo l d n = orE [JC l, Jr l, X7 l, Js l] := by unfold Wo; rw [if_neg h, if_neg (by rw [hs]; decide)]
theorem Qrc {a b c e : Int} (h : a ≠ 0) : orE [a, b, c, e] = a := by simp [orE, h]
theorem Qt1 {a b c e : Int} (h1 : a = 0) (h : b ≠ 0) : orE [a, b, c, e] = b := by simp [orE, h, h1]
theorem Qnn {a b c e : Int} (h1 : a = 0) (h2 : b = 0) (h : c ≠ 0) : orE [a, b, c, e] = c := by simp [orE, h, h1, h2]
theorem Qnh {a b c e : Int} (h1 : a = 0) (h2 : b = 0) (h3 : c = 0) : orE [a, b, c, e] = e := by
 by_cases h : e = 0 <;> simp [orE, h, h1, h2, h3]
theorem Qfl (h : ((decide ((l.nm.length : Int) > Y7 l.k)) || decide ((l.rs.length : Int) > 32)) = true) : JC l = 6 := by unfold JC; rw [h]; rfl
theorem QrN (h : ((decide ((l.nm.length : Int) > Y7 l.k)) || decide ((l.rs.length : Int) > 32)) = false) : JC l = 0 := by unfold JC; rw [h]; rfl
theorem Qcm : X7 l = J1 (decide (l.lo > l.hi) || decide (l.lo < -1000000000) || decide (l.hi > 1000000000)) 5 := by
 unfold X7
 congr 1
 by_cases h1 : l.lo > l.hi
 ·simp [h1]
 by_cases h2 : l.lo < -1000000000
 ·simp [h2]
 by_cases h3 : l.hi > 1000000000
 ·simp [h3]
 have h4 : ¬ l.lo > 1000000000 := by omega
 have h5 : ¬ l.hi < -1000000000 := by omega
 simp [h1, h2, h3, h4, h5]
end
theorem Qmf (l : QD) (d n : Int) : FC Tryz.prog 142 [.agg (Q2 l), i64 d, i64 n] (i64 (Wo l d n)) := by
 refine Qg [6] Tryz.func142 rfl rfl 69 Tryz.ntmps142 (Nat.le_of_ble_eq_true rfl) ?_
 intro E hN
 refine Qcb ?_
 refine zq ?_ ?_ <;> intro h7
 ·
  refine Qs ?_; refine Wm (⟨[(1, i64 d), (2, i64 n), (3, .ptr 0 0), (7, i64 (Y7 l.k))], [(0, .var 26 (Q2 l))], 1⟩) ?_ ?_
  ·
   refine Q8 ?_
   refine zq ?_ ?_ <;> intro h10
   ·
    refine Qu ?_; refine Qb ?_
    exact Qa rfl (JO ⟨(Q0 (by unfold Y7; simp_all)), rfl, trivial⟩) ⟨rfl, rfl, rfl, trivial⟩
   refine Xn ?_
   exact Qa rfl (JO ⟨(Q0 (by unfold Y7; simp_all)), rfl, trivial⟩) ⟨rfl, rfl, rfl, trivial⟩
  refine Q4 ?_
  refine zc 17 ?_ ?_ <;> intro h13
  ·
   refine JA ?_; refine zQ ?_
   exact QS (Qg2 (by first | (left; simp_all; done) | (right; simp_all; done))).symm
  refine QF ?_
  refine zq ?_ ?_ <;> intro h14
  ·
   have hb : d > 6 ∨ n ≥ 64 := by first | (left; simp_all; done) | (right; simp_all; done)
   refine Qs ?_; refine zQ ?_
   exact QS (Qg2 (by first | (left; simp_all; done) | (right; simp_all; done))).symm
  have hb : ¬ (d > 6 ∨ n ≥ 64) := by first | (simp_all; done) | (simp_all; omega)
  refine Qs ?_; refine zP (Qc (QgV l) rfl rfl rfl) ?_; refine Qs ?_
  refine zq ?_ ?_ <;> intro h16
  ·
   have hs := n1 h16
   refine Qs ?_; refine zQ ?_
   exact QS (QkA hb hs).symm
  have hs : Xo l = 0 := by simpa using n0 h16
  refine XN ?_
  refine zc 31 ?_ ?_ <;> intro h20
  ·
   refine Jv ?_; refine zQ ?_
   exact QS (by rw [Wp hb hs, Qrc (by rw [Qfl (by simp_all)]; decide), Qfl (by simp_all)])
  refine Q4 ?_
  refine zq ?_ ?_ <;> intro h24
  ·
   refine Qs ?_; refine zQ ?_
   exact QS (by rw [Wp hb hs, Qrc (by rw [Qfl (by simp_all)]; decide), Qfl (by simp_all)])
  have hlim : ((decide ((l.nm.length : Int) > Y7 l.k)) || decide ((l.rs.length : Int) > 32)) = false := by simp_all
  have hl0 := QrN hlim
  have hl1 : (l.nm.length : Int) ≤ Y7 l.k ∧ (l.rs.length : Int) ≤ 32 := by simp at hlim; omega
  refine Qs ?_; refine zP (Qc (QkI l) rfl rfl rfl) ?_; refine Qs ?_
  refine zq ?_ ?_ <;> intro h26
  ·
   have hsp : Jr l = 3 := by
    have e := n1 h26
    rw [QcS hs] at e
    unfold Jr at e ⊢
    split
    ·rename_i h; rw [if_pos h] at e; cases e
    rfl
   refine Qs ?_; refine zQ ?_
   exact QS (by rw [Wp hb hs, Qt1 hl0 (by rw [hsp]; decide), hsp])
  have hsp : Jr l = 0 := by
   have e := n0 h26
   rw [QcS hs] at e
   simpa using e
  refine XN ?_
  refine zc 47 ?_ ?_ <;> intro h31
  ·
   refine QdD ?_; refine zQ ?_
   exact QS (by have e : X7 l = 5 := (by rw [Qcm]; (first | (simp_all; done) | simp_all [J1])); rw [Wp hb hs, Qnn hl0 hsp (by rw [e]; decide), e])
  refine QF ?_
  refine zc 52 ?_ ?_ <;> intro h34
  ·
   refine XB ?_; refine zQ ?_
   exact QS (by have e : X7 l = 5 := (by rw [Qcm]; (first | (simp_all; done) | simp_all [J1])); rw [Wp hb hs, Qnn hl0 hsp (by rw [e]; decide), e])
  refine Q8 ?_
  refine zq ?_ ?_ <;> intro h37
  ·
   refine Qs ?_; refine zQ ?_
   exact QS (by have e : X7 l = 5 := (by rw [Qcm]; (first | (simp_all; done) | simp_all [J1])); rw [Wp hb hs, Qnn hl0 hsp (by rw [e]; decide), e])
  have hrg : X7 l = 0 := by rw [Qcm]; (first | (simp_all; done) | simp_all [J1])
  refine Q8 ?_
  refine zc 61 ?_ ?_ <;> intro h40
  rotate_left
  ·
   refine Ki ?_; refine zQ ?_
   exact QS (by rw [Wp hb hs, Qnh hl0 hsp hrg]; unfold Js; (first | (simp_all; done) | simp_all [J1]))
  have h7 : l.k = 7 := by simpa using h40
  obtain ⟨a, r, hps⟩ := QiP hs h7
  have ha : l.ps[0]? = some a := by rw [hps]; rfl
  refine Qu ?_; refine uP (XG h40) (Qf rfl rfl rfl 0 rfl _ (XK ha) rfl) ?_; refine Jk ?_
  refine uP (XG h40) (Qc (Qdx a) rfl rfl rfl) ?_; refine Qv ?_
  refine zq ?_ ?_ <;> intro h45
  ·
   refine Qs ?_; refine zQ ?_
   exact QS (by rw [Wp hb hs, Qnh hl0 hsp hrg]; unfold Js; rw [hps]; (first | (simp_all; done) | simp_all [J1]))
  refine Qv ?_; refine zQ ?_
  exact QS (by rw [Wp hb hs, Qnh hl0 hsp hrg]; unfold Js; (first | (simp_all; done) | simp_all [J1]))
 refine zW ?_; refine Wm (⟨[(1, i64 d), (2, i64 n), (3, .ptr 0 0), (7, i64 (Y7 l.k))], [(0, .var 26 (Q2 l))], 1⟩) ?_ ?_
 ·
  refine Q8 ?_
  refine zq ?_ ?_ <;> intro h48
  ·
   refine Qu ?_; refine Qb ?_
   exact Qa rfl (JO ⟨(Q0 (by unfold Y7; simp_all)), rfl, trivial⟩) ⟨rfl, rfl, rfl, trivial⟩
  refine Xn ?_
  exact Qa rfl (JO ⟨(Q0 (by unfold Y7; simp_all)), rfl, trivial⟩) ⟨rfl, rfl, rfl, trivial⟩
 refine Q4 ?_
 refine zc 17 ?_ ?_ <;> intro h51
 ·
  refine JA ?_; refine zQ ?_
  exact QS (Qg2 (by first | (left; simp_all; done) | (right; simp_all; done))).symm
 refine QF ?_
 refine zq ?_ ?_ <;> intro h52
 ·
  have hb : d > 6 ∨ n ≥ 64 := by first | (left; simp_all; done) | (right; simp_all; done)
  refine Qs ?_; refine zQ ?_
  exact QS (Qg2 (by first | (left; simp_all; done) | (right; simp_all; done))).symm
 have hb : ¬ (d > 6 ∨ n ≥ 64) := by first | (simp_all; done) | (simp_all; omega)
 refine Qs ?_; refine zP (Qc (QgV l) rfl rfl rfl) ?_; refine Qs ?_
 refine zq ?_ ?_ <;> intro h54
 ·
  have hs := n1 h54
  refine Qs ?_; refine zQ ?_
  exact QS (QkA hb hs).symm
 have hs : Xo l = 0 := by simpa using n0 h54
 refine XN ?_
 refine zc 31 ?_ ?_ <;> intro h58
 ·
  refine Jv ?_; refine zQ ?_
  exact QS (by rw [Wp hb hs, Qrc (by rw [Qfl (by simp_all)]; decide), Qfl (by simp_all)])
 refine Q4 ?_
 refine zq ?_ ?_ <;> intro h62
 ·
  refine Qs ?_; refine zQ ?_
  exact QS (by rw [Wp hb hs, Qrc (by rw [Qfl (by simp_all)]; decide), Qfl (by simp_all)])
 have hlim : ((decide ((l.nm.length : Int) > Y7 l.k)) || decide ((l.rs.length : Int) > 32)) = false := by simp_all
 have hl0 := QrN hlim
 have hl1 : (l.nm.length : Int) ≤ Y7 l.k ∧ (l.rs.length : Int) ≤ 32 := by simp at hlim; omega
 refine Qs ?_; refine zP (Qc (QkI l) rfl rfl rfl) ?_; refine Qs ?_
 refine zq ?_ ?_ <;> intro h64
 ·
  have hsp : Jr l = 3 := by
   have e := n1 h64
   rw [QcS hs] at e
   unfold Jr at e ⊢
   split
   ·rename_i h; rw [if_pos h] at e; cases e
   rfl
  refine Qs ?_; refine zQ ?_
  exact QS (by rw [Wp hb hs, Qt1 hl0 (by rw [hsp]; decide), hsp])
 have hsp : Jr l = 0 := by
  have e := n0 h64
  rw [QcS hs] at e
  simpa using e
 refine XN ?_
 refine zc 47 ?_ ?_ <;> intro h69
 ·
  refine QdD ?_; refine zQ ?_
  exact QS (by have e : X7 l = 5 := (by rw [Qcm]; (first | (simp_all; done) | simp_all [J1])); rw [Wp hb hs, Qnn hl0 hsp (by rw [e]; decide), e])
 refine QF ?_
 refine zc 52 ?_ ?_ <;> intro h72
 ·
  refine XB ?_; refine zQ ?_
  exact QS (by have e : X7 l = 5 := (by rw [Qcm]; (first | (simp_all; done) | simp_all [J1])); rw [Wp hb hs, Qnn hl0 hsp (by rw [e]; decide), e])
 refine Q8 ?_
 refine zq ?_ ?_ <;> intro h75
 ·
  refine Qs ?_; refine zQ ?_
  exact QS (by have e : X7 l = 5 := (by rw [Qcm]; (first | (simp_all; done) | simp_all [J1])); rw [Wp hb hs, Qnn hl0 hsp (by rw [e]; decide), e])
 have hrg : X7 l = 0 := by rw [Qcm]; (first | (simp_all; done) | simp_all [J1])
 refine Q8 ?_
 refine zc 61 ?_ ?_ <;> intro h78
 rotate_left
 ·
  refine Ki ?_; refine zQ ?_
  exact QS (by rw [Wp hb hs, Qnh hl0 hsp hrg]; unfold Js; (first | (simp_all; done) | simp_all [J1]))
 have h7 : l.k = 7 := by simpa using h78
 obtain ⟨a, r, hps⟩ := QiP hs h7
 have ha : l.ps[0]? = some a := by rw [hps]; rfl
 refine Qu ?_; refine uP (XG h78) (Qf rfl rfl rfl 0 rfl _ (XK ha) rfl) ?_; refine Jk ?_
 refine uP (XG h78) (Qc (Qdx a) rfl rfl rfl) ?_; refine Qv ?_
 refine zq ?_ ?_ <;> intro h83
 ·
  refine Qs ?_; refine zQ ?_
  exact QS (by rw [Wp hb hs, Qnh hl0 hsp hrg]; unfold Js; rw [hps]; (first | (simp_all; done) | simp_all [J1]))
 refine Qv ?_; refine zQ ?_
 exact QS (by rw [Wp hb hs, Qnh hl0 hsp hrg]; unfold Js; (first | (simp_all; done) | simp_all [J1]))
def QkH (v : Int × Int) : AV := .tup [if v.1 = 0 then i64 v.2 else .bot, i64 v.1]
theorem Qf5 {v : Int × Int} {e : Int} (h : v.1 = e) (he : e ≠ 0) : AV.tup [.bot, i64 e] = QkH v := by unfold QkH; rw [h, if_neg he]
theorem QqU {v : Int × Int} {m : Int} (h : (0, m) = v) : AV.tup [i64 m, i64 0] = QkH v := by unfold QkH; rw [← h, if_pos rfl]
section
variable {f : Nat} {l : QD} {n d : Int}
theorem Qnw (hd : d ≤ 6) (h : Wo l d n ≠ 0) : (Xc (f + 1) l n).1 = Wo l d n := by
 unfold Wo at h ⊢
 by_cases h1 : n ≥ 64
 ·rw [Qjl h1, if_pos (.inr h1)]
 rw [if_neg (by omega)] at h ⊢
 cases h2 : Xo l != 0 with
 | true =>
  rw [Qei (by omega) h2, if_pos (by simpa using h2)]
  show Xo l = 1
  have : Xo l ≠ 0 := by simpa using h2
  unfold Xo at this ⊢
  split
  ·rename_i hk; rw [if_pos hk] at this; unfold J1 at this ⊢; split
   ·rfl
   rename_i hb; rw [if_neg hb] at this; exact absurd rfl this
  rfl
 | false =>
  have h3 : Xo l = 0 := by simpa using h2
  rw [if_neg (by rw [h3]; decide)] at h ⊢
  rw [QpN (by omega) h2 (by simpa using h)]
theorem Qpk (hd : d ≤ 6) (h : Wo l d n = 0) : Xc (f + 1) l n = JE (Xc f) l.ps (n + 1) := by
 unfold Wo at h
 by_cases h1 : n ≥ 64
 ·rw [if_pos (.inr h1)] at h; cases h
 rw [if_neg (by omega)] at h
 by_cases h2 : Xo l = 0
 ·rw [if_neg (by rw [h2]; decide)] at h
  exact QbA (by omega) (by rw [h2]; rfl) (by rw [h]; rfl)
 rw [if_pos h2] at h; cases h
end
theorem Qtb (l : QD) (n d : Int) (hd : d = 7) : FC Tryz.prog 111 [.agg (Q2 l), i64 d, i64 n] (QkH (Xc 0 l n)) := by
 have hE : Wo l d n = 6 := Qg2 (.inl (by omega))
 refine Qg [6, 7] Tryz.func111 rfl rfl 48 Tryz.ntmps111 (Nat.le_of_ble_eq_true rfl) ?_
 intro E hN
 refine X6 ?_; refine zP (Qc (Qmf l d n) rfl rfl rfl) ?_; refine QF ?_
 refine zP (QC (b := true) rfl rfl rfl (by rw [hE]; rfl)) ?_
 refine JA ?_; refine QI (st' := ⟨[(7, i64 (Wo l d n))], [], 1⟩) (Qa rfl (Xv trivial) trivial) ?_; refine zR ?_
 rw [hE]; exact Qf5 rfl (by decide)
theorem Qso (f : Nat) (hf : f + 1 ≤ 6) (ih : ∀ (l : QD) (n d : Int), d = 7 - (f : Int) → 0 ≤ n → FC Tryz.prog 111 [.agg (Q2 l), i64 d, i64 n] (QkH (Xc f l n))) (l : QD) (n d : Int) (hd : d = 7 - ((f + 1 : Nat) : Int)) (hn : 0 ≤ n) : FC Tryz.prog 111 [.agg (Q2 l), i64 d, i64 n] (QkH (Xc (f + 1) l n)) := by
 refine Qg [6, 7] Tryz.func111 rfl rfl 48 Tryz.ntmps111 (Nat.le_of_ble_eq_true rfl) ?_
 intro E hN
 refine X6 ?_; refine zP (Qc (Qmf l d n) rfl rfl rfl) ?_; refine Q4 ?_
 refine zq ?_ ?_ <;> intro h7
 ·
  have h2 : Wo l d n ≠ 0 := by simpa using h7
  refine Q4 ?_; refine QI (st' := ⟨[(7, i64 (Wo l d n))], [], 1⟩) (Qa rfl (Xv trivial) trivial) ?_; refine zR ?_
  exact Qf5 (Qnw (by omega) h2) h2
 have h2 : Wo l d n = 0 := by simpa using h7
 have hn64 : n < 64 := by
  unfold Wo at h2
  by_cases h1 : n ≥ 64
  ·rw [if_pos (.inr h1)] at h2; cases h2
  omega
 have hvo := Qpk (f := f) (l := l) (n := n) (d := d) (by omega) h2
 refine YR ?_
 refine Ql (fun z : {q : Nat × Int // q.1 ≤ l.ps.length ∧ 0 ≤ q.2 ∧ JE (Xc f) (l.ps.drop q.1) q.2 = JE (Xc f) l.ps (n + 1)} => ⟨[(1, i64 d), (3, .ptr 0 0), (9, i64 z.1.2), (10, i64 (z.1.1 : Nat))], [(0, .var 26 (Q2 l))], 1⟩) (fun z => l.ps.length - z.1.1) (⟨(0, n + 1), Nat.zero_le _, by show 0 ≤ n + 1; omega, by simp⟩) ?_ ?_
 ·
  exact Qa rfl (JH trivial) ⟨rfl, rfl, rfl, trivial⟩
 rintro ⟨⟨k, m⟩, hk, hm, hg⟩
 dsimp only at hk hm hg ⊢
 refine JA ?_
 refine zq ?_ ?_ <;> intro h16
 rotate_left
 ·
  have hge : (l.ps).length ≤ k := by simpa using h16
  refine Q8 ?_; refine zQ ?_
  exact QqU (by rw [hvo]; exact QlF hg hge)
 refine Jj 25 rfl (fun hlen => ?_)
 have hlt : k < (l.ps).length := by simpa using h16
 obtain ⟨x, hx⟩ := Qn hlt
 refine XN ?_; refine zP (Qf rfl rfl rfl k rfl _ (XK hx) rfl) ?_; refine Qv ?_; refine zP (Qc (ih x m _ (by omega) hm) rfl rfl rfl) ?_
 refine X6 ?_
 refine zq ?_ ?_ <;> intro h25
 ·
  have he : (Xc f x m).1 ≠ 0 := by simpa using h25
  refine Q4 ?_; refine QI (st' := ⟨[(7, i64 ((Xc f x m).1))], [], 1⟩) (Qa rfl (Xv trivial) trivial) ?_; refine zR ?_
  exact Qf5 (by rw [hvo, ← Qid hg hx (by simpa using he)]) he
 have he : (Xc f x m).1 = 0 := by simpa using h25
 rw [if_pos he]
 refine JA ?_; refine Qb ?_
 exact ⟨⟨(k + 1, (Xc f x m).2), hlt, QeE _ _ _ hm, QrR hg hx (by rw [he]; rfl)⟩, Qa rfl (JO ⟨(Q0 (by dsimp only; omega)), rfl, trivial⟩) ⟨rfl, rfl, rfl, trivial⟩, by dsimp only; omega⟩
theorem QkN : ∀ (f : Nat) (l : QD) (n d : Int), f ≤ 6 → d = 7 - (f : Int) → 0 ≤ n → FC Tryz.prog 111 [.agg (Q2 l), i64 d, i64 n] (QkH (Xc f l n))
 | 0, l, n, d, _, hd, _ => Qtb l n d (by simpa using hd)
 | f + 1, l, n, d, hf, hd, hn => Qso f hf (fun l n d h1 h2 => QkN f l n d (by omega) h1 h2) l n d hd hn
theorem Qaw (l : QD) : FC Tryz.prog 64 [.agg (Q2 l)] (i64 (Xp l)) := by
 refine Qg [2] Tryz.func64 rfl rfl 11 Tryz.ntmps64 (Nat.le_of_ble_eq_true rfl) ?_
 intro E hN
 refine XN ?_; refine zP (Qc (QkN 6 l 0 1 (by decide) rfl (by decide)) rfl rfl rfl) ?_; refine XB ?_; refine zQ ?_
 rfl
end Go.Proofs.YtnkkokmmeplbgaaGreat
