/-
  Contracts of the reference: Check.
-/
import Derived.Test.YtnkkokmmeplbgaaGreatC3
import Derived.Test.YtnkkokmmeplbgaaGreatA3
namespace Go.Proofs.YtnkkokmmeplbgaaGreat
set_option maxRecDepth 100000
set_option maxHeartbeats 1000000
open Go.RowKit
theorem QgK {l : List Nm} {k : Nat} {x : Nm} (h : l[k]? = some x) : l.zipIdx[k]? = some (x, k) := by simp [h]
def Qky (l : Qv) (q : Nm × Nat) : Bool := XP q.1 && !X6 (l.nm.take q.2) q.1
def QcR (nm : List Nm) (r : Ru) : Bool := !((r.i.length : Int) == 0) && QcA r.i && X6 nm r.t
theorem Qev {nm : List Nm} {r : Ru} : QgO nm r = (QcR nm r && r.i.all (X6 nm)) := rfl
theorem QlD (l : Qv) : FC Tryz.prog 177 [.agg (Q2 l)] (bl (QaM l)) := by
 refine Qh [2] Tryz.func177 rfl rfl 86 Tryz.ntmps177 (Nat.le_of_ble_eq_true rfl) ?_
 intro E hN;refine Jx ?_
 refine zq ?_ ?_ <;> intro h5
 ·have h6 : (l.k == 6) = true := h5
  refine Xk ?_;refine Qm (fun x : {k : Nat // k ≤ (l.nm).length ∧ (l.nm.zipIdx.drop k).all (Qky l) = l.nm.zipIdx.all (Qky l)} => ⟨[(1, .ptr 0 0), (3, i64 (x.1 : Nat))], [(0, .var 26 (Q2 l))], 1⟩) (fun x => (l.nm).length - x.1) (⟨0, Nat.zero_le _, by simp⟩) ?_ ?_
  ·exact Qa rfl (Yf trivial) ⟨rfl, rfl, rfl, trivial⟩
  rintro ⟨k, hk, hg⟩;dsimp only;refine X3 ?_
  refine zq ?_ ?_ <;> intro h11
  rotate_left
  ·have hge : (l.nm).length ≤ k := by simpa using h11
   refine QC ?_;refine zQ ?_;exact Qo (by unfold QaM; rw [if_pos h6]; exact (X4 hg (by simpa using hge)).symm)
  refine Jq 12 rfl (fun hlen => ?_)
  have hlt : k < (l.nm).length := by simpa using h11
  obtain ⟨x, hx⟩ := Qq hlt;refine QC ?_;refine zD 18 ?_;refine QD ?_;refine zp (Qf rfl rfl rfl k rfl _ (Qi hx) rfl) ?_;refine zl ?_;refine zp (Qd (Qik x) rfl rfl rfl) ?_;refine QH ?_
  refine zd 24 ?_ ?_ <;> intro h16
  ·have ho0 : Qky l (x, k) = false := by unfold Qky; rw [n1 h16]; rfl
   refine QaL ?_;refine zQ ?_;exact Qo (by unfold QaM; rw [if_pos h6]; exact (Q6 hg (QgK hx) ho0).symm)
  have hv1 : XP x = true := n0 h16
  refine QD ?_;refine vP (X0 (m1 (n0 h16))) (QtT rfl rfl rfl k rfl (by omega) (by exact fun _ => rfl)) ?_;refine QD ?_;refine vP (X0 (m1 (n0 h16))) (Qf rfl rfl rfl k rfl _ (Qi hx) rfl) ?_;refine JB ?_;refine vP (X0 (m1 (n0 h16))) (Qd (Qjs (l.nm.take k) x) rfl rfl rfl) ?_;refine QH ?_
  refine zq ?_ ?_ <;> intro h24
  ·have ho0 : Qky l (x, k) = false := by unfold Qky; rw [hv1]; simp only [Bool.true_and, Bool.not_eq_false']; exact h24
   refine QD ?_;refine zQ ?_;exact Qo (by unfold QaM; rw [if_pos h6]; exact (Q6 hg (QgK hx) ho0).symm)
  have ho1 : Qky l (x, k) = true := by unfold Qky; rw [hv1]; simp only [Bool.true_and, Bool.not_eq_true']; exact h24
  refine Qy ?_;refine Qb ?_;exact ⟨⟨k + 1, hlt, XG hg (QgK hx) ho1⟩, Qa rfl (XE ⟨X5, rfl, trivial⟩) ⟨rfl, rfl, rfl, trivial⟩, by dsimp only; omega⟩
 have h6 : (l.k == 6) = false := h5
 refine Xk ?_;refine zP (Qd (Qnq l.nm) rfl rfl rfl) ?_;refine QH ?_
 refine zq ?_ ?_ <;> intro h28
 ·have h8 := n1 h28
  refine QD ?_;refine zQ ?_;exact Qo (by unfold QaM; rw [h6, h8]; rfl)
 have h8 := n0 h28
 refine Xg ?_;refine Qm (fun x : {k : Nat // k ≤ (l.rs).length ∧ (l.rs.drop k).all (QgO l.nm) = l.rs.all (QgO l.nm)} => ⟨[(1, .ptr 0 0), (4, i64 (x.1 : Nat))], [(0, .var 26 (Q2 l))], 1⟩) (fun x => (l.rs).length - x.1) (⟨0, Nat.zero_le _, by simp⟩) ?_ ?_
 ·exact Qa rfl (Yf trivial) ⟨rfl, rfl, rfl, trivial⟩
 rintro ⟨k, hk, hg⟩;dsimp only;refine X3 ?_
 refine zq ?_ ?_ <;> intro h34
 rotate_left
 ·have hge : (l.rs).length ≤ k := by simpa using h34
  refine QC ?_;refine zQ ?_;exact Qo (by unfold QaM; rw [h6, h8, X4 hg hge]; rfl)
 refine Jq 42 rfl (fun hlen => ?_)
 have hlt : k < (l.rs).length := by simpa using h34
 obtain ⟨x, hx⟩ := Qq hlt;refine Xo ?_;refine zP (Qf rfl rfl rfl k rfl _ (Qi hx) rfl) ?_;refine Jx ?_
 refine zc 56 ?_ ?_ <;> intro h44
 ·refine Wn ?_;refine zQ ?_;exact Qo (by unfold QaM; rw [h6, h8, Q6 hg hx (by rw [Qev, show QcR l.nm x = false by first | exact hra | (unfold QcR; simp_all)]; rfl)]; rfl)
 refine QH ?_;refine uP (X0 h44) (Qd (Qnq x.i) rfl rfl rfl) ?_;refine QD ?_
 refine zc 62 ?_ ?_ <;> intro h47
 ·refine Jx ?_;refine zQ ?_;exact Qo (by unfold QaM; rw [h6, h8, Q6 hg hx (by rw [Qev, show QcR l.nm x = false by first | exact hra | (unfold QcR; simp_all)]; rfl)]; rfl)
 refine QC ?_;refine uP (X0 (m1 (n0 h47))) (Qd (Qjs l.nm x.t) rfl rfl rfl) ?_;refine QD ?_
 refine zq ?_ ?_ <;> intro h52
 ·have hra : QcR l.nm x = false := by unfold QcR; simp_all
  refine QD ?_;refine zQ ?_;exact Qo (by unfold QaM; rw [h6, h8, Q6 hg hx (by rw [Qev, show QcR l.nm x = false by first | exact hra | (unfold QcR; simp_all)]; rfl)]; rfl)
 have hra : QcR l.nm x = true := by unfold QcR; simp_all
 refine Xk ?_;refine Qm (fun z : {j : Nat // j ≤ x.i.length ∧ (x.i.drop j).all (X6 l.nm) = x.i.all (X6 l.nm)} => ⟨[(1, .ptr 0 0), (4, i64 (k : Nat)), (5, .ptr 1 0), (6, i64 (z.1 : Nat))], [(0, .var 26 (Q2 l)), (1, .var 188 (ruC x))], 2⟩) (fun z => x.i.length - z.1) (⟨0, Nat.zero_le _, rfl⟩) ?_ ?_
 ·exact Qa rfl (YO trivial) ⟨rfl, rfl, rfl, rfl, rfl, rfl, trivial⟩
 rintro ⟨j, hj, hgj⟩;dsimp only
 skip
 refine X3 ?_
 refine zq ?_ ?_ <;> intro h60
 rotate_left
 ·have hje : x.i.length ≤ j := by have e := h60; simp at e; omega
  refine Qy ?_;refine Qb ?_;exact ⟨⟨k + 1, hlt, XG hg hx (by rw [Qev, hra, X4 hgj hje]; rfl)⟩, Qa rfl (XE ⟨X5, rfl, trivial⟩) ⟨rfl, rfl, rfl, trivial⟩, by dsimp only; omega⟩
 refine Jq 72 rfl (fun hlen => ?_)
 have hjl : j < x.i.length := by have e := h60; simp at e; omega
 obtain ⟨y, hy⟩ := Qq hjl;refine QC ?_;refine zD 8 ?_;refine Qy ?_;refine zp (Qf rfl rfl rfl j rfl _ (Qi hy) rfl) ?_;refine zl ?_;refine zp (Qd (Qjs l.nm y) rfl rfl rfl) ?_;refine QH ?_
 refine zq ?_ ?_ <;> intro h67
 ·have h19 := n1 h67
  refine QD ?_;refine zQ ?_;exact Qo (by unfold QaM; rw [h6, h8, Q6 hg hx (by rw [Qev, hra, Q6 hgj hy h19]; rfl)]; rfl)
 have h19 := h67
 refine Qy ?_;refine Qb ?_;exact ⟨⟨j + 1, hjl, XG hgj hy (n0 h19)⟩, Qa rfl (JZ ⟨X5, rfl, trivial⟩) ⟨rfl, rfl, rfl, rfl, rfl, rfl, trivial⟩, by dsimp only; omega⟩
def W8 (l : Qv) (d n : Int) : Int := if d > 6 ∨ n ≥ 64 then 6 else if Xr l ≠ 0 then 1 else orE [JK l, Jy l, Jb l, Jz l]
section
variable {l : Qv} {d n : Int}
theorem Qgw (h : d > 6 ∨ n ≥ 64) : W8 l d n = 6 := by unfold W8; rw [if_pos h]
theorem Qk9 (h : ¬ (d > 6 ∨ n ≥ 64)) (hs : (Xr l == 0) = false) : W8 l d n = 1 := by unfold W8; rw [if_neg h, if_pos (by simpa using hs)]
theorem Qab (h : ¬ (d > 6 ∨ n ≥ 64)) (hs : Xr l = 0) : W8 l d n = orE [JK l, Jy l, Jb l, Jz l] := by unfold W8; rw [if_neg h, if_neg (by rw [hs]; decide)]
theorem Qsl {a b c e : Int} (h : a ≠ 0) : orE [a, b, c, e] = a := by simp [orE, h]
theorem Qwb {a b c e : Int} (h1 : a = 0) (h : b ≠ 0) : orE [a, b, c, e] = b := by simp [orE, h, h1]
theorem QoC {a b c e : Int} (h1 : a = 0) (h2 : b = 0) (h : c ≠ 0) : orE [a, b, c, e] = c := by simp [orE, h, h1, h2]
theorem Qpa {a b c e : Int} (h1 : a = 0) (h2 : b = 0) (h3 : c = 0) : orE [a, b, c, e] = e := by
 by_cases h : e = 0 <;> simp [orE, h, h1, h2, h3]
theorem Qf6 (h : ((decide ((l.nm.length : Int) > Ky l.k)) || decide ((l.rs.length : Int) > 32)) = true) : JK l = 6 := by unfold JK; rw [h]; rfl
theorem Que (h : ((decide ((l.nm.length : Int) > Ky l.k)) || decide ((l.rs.length : Int) > 32)) = false) : JK l = 0 := by unfold JK; rw [h]; rfl
theorem Qc9 : Jb l = Yb (decide (l.lo > l.hi) || decide (l.lo < -1000000000) || decide (l.hi > 1000000000)) 5 := by
 unfold Jb
 congr 1
 by_cases h1 : l.lo > l.hi
 ·simp [h1]
 by_cases h2 : l.lo < -1000000000
 ·simp [h2]
 by_cases h3 : l.hi > 1000000000
 ·simp [h3]
 have h4 : ¬ l.lo > 1000000000 := by omega
 have h5 : ¬ l.hi < -1000000000 := by omega
 simp [h1, h2, h3, h4, h5]
end
theorem Qni (l : Qv) (d n : Int) : FC Tryz.prog 142 [.agg (Q2 l), i64 d, i64 n] (i64 (W8 l d n)) := by
 refine Qh [6] Tryz.func142 rfl rfl 69 Tryz.ntmps142 (Nat.le_of_ble_eq_true rfl) ?_
 intro E hN;refine QaL ?_
 refine zq ?_ ?_ <;> intro h7
 ·refine QD ?_;refine JT (⟨[(1, i64 d), (2, i64 n), (3, .ptr 0 0), (7, i64 (Ky l.k))], [(0, .var 26 (Q2 l))], 1⟩) ?_ ?_
  ·refine Xk ?_
   refine zq ?_ ?_ <;> intro h10
   ·refine QH ?_;refine Qb ?_;exact Qa rfl (JZ ⟨(Y6 (by unfold Ky; simp_all)), rfl, trivial⟩) ⟨rfl, rfl, rfl, trivial⟩
   refine QO ?_;exact Qa rfl (JZ ⟨(Y6 (by unfold Ky; simp_all)), rfl, trivial⟩) ⟨rfl, rfl, rfl, trivial⟩
  refine Xg ?_
  refine zc 17 ?_ ?_ <;> intro h13
  ·refine X3 ?_;refine zQ ?_;exact QZ (Qgw (by first | (left; simp_all; done) | (right; simp_all; done))).symm
  refine Qy ?_
  refine zq ?_ ?_ <;> intro h14
  ·have hb : d > 6 ∨ n ≥ 64 := by first | (left; simp_all; done) | (right; simp_all; done)
   refine QD ?_;refine zQ ?_;exact QZ (Qgw (by first | (left; simp_all; done) | (right; simp_all; done))).symm
  have hb : ¬ (d > 6 ∨ n ≥ 64) := by first | (simp_all; done) | (simp_all; omega)
  refine QD ?_;refine zP (Qd (Qhu l) rfl rfl rfl) ?_;refine QD ?_
  refine zq ?_ ?_ <;> intro h16
  ·have hs := n1 h16
   refine QD ?_;refine zQ ?_;exact QZ (Qk9 hb hs).symm
  have hs : Xr l = 0 := by simpa using n0 h16
  refine Xo ?_
  refine zc 31 ?_ ?_ <;> intro h20
  ·refine Xn ?_;refine zQ ?_;exact QZ (by rw [Qab hb hs, Qsl (by rw [Qf6 (by simp_all)]; decide), Qf6 (by simp_all)])
  refine Xg ?_
  refine zq ?_ ?_ <;> intro h24
  ·refine QD ?_;refine zQ ?_;exact QZ (by rw [Qab hb hs, Qsl (by rw [Qf6 (by simp_all)]; decide), Qf6 (by simp_all)])
  have hlim : ((decide ((l.nm.length : Int) > Ky l.k)) || decide ((l.rs.length : Int) > 32)) = false := by simp_all
  have hl0 := Que hlim
  have hl1 : (l.nm.length : Int) ≤ Ky l.k ∧ (l.rs.length : Int) ≤ 32 := by simp at hlim; omega
  refine QD ?_;refine zP (Qd (QlD l) rfl rfl rfl) ?_;refine QD ?_
  refine zq ?_ ?_ <;> intro h26
  ·have hsp : Jy l = 3 := by
    have e := n1 h26
    rw [Qdl hs] at e
    unfold Jy at e ⊢
    split
    ·rename_i h; rw [if_pos h] at e; cases e
    rfl
   refine QD ?_;refine zQ ?_;exact QZ (by rw [Qab hb hs, Qwb hl0 (by rw [hsp]; decide), hsp])
  have hsp : Jy l = 0 := by
   have e := n0 h26
   rw [Qdl hs] at e
   simpa using e
  refine Xo ?_
  refine zc 47 ?_ ?_ <;> intro h31
  ·refine QdK ?_;refine zQ ?_;exact QZ (by have e : Jb l = 5 := (by rw [Qc9]; (first | (simp_all; done) | simp_all [Yb])); rw [Qab hb hs, QoC hl0 hsp (by rw [e]; decide), e])
  refine Qy ?_
  refine zc 52 ?_ ?_ <;> intro h34
  ·refine Xs ?_;refine zQ ?_;exact QZ (by have e : Jb l = 5 := (by rw [Qc9]; (first | (simp_all; done) | simp_all [Yb])); rw [Qab hb hs, QoC hl0 hsp (by rw [e]; decide), e])
  refine Xk ?_
  refine zq ?_ ?_ <;> intro h37
  ·refine QD ?_;refine zQ ?_;exact QZ (by have e : Jb l = 5 := (by rw [Qc9]; (first | (simp_all; done) | simp_all [Yb])); rw [Qab hb hs, QoC hl0 hsp (by rw [e]; decide), e])
  have hrg : Jb l = 0 := by rw [Qc9]; (first | (simp_all; done) | simp_all [Yb])
  refine Xk ?_
  refine zc 61 ?_ ?_ <;> intro h40
  rotate_left
  ·refine YI ?_;refine zQ ?_;exact QZ (by rw [Qab hb hs, Qpa hl0 hsp hrg]; unfold Jz; (first | (simp_all; done) | simp_all [Yb]))
  have h7 : l.k = 7 := by simpa using h40
  obtain ⟨a, r, hps⟩ := Qj0 hs h7
  have ha : l.ps[0]? = some a := by rw [hps]; rfl
  refine QH ?_;refine uP (XO h40) (Qf rfl rfl rfl 0 rfl _ (XK ha) rfl) ?_;refine JB ?_;refine uP (XO h40) (Qd (QdZ a) rfl rfl rfl) ?_;refine QC ?_
  refine zq ?_ ?_ <;> intro h45
  ·refine QD ?_;refine zQ ?_;exact QZ (by rw [Qab hb hs, Qpa hl0 hsp hrg]; unfold Jz; rw [hps]; (first | (simp_all; done) | simp_all [Yb]))
  refine QC ?_;refine zQ ?_;exact QZ (by rw [Qab hb hs, Qpa hl0 hsp hrg]; unfold Jz; (first | (simp_all; done) | simp_all [Yb]))
 refine zW ?_;refine JT (⟨[(1, i64 d), (2, i64 n), (3, .ptr 0 0), (7, i64 (Ky l.k))], [(0, .var 26 (Q2 l))], 1⟩) ?_ ?_
 ·refine Xk ?_
  refine zq ?_ ?_ <;> intro h48
  ·refine QH ?_;refine Qb ?_;exact Qa rfl (JZ ⟨(Y6 (by unfold Ky; simp_all)), rfl, trivial⟩) ⟨rfl, rfl, rfl, trivial⟩
  refine QO ?_;exact Qa rfl (JZ ⟨(Y6 (by unfold Ky; simp_all)), rfl, trivial⟩) ⟨rfl, rfl, rfl, trivial⟩
 refine Xg ?_
 refine zc 17 ?_ ?_ <;> intro h51
 ·refine X3 ?_;refine zQ ?_;exact QZ (Qgw (by first | (left; simp_all; done) | (right; simp_all; done))).symm
 refine Qy ?_
 refine zq ?_ ?_ <;> intro h52
 ·have hb : d > 6 ∨ n ≥ 64 := by first | (left; simp_all; done) | (right; simp_all; done)
  refine QD ?_;refine zQ ?_;exact QZ (Qgw (by first | (left; simp_all; done) | (right; simp_all; done))).symm
 have hb : ¬ (d > 6 ∨ n ≥ 64) := by first | (simp_all; done) | (simp_all; omega)
 refine QD ?_;refine zP (Qd (Qhu l) rfl rfl rfl) ?_;refine QD ?_
 refine zq ?_ ?_ <;> intro h54
 ·have hs := n1 h54
  refine QD ?_;refine zQ ?_;exact QZ (Qk9 hb hs).symm
 have hs : Xr l = 0 := by simpa using n0 h54
 refine Xo ?_
 refine zc 31 ?_ ?_ <;> intro h58
 ·refine Xn ?_;refine zQ ?_;exact QZ (by rw [Qab hb hs, Qsl (by rw [Qf6 (by simp_all)]; decide), Qf6 (by simp_all)])
 refine Xg ?_
 refine zq ?_ ?_ <;> intro h62
 ·refine QD ?_;refine zQ ?_;exact QZ (by rw [Qab hb hs, Qsl (by rw [Qf6 (by simp_all)]; decide), Qf6 (by simp_all)])
 have hlim : ((decide ((l.nm.length : Int) > Ky l.k)) || decide ((l.rs.length : Int) > 32)) = false := by simp_all
 have hl0 := Que hlim
 have hl1 : (l.nm.length : Int) ≤ Ky l.k ∧ (l.rs.length : Int) ≤ 32 := by simp at hlim; omega
 refine QD ?_;refine zP (Qd (QlD l) rfl rfl rfl) ?_;refine QD ?_
 refine zq ?_ ?_ <;> intro h64
 ·have hsp : Jy l = 3 := by
   have e := n1 h64
   rw [Qdl hs] at e
   unfold Jy at e ⊢
   split
   ·rename_i h; rw [if_pos h] at e; cases e
   rfl
  refine QD ?_;refine zQ ?_;exact QZ (by rw [Qab hb hs, Qwb hl0 (by rw [hsp]; decide), hsp])
 have hsp : Jy l = 0 := by
  have e := n0 h64
  rw [Qdl hs] at e
  simpa using e
 refine Xo ?_
 refine zc 47 ?_ ?_ <;> intro h69
 ·refine QdK ?_;refine zQ ?_;exact QZ (by have e : Jb l = 5 := (by rw [Qc9]; (first | (simp_all; done) | simp_all [Yb])); rw [Qab hb hs, QoC hl0 hsp (by rw [e]; decide), e])
 refine Qy ?_
 refine zc 52 ?_ ?_ <;> intro h72
 ·refine Xs ?_;refine zQ ?_;exact QZ (by have e : Jb l = 5 := (by rw [Qc9]; (first | (simp_all; done) | simp_all [Yb])); rw [Qab hb hs, QoC hl0 hsp (by rw [e]; decide), e])
 refine Xk ?_
 refine zq ?_ ?_ <;> intro h75
 ·refine QD ?_;refine zQ ?_;exact QZ (by have e : Jb l = 5 := (by rw [Qc9]; (first | (simp_all; done) | simp_all [Yb])); rw [Qab hb hs, QoC hl0 hsp (by rw [e]; decide), e])
 have hrg : Jb l = 0 := by rw [Qc9]; (first | (simp_all; done) | simp_all [Yb])
 refine Xk ?_
 refine zc 61 ?_ ?_ <;> intro h78
 rotate_left
 ·refine YI ?_;refine zQ ?_;exact QZ (by rw [Qab hb hs, Qpa hl0 hsp hrg]; unfold Jz; (first | (simp_all; done) | simp_all [Yb]))
 have h7 : l.k = 7 := by simpa using h78
 obtain ⟨a, r, hps⟩ := Qj0 hs h7
 have ha : l.ps[0]? = some a := by rw [hps]; rfl
 refine QH ?_;refine uP (XO h78) (Qf rfl rfl rfl 0 rfl _ (XK ha) rfl) ?_;refine JB ?_;refine uP (XO h78) (Qd (QdZ a) rfl rfl rfl) ?_;refine QC ?_
 refine zq ?_ ?_ <;> intro h83
 ·refine QD ?_;refine zQ ?_;exact QZ (by rw [Qab hb hs, Qpa hl0 hsp hrg]; unfold Jz; rw [hps]; (first | (simp_all; done) | simp_all [Yb]))
 refine QC ?_;refine zQ ?_;exact QZ (by rw [Qab hb hs, Qpa hl0 hsp hrg]; unfold Jz; (first | (simp_all; done) | simp_all [Yb]))
def Qlh (v : Int × Int) : AV := .tup [if v.1 = 0 then i64 v.2 else .bot, i64 v.1]
theorem QgI {v : Int × Int} {e : Int} (h : v.1 = e) (he : e ≠ 0) : AV.tup [.bot, i64 e] = Qlh v := by unfold Qlh; rw [h, if_neg he]
theorem QtF {v : Int × Int} {m : Int} (h : (0, m) = v) : AV.tup [i64 m, i64 0] = Qlh v := by unfold Qlh; rw [← h, if_pos rfl]
section
variable {f : Nat} {l : Qv} {n d : Int}
theorem Qor (hd : d ≤ 6) (h : W8 l d n ≠ 0) : (Xd (f + 1) l n).1 = W8 l d n := by
 unfold W8 at h ⊢
 by_cases h1 : n ≥ 64
 ·rw [QkG h1, if_pos (.inr h1)]
 rw [if_neg (by omega)] at h ⊢
 cases h2 : Xr l != 0 with
 | true =>
  rw [QeA (by omega) h2, if_pos (by simpa using h2)]
  show Xr l = 1
  have : Xr l ≠ 0 := by simpa using h2
  unfold Xr at this ⊢
  split
  ·rename_i hk; rw [if_pos hk] at this; unfold Yb at this ⊢; split
   ·rfl
   rename_i hb; rw [if_neg hb] at this; exact absurd rfl this
  rfl
 | false =>
  have h3 : Xr l = 0 := by simpa using h2
  rw [if_neg (by rw [h3]; decide)] at h ⊢
  rw [Qqp (by omega) h2 (by simpa using h)]
theorem Qp4 (hd : d ≤ 6) (h : W8 l d n = 0) : Xd (f + 1) l n = JM (Xd f) l.ps (n + 1) := by
 unfold W8 at h
 by_cases h1 : n ≥ 64
 ·rw [if_pos (.inr h1)] at h; cases h
 rw [if_neg (by omega)] at h
 by_cases h2 : Xr l = 0
 ·rw [if_neg (by rw [h2]; decide)] at h
  exact Qb7 (by omega) (by rw [h2]; rfl) (by rw [h]; rfl)
 rw [if_pos h2] at h; cases h
end
theorem QuL (l : Qv) (n d : Int) (hd : d = 7) : FC Tryz.prog 111 [.agg (Q2 l), i64 d, i64 n] (Qlh (Xd 0 l n)) := by
 have hE : W8 l d n = 6 := Qgw (.inl (by omega))
 refine Qh [6, 7] Tryz.func111 rfl rfl 48 Tryz.ntmps111 (Nat.le_of_ble_eq_true rfl) ?_
 intro E hN;refine Jx ?_;refine zP (Qd (Qni l d n) rfl rfl rfl) ?_;refine Qy ?_;refine zP (Ql (b := true) rfl rfl rfl (by rw [hE]; rfl)) ?_;refine X3 ?_;refine Qx (st' := ⟨[(7, i64 (W8 l d n))], [], 1⟩) (Qa rfl (XE trivial) trivial) ?_;refine zR ?_
 rw [hE]; exact QgI rfl (by decide)
theorem Qvw (f : Nat) (hf : f + 1 ≤ 6) (ih : ∀ (l : Qv) (n d : Int), d = 7 - (f : Int) → 0 ≤ n → FC Tryz.prog 111 [.agg (Q2 l), i64 d, i64 n] (Qlh (Xd f l n))) (l : Qv) (n d : Int) (hd : d = 7 - ((f + 1 : Nat) : Int)) (hn : 0 ≤ n) : FC Tryz.prog 111 [.agg (Q2 l), i64 d, i64 n] (Qlh (Xd (f + 1) l n)) := by
 refine Qh [6, 7] Tryz.func111 rfl rfl 48 Tryz.ntmps111 (Nat.le_of_ble_eq_true rfl) ?_
 intro E hN;refine Jx ?_;refine zP (Qd (Qni l d n) rfl rfl rfl) ?_;refine Xg ?_
 refine zq ?_ ?_ <;> intro h7
 ·have h2 : W8 l d n ≠ 0 := by simpa using h7
  refine Xg ?_;refine Qx (st' := ⟨[(7, i64 (W8 l d n))], [], 1⟩) (Qa rfl (XE trivial) trivial) ?_;refine zR ?_;exact QgI (Qor (by omega) h2) h2
 have h2 : W8 l d n = 0 := by simpa using h7
 have hn64 : n < 64 := by
  unfold W8 at h2
  by_cases h1 : n ≥ 64
  ·rw [if_pos (.inr h1)] at h2; cases h2
  omega
 have hvo := Qp4 (f := f) (l := l) (n := n) (d := d) (by omega) h2
 refine WV ?_;refine Qm (fun z : {q : Nat × Int // q.1 ≤ l.ps.length ∧ 0 ≤ q.2 ∧ JM (Xd f) (l.ps.drop q.1) q.2 = JM (Xd f) l.ps (n + 1)} => ⟨[(1, i64 d), (3, .ptr 0 0), (9, i64 z.1.2), (10, i64 (z.1.1 : Nat))], [(0, .var 26 (Q2 l))], 1⟩) (fun z => l.ps.length - z.1.1) (⟨(0, n + 1), Nat.zero_le _, by show 0 ≤ n + 1; omega, by simp⟩) ?_ ?_
 ·exact Qa rfl (YO trivial) ⟨rfl, rfl, rfl, trivial⟩
 rintro ⟨⟨k, m⟩, hk, hm, hg⟩;dsimp only at hk hm hg ⊢;refine X3 ?_
 refine zq ?_ ?_ <;> intro h16
 rotate_left
 ·have hge : (l.ps).length ≤ k := by simpa using h16
  refine Xk ?_;refine zQ ?_;exact QtF (by rw [hvo]; exact QmO hg hge)
 refine Jq 25 rfl (fun hlen => ?_)
 have hlt : k < (l.ps).length := by simpa using h16
 obtain ⟨x, hx⟩ := Qq hlt;refine Xo ?_;refine zP (Qf rfl rfl rfl k rfl _ (XK hx) rfl) ?_;refine QC ?_;refine zP (Qd (ih x m _ (by omega) hm) rfl rfl rfl) ?_;refine Jx ?_
 refine zq ?_ ?_ <;> intro h25
 ·have he : (Xd f x m).1 ≠ 0 := by simpa using h25
  refine Xg ?_;refine Qx (st' := ⟨[(7, i64 ((Xd f x m).1))], [], 1⟩) (Qa rfl (XE trivial) trivial) ?_;refine zR ?_;exact QgI (by rw [hvo, ← Qi1 hg hx (by simpa using he)]) he
 have he : (Xd f x m).1 = 0 := by simpa using h25
 rw [if_pos he];refine X3 ?_;refine Qb ?_;exact ⟨⟨(k + 1, (Xd f x m).2), hlt, QfF _ _ _ hm, Qun hg hx (by rw [he]; rfl)⟩, Qa rfl (JZ ⟨X5, rfl, trivial⟩) ⟨rfl, rfl, rfl, trivial⟩, by dsimp only; omega⟩
theorem Qla : ∀ (f : Nat) (l : Qv) (n d : Int), f ≤ 6 → d = 7 - (f : Int) → 0 ≤ n → FC Tryz.prog 111 [.agg (Q2 l), i64 d, i64 n] (Qlh (Xd f l n))
 | 0, l, n, d, _, hd, _ => QuL l n d (by simpa using hd)
 | f + 1, l, n, d, hf, hd, hn => Qvw f hf (fun l n d h1 h2 => Qla f l n d (by omega) h1 h2) l n d hd hn
theorem Qah (l : Qv) : FC Tryz.prog 64 [.agg (Q2 l)] (i64 (QB l)) := by
 refine Qh [2] Tryz.func64 rfl rfl 11 Tryz.ntmps64 (Nat.le_of_ble_eq_true rfl) ?_
 intro E hN;refine Xo ?_;refine zP (Qd (Qla 6 l 0 1 (by decide) rfl (by decide)) rfl rfl rfl) ?_;refine Xs ?_;refine zQ ?_
 rfl
end Go.Proofs.YtnkkokmmeplbgaaGreat
