/-
  Contracts: the reference's comparison of values, their size;
-/
import Derived.Test.YtnkkokmmeplbgaaGreatB11
import Derived.Test.YtnkkokmmeplbgaaGreatA4
namespace Go.Proofs.YtnkkokmmeplbgaaGreat
set_option maxRecDepth 100000
set_option maxHeartbeats 1000000
open Go.RowKit
def QaP (b : Bool) : Int := if b then -1 else 1
def Qhd (m n : Nat) : Int := if m = n then 0 else QaP (decide (m < n))
theorem QqH {x y : Int} (h : x ≠ y) : Lib.compareInt x y = QaP (decide (x < y)) := by
 unfold Lib.compareInt QaP
 rcases Int.lt_trichotomy x y with h1 | h1 | h1
 ·simp [h1]
 ·exact absurd h1 h
 have h2 : ¬ x < y := by omega
 simp [h1, h2]
theorem Qit (x : Int) : Lib.compareInt x x = 0 := by unfold Lib.compareInt; simp
theorem Qp1 {x y : Nm} (h : x ≠ y) : Lib.compareBytes x y = QaP (Op.bytesLess x y) := by
 rw [YH]
 unfold QaP
 cases h1 : Op.bytesLess x y <;> simp [h]
theorem QdN (b : Bool) : QaP b ≠ 0 := by unfold QaP; split <;> decide
theorem tk_1 {x y : Tk} (h : x.1 ≠ y.1) : Qav x y = QaP (decide (x.1 < y.1)) := by
 rw [Qav, Qf9, QqH h, if_neg (QdN _)]
theorem tk_2 {x y : Tk} (h1 : x.1 = y.1) (h : x.2 ≠ y.2) : Qav x y = QaP (decide (x.2 < y.2)) := by
 rw [Qav, Qf9, h1, Qit, if_pos rfl, QqH h]
theorem tk_0 {x y : Tk} (h1 : x.1 = y.1) (h : x.2 = y.2) : Qav x y = 0 := by
 rw [Qav, Qf9, h1, h, Qit, Qit]; rfl
theorem en_1 {x y : En} (h : x.2 ≠ y.2) : Jh x y = QaP (Op.bytesLess x.2 y.2) := by
 rw [Jh, Qf9, Qp1 h, if_neg (QdN _)]
theorem en_2 {x y : En} (h : x.2 = y.2) : Jh x y = Xt Qav x.1 y.1 := by
 rw [Jh, Qf9, h, J9.refl, if_pos rfl]
section
variable {α : Type} {c : α → α → Int} {a b : List α} {k : Nat}
theorem Qc1 (e : Xt c (a.drop k) (b.drop k) = Xt c a b) (hk : k ≤ a.length) (hk2 : k ≤ b.length) (h : a.length ≤ k ∨ b.length ≤ k) : Xt c a b = Qhd a.length b.length := by
 have one : ∀ (l : List α), l.length = k → l.drop k = [] := fun l h => List.drop_of_length_le (by omega)
 unfold Qhd
 rcases Nat.lt_trichotomy a.length b.length with h1 | h1 | h1
 ·have := one a (by omega)
  obtain ⟨y, hy⟩ := Qq (show k < b.length by omega);rw [← e, this, XC hy, if_neg (by omega)]
  simp [Xt, QaP, h1]
 ·have := one a (by omega)
  have := one b (by omega)
  rw [← e, this, one a (by omega), if_pos h1]; rfl
 have := one b (by omega)
 obtain ⟨y, hy⟩ := Qq (show k < a.length by omega);rw [← e, this, XC hy, if_neg (by omega)];have h2 : ¬ a.length < b.length := by omega
 simp [Xt, QaP, h2]
end
theorem Qvr {m n : Nat} (h : m = n) : Qhd m n = 0 := by unfold Qhd; rw [if_pos h]
theorem Qv0 {m n : Nat} (h : m ≠ n) : Qhd m n ≠ 0 := by unfold Qhd; rw [if_neg h]; exact QdN _
theorem cv_1 {x y : Qp} (h : x.N ≠ y.N) : JF x y = QaP (decide (x.N < y.N)) := by
 rw [KP, Qf9, QqH h, if_neg (QdN _), if_pos (QdN _)]
theorem QvS {x y : Qp} (h : x.N = y.N) (h2 : Xt Lib.compareBytes x.nm y.nm ≠ 0) : JF x y = Xt Lib.compareBytes x.nm y.nm := by
 rw [KP, Qf9, h, Qit, if_pos rfl, if_pos h2]
theorem QvV {x y : Qp} (h : x.N = y.N) (h2 : Xt Lib.compareBytes x.nm y.nm = 0) (h3 : Xt JF x.ps y.ps ≠ 0) : JF x y = Xt JF x.ps y.ps := by
 rw [KP, Qf9, h, Qit, if_pos rfl, if_neg (by rw [h2]; decide), if_pos h3]
theorem Qwd {x y : Qp} (h : x.N = y.N) (h2 : Xt Lib.compareBytes x.nm y.nm = 0) (h3 : Xt JF x.ps y.ps = 0) : JF x y = Xt Jh x.es y.es := by
 rw [KP, Qf9, h, Qit, if_pos rfl, if_neg (by rw [h2]; decide), if_neg (by rw [h3]; decide)]
def Qbm (es : List En) : Nat := (es.map (fun e => 1 + e.1.length)).sum
mutual
def K4 : Qp → Nat
 | .mk _ nm ps es => 1 + nm.length + Qbm es + Yu ps
def Yu : List Qp → Nat
 | [] => 0
 | a :: r => K4 a + Yu r
end
theorem Qft (x : Qp) : K4 x = 1 + x.nm.length + Qbm x.es + Yu x.ps := by
 cases x with
 | mk N nm ps es => rw [K4]; rfl
theorem Qby : ∀ (a b : List Qp), Yu (a ++ b) = Yu a + Yu b
 | [], b => by simp [Yu]
 | x :: r, b => by rw [List.cons_append, Yu, Yu, Qby r b]; omega
theorem QfZ (a b : List En) : Qbm (a ++ b) = Qbm a + Qbm b := by simp [Qbm]
theorem Qh3 {es : List En} {k : Nat} {e : En} (h : es[k]? = some e) : Qbm (es.take (k + 1)) = Qbm (es.take k) + (1 + e.1.length) := by
 obtain ⟨hk, rfl⟩ := List.getElem?_eq_some_iff.1 h;rw [List.take_succ_eq_append_getElem hk, QfZ]
 simp [Qbm]
theorem Qk0 {ps : List Qp} {k : Nat} {e : Qp} (h : ps[k]? = some e) : Yu (ps.take (k + 1)) = Yu (ps.take k) + K4 e := by
 obtain ⟨hk, rfl⟩ := List.getElem?_eq_some_iff.1 h;rw [List.take_succ_eq_append_getElem hk, Qby]
 simp [Yu]
theorem Qn0 (es : List En) (k : Nat) : Qbm (es.take k) ≤ Qbm es := by
 have h := QfZ (es.take k) (es.drop k)
 rw [List.take_append_drop] at h
 omega
theorem Qpv (ps : List Qp) (k : Nat) : Yu (ps.take k) ≤ Yu ps := by
 have h := Qby (ps.take k) (ps.drop k)
 rw [List.take_append_drop] at h
 omega
def Qb1 (x : Qp) (m : Int) : Int := if (K4 x : Int) ≤ m then m - K4 x else -1
theorem QbL {x : Qp} {m : Int} (h : m < K4 x) : Qb1 x m = -1 := by unfold Qb1; rw [if_neg (by omega)]
theorem Qoi {x : Qp} {m : Int} (h : (K4 x : Int) ≤ m) : Qb1 x m = m - K4 x := by unfold Qb1; rw [if_pos h]
def Qcq (x : Qp) (m : Int) : Bool := decide ((K4 x : Int) ≤ m)
theorem Qdw (b : Bool) : FC Tryz.prog 113 [bl b] (i64 (QaP b)) := by
 refine Qh [2] Tryz.func113 rfl rfl 4 Tryz.ntmps113 (Nat.le_of_ble_eq_true rfl) ?_
 intro E hN;refine X3 ?_
 refine zq ?_ ?_ <;> intro h1
 ·refine QD ?_;refine zQ ?_;exact QZ (by simp_all [QaP])
 refine QC ?_;refine zQ ?_;exact QZ (by simp_all [QaP])
theorem Qbf (m n : Nat) : FC Tryz.prog 114 [i64 (m : Nat), i64 (n : Nat)] (i64 (Qhd m n)) := by
 refine Qh [4] Tryz.func114 rfl rfl 12 Tryz.ntmps114 (Nat.le_of_ble_eq_true rfl) ?_
 intro E hN;refine Xn ?_
 refine zq ?_ ?_ <;> intro h3
 ·have h1 : m = n := by
   have : (m : Int) = n := by simpa using h3
   omega
  refine QD ?_;refine zQ ?_;exact QZ (Qvr h1).symm
 have h1 : m ≠ n := by
  have : ¬ (m : Int) = n := by simpa using h3
  omega
 refine Xk ?_;refine zP (Qd (Qdw _) rfl rfl rfl) ?_;refine zS ?_;refine zQ ?_;exact QZ (by rw [Qhd, if_neg h1]; simp)
theorem Qo6 (a b : List Tk) : FC Tryz.prog 146 [tks a, tks b] (i64 (Xt Qav a b)) := by
 refine Qh [4] Tryz.func146 rfl rfl 69 Tryz.ntmps146 (Nat.le_of_ble_eq_true rfl) ?_
 intro E hN;refine Jq 0 rfl (fun hl0 => ?_);refine Xs ?_;refine Qm (fun x : {k : Nat // k ≤ (a).length ∧ k ≤ b.length ∧ Xt Qav (a.drop k) (b.drop k) = Xt Qav a b} => ⟨[(0, tks a), (1, tks b), (5, i64 (x.1 : Nat))], [], 0⟩) (fun x => (a).length - x.1) (⟨0, Nat.zero_le _, by simp⟩) ?_ ?_
 ·exact Qa rfl (JZ trivial) trivial
 rintro ⟨k, hk, hg⟩;dsimp only;refine Xo ?_
 refine zc 10 ?_ ?_ <;> intro h7
 rotate_left
 ·have hge : a.length ≤ k ∨ b.length ≤ k := .inl (by simpa using h7)
  refine YI ?_;refine zP (Qd (Qbf _ _) rfl rfl rfl) ?_;refine zS ?_;refine zQ ?_;exact QZ (by rw [Qc1 hg.2 hk hg.1 hge, List.length_map, List.length_map])
 have hla : k < a.length := by simpa using h7
 refine Xk ?_
 refine zq ?_ ?_ <;> intro h9
 rotate_left
 ·have hge : a.length ≤ k ∨ b.length ≤ k := .inr (by simpa using h9)
  refine Xg ?_;refine zP (Qd (Qbf _ _) rfl rfl rfl) ?_;refine zS ?_;refine zQ ?_;exact QZ (by rw [Qc1 hg.2 hk hg.1 hge, List.length_map, List.length_map])
 have hlb : k < b.length := by simpa using h9
 obtain ⟨x, hx⟩ := Qq hla;obtain ⟨y, hy⟩ := Qq hlb;refine Qy ?_;refine zD 10 ?_;refine QH ?_;refine zp (Qf rfl rfl rfl k rfl _ (Qi hx) rfl) ?_;refine QC ?_;refine zp (Qf rfl rfl rfl k rfl _ (Qi hy) rfl) ?_;refine QC ?_
 refine zq ?_ ?_ <;> intro h16
 ·have h4 : x.1 ≠ y.1 := by simpa using h16
  refine JB ?_;refine zD 12 ?_;refine QH ?_;refine zp (Qf rfl rfl rfl k rfl _ (Qi hx) rfl) ?_;refine QC ?_;refine zp (Qf rfl rfl rfl k rfl _ (Qi hy) rfl) ?_;refine QD ?_;refine zp (Qd (Qdw _) rfl rfl rfl) ?_;refine zS ?_;refine zQ ?_;exact QZ (by rw [Kd hg.2 hx hy, tk_1 h4, if_neg (QdN _)])
 have h4 : x.1 = y.1 := by simpa using h16
 refine QH ?_;refine zD 10 ?_;refine QH ?_;refine zp (Qf rfl rfl rfl k rfl _ (Qi hx) rfl) ?_;refine QC ?_;refine zp (Qf rfl rfl rfl k rfl _ (Qi hy) rfl) ?_;refine QC ?_
 refine zq ?_ ?_ <;> intro h31
 rotate_left
 ·have h6 : x.2 = y.2 := by simpa using h31
  refine Qy ?_;refine Qb ?_;exact ⟨⟨k + 1, hla, hlb, by rw [Kd hg.2 hx hy, if_pos (tk_0 h4 h6)]⟩, Qa rfl (Yf ⟨X5, rfl, trivial⟩) trivial, by dsimp only; omega⟩
 have h6 : x.2 ≠ y.2 := by simpa using h31
 refine JB ?_;refine zD 12 ?_;refine QH ?_;refine zp (Qf rfl rfl rfl k rfl _ (Qi hx) rfl) ?_;refine QC ?_;refine zp (Qf rfl rfl rfl k rfl _ (Qi hy) rfl) ?_;refine QD ?_;refine zp (Qd (Qdw _) rfl rfl rfl) ?_;refine zS ?_;refine zQ ?_;exact QZ (by rw [Kd hg.2 hx hy, tk_2 h4 h6, if_neg (QdN _)])
theorem QdG (x y : En) : FC Tryz.prog 115 [.agg (K3 x), .agg (K3 y)] (i64 (Jh x y)) := by
 refine Qh [4] Tryz.func115 rfl rfl 21 Tryz.ntmps115 (Nat.le_of_ble_eq_true rfl) ?_
 intro E hN;refine QdK ?_
 refine zq ?_ ?_ <;> intro h9
 ·have h1 : x.2 ≠ y.2 := by simpa using h9
  refine Xg ?_;refine zP (Qd (Qdw _) rfl rfl rfl) ?_;refine zS ?_;refine zQ ?_;exact QZ (en_1 h1).symm
 have h1 : x.2 = y.2 := by simpa using h9
 refine Xg ?_;refine zP (Qd (Qo6 _ _) rfl rfl rfl) ?_;refine zS ?_;refine zQ ?_;exact QZ (en_2 h1).symm
theorem Qve (x0 y0 : Qp) (ih : ∀ u ∈ x0.ps, ∀ v, FC Tryz.prog 66 [.agg (QF u), .agg (QF v)] (i64 (JF u v))) : FC Tryz.prog 66 [.agg (QF x0), .agg (QF y0)] (i64 (JF x0 y0)) := by
 refine Qh [4] Tryz.func66 rfl rfl 149 Tryz.ntmps66 (Nat.le_of_ble_eq_true rfl) ?_
 intro E hN;refine QdK ?_
 refine zq ?_ ?_ <;> intro h9
 ·have hN' : x0.N ≠ y0.N := by simpa using h9
  refine Xg ?_;refine zP (Qd (Qdw _) rfl rfl rfl) ?_;refine zS ?_;refine zQ ?_;exact QZ (cv_1 hN').symm
 have hNe : x0.N = y0.N := by simpa using h9
 refine zW ?_;refine QcV (⟨[(2, .ptr 0 0), (3, .ptr 1 0)], [(0, .var 30 (QF x0)), (1, .var 30 (QF y0))], 2⟩) (Xt Lib.compareBytes x0.nm y0.nm = Qhd x0.nm.length y0.nm.length) ?_ ?_
 ·refine Qy ?_;refine Qm (fun x : {k : Nat // k ≤ (x0.nm).length ∧ k ≤ y0.nm.length ∧ Xt Lib.compareBytes (x0.nm.drop k) (y0.nm.drop k) = Xt Lib.compareBytes x0.nm y0.nm} => ⟨[(2, .ptr 0 0), (3, .ptr 1 0), (5, i64 (x.1 : Nat))], [(0, .var 30 (QF x0)), (1, .var 30 (QF y0))], 2⟩) (fun x => (x0.nm).length - x.1) (⟨0, Nat.zero_le _, by simp⟩) ?_ ?_
  ·exact Qa rfl (JZ trivial) ⟨rfl, rfl, rfl, rfl, rfl, rfl, trivial⟩
  rintro ⟨k, hk, hg⟩;dsimp only;refine X3 ?_
  refine zc 26 ?_ ?_ <;> intro h22
  rotate_left
  ·have hge : x0.nm.length ≤ k ∨ y0.nm.length ≤ k := .inl (by simpa using h22)
   refine Xo ?_;refine WR ?_;exact ⟨(by exact Qc1 hg.2 hk hg.1 hge), Qa rfl (Yf trivial) ⟨rfl, rfl, rfl, rfl, rfl, rfl, trivial⟩⟩
  have hla : k < x0.nm.length := by simpa using h22
  refine Xg ?_
  refine zq ?_ ?_ <;> intro h26
  rotate_left
  ·have hge : x0.nm.length ≤ k ∨ y0.nm.length ≤ k := .inr (by simpa using h26)
   refine WR ?_;exact ⟨(by exact Qc1 hg.2 hk hg.1 hge), Qa rfl (Yf trivial) ⟨rfl, rfl, rfl, rfl, rfl, rfl, trivial⟩⟩
  have hlb : k < y0.nm.length := by simpa using h26
  obtain ⟨x, hx⟩ := Qq hla;obtain ⟨y, hy⟩ := Qq hlb;refine QC ?_;refine zD 10 ?_;refine QD ?_;refine zp (Qf rfl rfl rfl k rfl _ (Qi hx) rfl) ?_;refine QC ?_;refine zp (Qf rfl rfl rfl k rfl _ (Qi hy) rfl) ?_;refine QD ?_
  refine zq ?_ ?_ <;> intro h35
  ·have h0 : x ≠ y := by simpa using h35
   refine JB ?_;refine zD 12 ?_;refine QD ?_;refine zp (Qf rfl rfl rfl k rfl _ (Qi hx) rfl) ?_;refine QC ?_;refine zp (Qf rfl rfl rfl k rfl _ (Qi hy) rfl) ?_;refine QH ?_;refine zp (Qd (Qdw _) rfl rfl rfl) ?_;refine zS ?_;refine zQ ?_;exact QZ (by rw [QvS hNe (by rw [Kd hg.2 hx hy, Qp1 h0, if_neg (QdN _)]; exact QdN _), Kd hg.2 hx hy, Qp1 h0, if_neg (QdN _)])
  have h0 : Lib.compareBytes x y = 0 := by rw [show x = y by simpa using h35]; exact J9.refl y
  refine JB ?_;refine Jq 23 rfl (fun hl23 => ?_);refine QC ?_;refine Qb ?_;exact ⟨⟨k + 1, hla, hlb, by rw [Kd hg.2 hx hy, if_pos h0]⟩, Qa rfl (Yf ⟨X5, rfl, trivial⟩) ⟨rfl, rfl, rfl, rfl, rfl, rfl, trivial⟩, by dsimp only; omega⟩
 intro hFnm;refine Xn ?_
 refine zq ?_ ?_ <;> intro h55
 ·have h8 : x0.nm.length ≠ y0.nm.length := by
   have : ¬ (x0.nm.length : Int) = y0.nm.length := by simpa using h55
   omega
  refine Xo ?_;refine zP (Qd (Qbf _ _) rfl rfl rfl) ?_;refine zS ?_;refine zQ ?_;exact QZ (by rw [QvS hNe (by rw [hFnm]; exact Qv0 h8), hFnm, List.length_map, List.length_map])
 have h8 : x0.nm.length = y0.nm.length := by
  have : (x0.nm.length : Int) = y0.nm.length := by simpa using h55
  omega
 have h8z := hFnm.trans (Qvr h8)
 refine zW ?_;refine QcV (⟨[(2, .ptr 0 0), (3, .ptr 1 0)], [(0, .var 30 (QF x0)), (1, .var 30 (QF y0))], 2⟩) (Xt JF x0.ps y0.ps = Qhd x0.ps.length y0.ps.length) ?_ ?_
 ·refine Qy ?_;refine Qm (fun x : {k : Nat // k ≤ (x0.ps).length ∧ k ≤ y0.ps.length ∧ Xt JF (x0.ps.drop k) (y0.ps.drop k) = Xt JF x0.ps y0.ps} => ⟨[(2, .ptr 0 0), (3, .ptr 1 0), (6, i64 (x.1 : Nat))], [(0, .var 30 (QF x0)), (1, .var 30 (QF y0))], 2⟩) (fun x => (x0.ps).length - x.1) (⟨0, Nat.zero_le _, by simp⟩) ?_ ?_
  ·exact Qa rfl (JZ trivial) ⟨rfl, rfl, rfl, rfl, rfl, rfl, trivial⟩
  rintro ⟨k, hk, hg⟩;dsimp only;refine X3 ?_
  refine zc 77 ?_ ?_ <;> intro h69
  rotate_left
  ·have hge : x0.ps.length ≤ k ∨ y0.ps.length ≤ k := .inl (by simpa using h69)
   refine Xo ?_;refine WR ?_;exact ⟨(by exact Qc1 hg.2 hk hg.1 hge), Qa rfl (Yf trivial) ⟨rfl, rfl, rfl, rfl, rfl, rfl, trivial⟩⟩
  have hla : k < x0.ps.length := by simpa using h69
  refine Xg ?_
  refine zq ?_ ?_ <;> intro h73
  rotate_left
  ·have hge : x0.ps.length ≤ k ∨ y0.ps.length ≤ k := .inr (by simpa using h73)
   refine WR ?_;exact ⟨(by exact Qc1 hg.2 hk hg.1 hge), Qa rfl (Yf trivial) ⟨rfl, rfl, rfl, rfl, rfl, rfl, trivial⟩⟩
  have hlb : k < y0.ps.length := by simpa using h73
  obtain ⟨x, hx⟩ := Qq hla;obtain ⟨y, hy⟩ := Qq hlb;refine QC ?_;refine zD 11 ?_;refine QD ?_;refine zp (Qf rfl rfl rfl k rfl _ (QR hx) rfl) ?_;refine QC ?_;refine zp (Qf rfl rfl rfl k rfl _ (QR hy) rfl) ?_;refine zl ?_;refine zp (Qd (ih x (List.mem_of_getElem? hx) y) rfl rfl rfl) ?_;refine Xg ?_
  refine zq ?_ ?_ <;> intro h83
  ·have h0 : JF x y ≠ 0 := by simpa using h83
   refine QC ?_;refine zQ ?_;exact QZ (by rw [QvV hNe h8z (by rw [Kd hg.2 hx hy, if_neg h0]; exact h0), Kd hg.2 hx hy, if_neg h0])
  have h0 : JF x y = 0 := by simpa using h83
  refine JB ?_;refine Jq 74 rfl (fun hl74 => ?_);refine QC ?_;refine Qb ?_;exact ⟨⟨k + 1, hla, hlb, by rw [Kd hg.2 hx hy, if_pos h0]⟩, Qa rfl (Yf ⟨X5, rfl, trivial⟩) ⟨rfl, rfl, rfl, rfl, rfl, rfl, trivial⟩, by dsimp only; omega⟩
 intro hFps;refine Xn ?_
 refine zq ?_ ?_ <;> intro h93
 ·have h16 : x0.ps.length ≠ y0.ps.length := by
   have : ¬ (x0.ps.length : Int) = y0.ps.length := by simpa using h93
   omega
  refine Xo ?_;refine zP (Qd (Qbf _ _) rfl rfl rfl) ?_;refine zS ?_;refine zQ ?_;exact QZ (by rw [QvV hNe h8z (by rw [hFps]; exact Qv0 h16), hFps, List.length_map, List.length_map])
 have h16 : x0.ps.length = y0.ps.length := by
  have : (x0.ps.length : Int) = y0.ps.length := by simpa using h93
  omega
 have h16z := hFps.trans (Qvr h16)
 refine zW ?_;refine QcV (⟨[(2, .ptr 0 0), (3, .ptr 1 0)], [(0, .var 30 (QF x0)), (1, .var 30 (QF y0))], 2⟩) (Xt Jh x0.es y0.es = Qhd x0.es.length y0.es.length) ?_ ?_
 ·refine Qy ?_;refine Qm (fun x : {k : Nat // k ≤ (x0.es).length ∧ k ≤ y0.es.length ∧ Xt Jh (x0.es.drop k) (y0.es.drop k) = Xt Jh x0.es y0.es} => ⟨[(2, .ptr 0 0), (3, .ptr 1 0), (8, i64 (x.1 : Nat))], [(0, .var 30 (QF x0)), (1, .var 30 (QF y0))], 2⟩) (fun x => (x0.es).length - x.1) (⟨0, Nat.zero_le _, by simp⟩) ?_ ?_
  ·exact Qa rfl (JZ trivial) ⟨rfl, rfl, rfl, rfl, rfl, rfl, trivial⟩
  rintro ⟨k, hk, hg⟩;dsimp only;refine X3 ?_
  refine zc 119 ?_ ?_ <;> intro h107
  rotate_left
  ·have hge : x0.es.length ≤ k ∨ y0.es.length ≤ k := .inl (by simpa using h107)
   refine Xo ?_;refine WR ?_;exact ⟨(by exact Qc1 hg.2 hk hg.1 hge), Qa rfl (Yf trivial) ⟨rfl, rfl, rfl, rfl, rfl, rfl, trivial⟩⟩
  have hla : k < x0.es.length := by simpa using h107
  refine Xg ?_
  refine zq ?_ ?_ <;> intro h111
  rotate_left
  ·have hge : x0.es.length ≤ k ∨ y0.es.length ≤ k := .inr (by simpa using h111)
   refine WR ?_;exact ⟨(by exact Qc1 hg.2 hk hg.1 hge), Qa rfl (Yf trivial) ⟨rfl, rfl, rfl, rfl, rfl, rfl, trivial⟩⟩
  have hlb : k < y0.es.length := by simpa using h111
  obtain ⟨x, hx⟩ := Qq hla;obtain ⟨y, hy⟩ := Qq hlb;refine QC ?_;refine zD 11 ?_;refine QD ?_;refine zp (Qf rfl rfl rfl k rfl _ (Qi hx) rfl) ?_;refine QC ?_;refine zp (Qf rfl rfl rfl k rfl _ (Qi hy) rfl) ?_;refine zl ?_;refine zp (Qd (QdG x y) rfl rfl rfl) ?_;refine Xg ?_
  refine zq ?_ ?_ <;> intro h121
  ·have h0 : Jh x y ≠ 0 := by simpa using h121
   refine QC ?_;refine zQ ?_;exact QZ (by rw [Qwd hNe h8z h16z, Kd hg.2 hx hy, if_neg h0])
  have h0 : Jh x y = 0 := by simpa using h121
  refine JB ?_;refine Jq 116 rfl (fun hl116 => ?_);refine QC ?_;refine Qb ?_;exact ⟨⟨k + 1, hla, hlb, by rw [Kd hg.2 hx hy, if_pos h0]⟩, Qa rfl (Yf ⟨X5, rfl, trivial⟩) ⟨rfl, rfl, rfl, rfl, rfl, rfl, trivial⟩, by dsimp only; omega⟩
 intro hFes;refine Xo ?_;refine zP (Qd (Qbf _ _) rfl rfl rfl) ?_;refine zS ?_;refine zQ ?_;exact QZ (by rw [Qwd hNe h8z h16z, hFes, List.length_map, List.length_map])
theorem QnS (x y : Qp) : FC Tryz.prog 66 [.agg (QF x), .agg (QF y)] (i64 (JF x y)) := Qve x y (fun u hu v => QnS u v)
termination_by x
decreasing_by exact Qp.sizeOf_ps ‹_›
theorem Jr (x y : Qp) : FC Tryz.prog 21 [.agg (QF x), .agg (QF y)] (bl (WH x y)) := by
 refine Qh [4] Tryz.func21 rfl rfl 9 Tryz.ntmps21 (Nat.le_of_ble_eq_true rfl) ?_
 intro E hN;refine Xs ?_;refine zP (Qd (QnS x y) rfl rfl rfl) ?_;refine QH ?_;refine zQ ?_
 rfl
theorem Qs6 {x : Qp} {m : Int} (h : Qb1 x m < 0) : m < K4 x := by unfold Qb1 at h; split at h <;> omega
theorem Qsw {x : Qp} {m : Int} (h : ¬ Qb1 x m < 0) : (K4 x : Int) ≤ m ∧ Qb1 x m = m - K4 x := by unfold Qb1 at h ⊢; split at h <;> simp_all
theorem Qvu (x0 : Qp) (ih : ∀ u ∈ x0.ps, ∀ m, 0 ≤ m → m ≤ 1000000 → FC Tryz.prog 58 [.agg (QF u), i64 m] (i64 (Qb1 u m))) (m : Int) (h0 : 0 ≤ m) (h1 : m ≤ 1000000) : FC Tryz.prog 58 [.agg (QF x0), i64 m] (i64 (Qb1 x0 m)) := by
 have hnd := Qft x0
 refine Qh [4] Tryz.func58 rfl rfl 71 Tryz.ntmps58 (Nat.le_of_ble_eq_true rfl) ?_
 intro E hN;refine Xn ?_
 refine zc 9 ?_ ?_ <;> intro h4
 ·have h1a := of_decide_eq_true h4
  try rw [List.length_map] at h1a
  refine Jx ?_;refine zQ ?_;exact QZ (QbL (by omega)).symm
 have h1a := of_decide_eq_false h4
 try rw [List.length_map] at h1a
 refine QC ?_;refine uP (X0 h4) (Kb rfl rfl rfl (by (try simp only [List.length_map]); omega)) ?_;refine QD ?_
 refine zq ?_ ?_ <;> intro h9
 ·have h1b := of_decide_eq_true h9
  try rw [List.length_map] at h1b
  refine QD ?_;refine zQ ?_;exact QZ (QbL (by omega)).symm
 have h1b := of_decide_eq_false h9
 try rw [List.length_map] at h1b
 refine Xg ?_;refine zP (Kr rfl rfl rfl (by (try simp only [List.length_map]); omega)) ?_;refine zP (Kb rfl rfl rfl (by (try simp only [List.length_map]); omega)) ?_;refine Xo ?_;refine Qm (fun x : {k : Nat // k ≤ (x0.es).length ∧ (1 + (x0.nm.length : Int) + (Qbm (x0.es.take k) : Int)) ≤ m} => ⟨[(2, .ptr 0 0), (1, i64 (m - (1 + (x0.nm.length : Int)) - (Qbm (x0.es.take x.1) : Int))), (5, i64 (x.1 : Nat))], [(0, .var 30 (QF x0))], 1⟩) (fun x => (x0.es).length - x.1) (⟨0, Nat.zero_le _, by simp [Qbm]; omega⟩) ?_ ?_
 ·exact Qa rfl (XE ⟨(Y6 (by simp [Qbm])), rfl, (XE trivial)⟩) ⟨rfl, rfl, rfl, trivial⟩
 rintro ⟨k, hk, hg⟩;dsimp only;refine X3 ?_
 refine zq ?_ ?_ <;> intro h21
 ·have hlt : k < (x0.es).length := by simpa using h21
  obtain ⟨x, hx⟩ := Qq hlt
  have e1 := Qh3 hx
  have e2 := Qn0 x0.es (k + 1)
  refine X3 ?_
  refine zc 32 ?_ ?_ <;> intro h22
  ·have h7a := of_decide_eq_true h22
   try rw [List.length_map] at h7a
   refine QaL ?_;refine zQ ?_;exact QZ (QbL (by omega)).symm
  have h7a := of_decide_eq_false h22
  try rw [List.length_map] at h7a
  refine QD ?_;refine uP (X0 h22) (Qf rfl rfl rfl k rfl _ (Qi hx) rfl) ?_;refine QC ?_;refine uP (X0 h22) (Kb rfl rfl rfl (by (try simp only [List.length_map]); omega)) ?_;refine QD ?_
  refine zq ?_ ?_ <;> intro h30
  ·have h7b := of_decide_eq_true h30
   try rw [List.length_map] at h7b
   refine QD ?_;refine zQ ?_;exact QZ (QbL (by omega)).symm
  have h7b := of_decide_eq_false h30
  try rw [List.length_map] at h7b
  refine Xk ?_;refine zP (Qf rfl rfl rfl k rfl _ (Qi hx) rfl) ?_;refine QD ?_;refine zP (Kr rfl rfl rfl (by (try simp only [List.length_map]); omega)) ?_;refine zP (Kb rfl rfl rfl (by (try simp only [List.length_map]); omega)) ?_;refine QH ?_;refine Jq 25 rfl (fun hl25 => ?_);refine QH ?_;refine zP (Kr rfl rfl rfl (by (try simp only [List.length_map]); omega)) ?_;refine zS ?_;refine Qb ?_;exact ⟨⟨k + 1, hlt, by omega⟩, Qa rfl (XE ⟨(Y6 (by rw [e1, List.length_map]; omega)), rfl, X5, rfl, trivial⟩) ⟨rfl, rfl, rfl, trivial⟩, by dsimp only; omega⟩
 have hge : (x0.es).length ≤ k := by simpa using h21
 rw [List.take_of_length_le hge] at hg ⊢
 refine Xg ?_;refine Qm (fun x : {k : Nat // k ≤ (x0.ps).length ∧ (1 + (x0.nm.length : Int) + (Qbm x0.es : Int) + (Yu (x0.ps.take k) : Int)) ≤ m} => ⟨[(2, .ptr 0 0), (1, i64 (m - (1 + (x0.nm.length : Int)) - (Qbm x0.es : Int) - (Yu (x0.ps.take x.1) : Int))), (6, i64 (x.1 : Nat))], [(0, .var 30 (QF x0))], 1⟩) (fun x => (x0.ps).length - x.1) (⟨0, Nat.zero_le _, by simp [Yu]; omega⟩) ?_ ?_
 ·exact Qa rfl (XE ⟨(Y6 (by simp [Yu])), rfl, (XE trivial)⟩) ⟨rfl, rfl, rfl, trivial⟩
 rintro ⟨k, hk, hg⟩;dsimp only;refine X3 ?_
 refine zq ?_ ?_ <;> intro h46
 rotate_left
 ·have hge : (x0.ps).length ≤ k := by simpa using h46
  rw [List.take_of_length_le hge] at hg ⊢
  refine Qy ?_;refine zQ ?_;exact QZ (by rw [Qoi (by omega)]; omega)
 have hlt : k < (x0.ps).length := by simpa using h46
 obtain ⟨x, hx⟩ := Qq hlt
 have e1 := Qk0 hx
 have e2 := Qpv x0.ps (k + 1)
 refine Xo ?_;refine zP (Qf rfl rfl rfl k rfl _ (QR hx) rfl) ?_;refine QH ?_;refine zP (Qd (ih x (List.mem_of_getElem? hx) _ (by omega) (by omega)) rfl rfl rfl) ?_;refine Xg ?_
 refine zq ?_ ?_ <;> intro h52
 ·have h14 := Qs6 (of_decide_eq_true h52)
  refine QD ?_;refine zQ ?_;exact QZ (QbL (by omega)).symm
 have hrv := Qsw (of_decide_eq_false h52)
 refine JB ?_;refine Jq 56 rfl (fun hl56 => ?_);refine QH ?_;refine zP (Kr rfl rfl rfl (by (try simp only [List.length_map]); omega)) ?_;refine zS ?_;refine Qb ?_;exact ⟨⟨k + 1, hlt, by have := hrv.1; omega⟩, Qa rfl (XE ⟨(Y6 (hrv.2.trans (by dsimp only; rw [e1]; omega))), rfl, X5, rfl, trivial⟩) ⟨rfl, rfl, rfl, trivial⟩, by dsimp only; omega⟩
theorem Qoc (x : Qp) (m : Int) (h0 : 0 ≤ m) (h1 : m ≤ 1000000) : FC Tryz.prog 58 [.agg (QF x), i64 m] (i64 (Qb1 x m)) := Qvu x (fun u hu m h0 h1 => Qoc u m h0 h1) m h0 h1
termination_by x
decreasing_by exact Qp.sizeOf_ps ‹_›
theorem Qh7 (x : Qp) (m : Int) (h0 : 0 ≤ m) (h1 : m ≤ 1000000) : FC Tryz.prog 15 [.agg (QF x), i64 m] (bl (Qcq x m)) := by
 refine Qh [4] Tryz.func15 rfl rfl 9 Tryz.ntmps15 (Nat.le_of_ble_eq_true rfl) ?_
 intro E hN;refine X3 ?_;refine zP (Qd (Qoc x m h0 h1) rfl rfl rfl) ?_;refine QH ?_;refine zQ ?_;exact Qo (by unfold Qcq Qb1; split <;> simp <;> omega)
end Go.Proofs.YtnkkokmmeplbgaaGreat
