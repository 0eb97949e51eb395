/-
  Contracts: the reference's comparison of values, their size;
-/
import Derived.Test.YtnkkokmmeplbgaaGreatB11
import Derived.Test.YtnkkokmmeplbgaaGreatA4
namespace Go.Proofs.YtnkkokmmeplbgaaGreat
set_option maxRecDepth 100000
set_option maxHeartbeats 1000000
open Go.RowKit
def Ki (b : Bool) : Int := if b then -1 else 1
def Qdh (m n : Nat) : Int := if m = n then 0 else Ki (decide (m < n))
theorem Qkn {x y : Int} (h : x ≠ y) : Lib.compareInt x y = Ki (decide (x < y)) := by
 unfold Lib.compareInt Ki
 rcases Int.lt_trichotomy x y with h1 | h1 | h1
 ·simp [h1]
 ·exact absurd h1 h
 have h2 : ¬ x < y := by omega
 simp [h1, h2]
theorem Qem (x : Int) : Lib.compareInt x x = 0 := by unfold Lib.compareInt; simp
theorem QjL {x y : Nm} (h : x ≠ y) : Lib.compareBytes x y = Ki (Op.bytesLess x y) := by
 rw [Jr]
 unfold Ki
 cases h1 : Op.bytesLess x y <;> simp [h]
theorem QaH (b : Bool) : Ki b ≠ 0 := by unfold Ki; split <;> decide
theorem tk_1 {x y : Tk} (h : x.1 ≠ y.1) : Y4 x y = Ki (decide (x.1 < y.1)) := by
 rw [Y4, Qcv, Qkn h, if_neg (QaH _)]
theorem tk_2 {x y : Tk} (h1 : x.1 = y.1) (h : x.2 ≠ y.2) : Y4 x y = Ki (decide (x.2 < y.2)) := by
 rw [Y4, Qcv, h1, Qem, if_pos rfl, Qkn h]
theorem tk_0 {x y : Tk} (h1 : x.1 = y.1) (h : x.2 = y.2) : Y4 x y = 0 := by
 rw [Y4, Qcv, h1, h, Qem, Qem]; rfl
theorem en_1 {x y : En} (h : x.2 ≠ y.2) : XK x y = Ki (Op.bytesLess x.2 y.2) := by
 rw [XK, Qcv, QjL h, if_neg (QaH _)]
theorem en_2 {x y : En} (h : x.2 = y.2) : XK x y = QV Y4 x.1 y.1 := by
 rw [XK, Qcv, h, XU.refl, if_pos rfl]
section
variable {α : Type} {c : α → α → Int} {a b : List α} {k : Nat}
theorem W5 (e : QV c (a.drop k) (b.drop k) = QV c a b) (hk : k ≤ a.length) (hk2 : k ≤ b.length) (h : a.length ≤ k ∨ b.length ≤ k) : QV c a b = Qdh a.length b.length := by
 have one : ∀ (l : List α), l.length = k → l.drop k = [] := fun l h => List.drop_of_length_le (by omega)
 unfold Qdh
 rcases Nat.lt_trichotomy a.length b.length with h1 | h1 | h1
 ·have := one a (by omega)
  obtain ⟨y, hy⟩ := Qr (show k < b.length by omega)
  rw [← e, this, Q4 hy, if_neg (by omega)]
  simp [QV, Ki, h1]
 ·have := one a (by omega)
  have := one b (by omega)
  rw [← e, this, one a (by omega), if_pos h1]; rfl
 have := one b (by omega)
 obtain ⟨y, hy⟩ := Qr (show k < a.length by omega)
 rw [← e, this, Q4 hy, if_neg (by omega)]
 have h2 : ¬ a.length < b.length := by omega
 simp [QV, Ki, h2]
end
theorem Qoj {m n : Nat} (h : m = n) : Qdh m n = 0 := by unfold Qdh; rw [if_pos h]
theorem QoK {m n : Nat} (h : m ≠ n) : Qdh m n ≠ 0 := by unfold Qdh; rw [if_neg h]; exact QaH _
theorem cv_1 {x y : Qt} (h : x.N ≠ y.N) : Xw x y = Ki (decide (x.N < y.N)) := by
 rw [J0, Qcv, Qkn h, if_neg (QaH _), if_pos (QaH _)]
theorem QoF {x y : Qt} (h : x.N = y.N) (h2 : QV Lib.compareBytes x.nm y.nm ≠ 0) : Xw x y = QV Lib.compareBytes x.nm y.nm := by
 rw [J0, Qcv, h, Qem, if_pos rfl, if_pos h2]
theorem QoJ {x y : Qt} (h : x.N = y.N) (h2 : QV Lib.compareBytes x.nm y.nm = 0) (h3 : QV Xw x.ps y.ps ≠ 0) : Xw x y = QV Xw x.ps y.ps := by
 rw [J0, Qcv, h, Qem, if_pos rfl, if_neg (by rw [h2]; decide), if_pos h3]
theorem QoV {x y : Qt} (h : x.N = y.N) (h2 : QV Lib.compareBytes x.nm y.nm = 0) (h3 : QV Xw x.ps y.ps = 0) : Xw x y = QV XK x.es y.es := by
 rw [J0, Qcv, h, Qem, if_pos rfl, if_neg (by rw [h2]; decide), if_neg (by rw [h3]; decide)]
def QaD (es : List En) : Nat := (es.map (fun e => 1 + e.1.length)).sum
mutual
def QaR : Qt → Nat
 | .mk _ nm ps es => 1 + nm.length + QaD es + QaM ps
def QaM : List Qt → Nat
 | [] => 0
 | a :: r => QaR a + QaM r
end
theorem Qek (x : Qt) : QaR x = 1 + x.nm.length + QaD x.es + QaM x.ps := by
 cases x with
 | mk N nm ps es => rw [QaR]; rfl
theorem Qcn (a b : List En) : QaD (a ++ b) = QaD a + QaD b := by simp [QaD]
theorem QiI {es : List En} {k : Nat} {e : En} (h : es[k]? = some e) : QaD (es.take (k + 1)) = QaD (es.take k) + (1 + e.1.length) := by
 obtain ⟨hk, rfl⟩ := List.getElem?_eq_some_iff.1 h
 rw [List.take_succ_eq_append_getElem hk, Qcn]
 simp [QaD]
theorem QmR (es : List En) (k : Nat) : QaD (es.take k) ≤ QaD es := by
 have h := Qcn (es.take k) (es.drop k)
 rw [List.take_append_drop] at h
 omega
def Qlc (x : Qt) (m : Int) : Bool := decide ((QaR x : Int) ≤ m)
theorem Qar (b : Bool) : FC Tryz.prog 113 [bl b] (i64 (Ki b)) := by
 refine Qe [2] Tryz.func113 rfl rfl 4 Tryz.ntmps113 (Nat.le_of_ble_eq_true rfl) ?_
 intro E hN
 refine Jy ?_
 refine zq ?_ ?_ <;> intro h1
 ·
  refine Qx ?_; refine zQ ?_
  exact QB (by simp_all [Ki])
 refine Qz ?_; refine zQ ?_
 exact QB (by simp_all [Ki])
theorem KD (m n : Nat) : FC Tryz.prog 114 [i64 (m : Nat), i64 (n : Nat)] (i64 (Qdh m n)) := by
 refine Qe [4] Tryz.func114 rfl rfl 12 Tryz.ntmps114 (Nat.le_of_ble_eq_true rfl) ?_
 intro E hN
 refine Jc ?_
 refine zq ?_ ?_ <;> intro h3
 ·
  have h1 : m = n := by
   have : (m : Int) = n := by simpa using h3
   omega
  refine Qx ?_; refine zQ ?_
  exact QB (Qoj h1).symm
 have h1 : m ≠ n := by
  have : ¬ (m : Int) = n := by simpa using h3
  omega
 refine Xk ?_; refine zP (Qb (Qar _) rfl rfl rfl) ?_; refine zS ?_; refine zQ ?_
 exact QB (by rw [Qdh, if_neg h1]; simp)
theorem Qje (a b : List Tk) : FC Tryz.prog 146 [tks a, tks b] (i64 (QV Y4 a b)) := by
 refine Qe [4] Tryz.func146 rfl rfl 69 Tryz.ntmps146 (Nat.le_of_ble_eq_true rfl) ?_
 intro E hN
 refine X7 0 rfl (fun hl0 => ?_)
 refine XM ?_
 refine Qo (fun x : {k : Nat // k ≤ (a).length ∧ k ≤ b.length ∧ QV Y4 (a.drop k) (b.drop k) = QV Y4 a b} => ⟨[(0, tks a), (1, tks b), (5, i64 (x.1 : Nat))], [], 0⟩) (fun x => (a).length - x.1) (⟨0, Nat.zero_le _, by simp⟩) ?_ ?_
 ·
  exact Qa rfl (Ya trivial) trivial
 rintro ⟨k, hk, hg⟩
 dsimp only
 refine Jf ?_
 refine zc 10 ?_ ?_ <;> intro h7
 rotate_left
 ·
  have hge : a.length ≤ k ∨ b.length ≤ k := .inl (by simpa using h7)
  refine KJ ?_; refine zP (Qb (KD _ _) rfl rfl rfl) ?_; refine zS ?_; refine zQ ?_
  exact QB (by rw [W5 hg.2 hk hg.1 hge, List.length_map, List.length_map])
 have hla : k < a.length := by simpa using h7
 refine Xk ?_
 refine zq ?_ ?_ <;> intro h9
 rotate_left
 ·
  have hge : a.length ≤ k ∨ b.length ≤ k := .inr (by simpa using h9)
  refine Xj ?_; refine zP (Qb (KD _ _) rfl rfl rfl) ?_; refine zS ?_; refine zQ ?_
  exact QB (by rw [W5 hg.2 hk hg.1 hge, List.length_map, List.length_map])
 have hlb : k < b.length := by simpa using h9
 obtain ⟨x, hx⟩ := Qr hla
 obtain ⟨y, hy⟩ := Qr hlb
 refine QA ?_; refine Qg 10 (by kernel_rfl) (by kernel_rfl) ?_; refine QC ?_; refine zp (Qf rfl rfl rfl k rfl _ (Qu hx) rfl) ?_
 refine Qz ?_; refine zp (Qf rfl rfl rfl k rfl _ (Qu hy) rfl) ?_; refine QC ?_; change Ql _ _ _ _ _ _; refine QC ?_
 refine zq ?_ ?_ <;> intro h16
 ·
  have h4 : x.1 ≠ y.1 := by simpa using h16
  refine Yb ?_; refine Qg 12 (by kernel_rfl) (by kernel_rfl) ?_; refine QC ?_; refine zp (Qf rfl rfl rfl k rfl _ (Qu hx) rfl) ?_
  refine Qz ?_; refine zp (Qf rfl rfl rfl k rfl _ (Qu hy) rfl) ?_; refine Qx ?_; refine zp (Qb (Qar _) rfl rfl rfl) ?_
  change Ql _ _ _ _ _ _; refine zS ?_; refine zQ ?_
  exact QB (by rw [JA hg.2 hx hy, tk_1 h4, if_neg (QaH _)])
 have h4 : x.1 = y.1 := by simpa using h16
 refine QC ?_; refine Qg 10 (by kernel_rfl) (by kernel_rfl) ?_; refine QC ?_; refine zp (Qf rfl rfl rfl k rfl _ (Qu hx) rfl) ?_
 refine Qz ?_; refine zp (Qf rfl rfl rfl k rfl _ (Qu hy) rfl) ?_; refine QC ?_; change Ql _ _ _ _ _ _; refine QC ?_
 refine zq ?_ ?_ <;> intro h31
 rotate_left
 ·
  have h6 : x.2 = y.2 := by simpa using h31
  refine QA ?_; refine Qc ?_
  exact ⟨⟨k + 1, hla, hlb, by rw [JA hg.2 hx hy, if_pos (tk_0 h4 h6)]⟩, Qa rfl (Yv ⟨(Xe (by dsimp only; omega)), rfl, trivial⟩) trivial, by dsimp only; omega⟩
 have h6 : x.2 ≠ y.2 := by simpa using h31
 refine Yb ?_; refine Qg 12 (by kernel_rfl) (by kernel_rfl) ?_; refine QC ?_; refine zp (Qf rfl rfl rfl k rfl _ (Qu hx) rfl) ?_
 refine Qz ?_; refine zp (Qf rfl rfl rfl k rfl _ (Qu hy) rfl) ?_; refine Qx ?_; refine zp (Qb (Qar _) rfl rfl rfl) ?_
 change Ql _ _ _ _ _ _; refine zS ?_; refine zQ ?_
 exact QB (by rw [JA hg.2 hx hy, tk_2 h4 h6, if_neg (QaH _)])
theorem Qjt (x y : En) : FC Tryz.prog 115 [.agg (K6 x), .agg (K6 y)] (i64 (XK x y)) := by
 refine Qe [4] Tryz.func115 rfl rfl 21 Tryz.ntmps115 (Nat.le_of_ble_eq_true rfl) ?_
 intro E hN
 refine QfB ?_
 refine zq ?_ ?_ <;> intro h9
 ·
  have h1 : x.2 ≠ y.2 := by simpa using h9
  refine Xj ?_; refine zP (Qb (Qar _) rfl rfl rfl) ?_; refine zS ?_; refine zQ ?_
  exact QB (en_1 h1).symm
 have h1 : x.2 = y.2 := by simpa using h9
 refine Xj ?_; refine zP (Qb (Qje _ _) rfl rfl rfl) ?_; refine zS ?_; refine zQ ?_
 exact QB (en_2 h1).symm
theorem Qoa (x0 y0 : Qt) (ih : ∀ u ∈ x0.ps, ∀ v, FC Tryz.prog 66 [.agg (QH u), .agg (QH v)] (i64 (Xw u v))) : FC Tryz.prog 66 [.agg (QH x0), .agg (QH y0)] (i64 (Xw x0 y0)) := by
 refine Qe [4] Tryz.func66 rfl rfl 149 Tryz.ntmps66 (Nat.le_of_ble_eq_true rfl) ?_
 intro E hN
 refine QfB ?_
 refine zq ?_ ?_ <;> intro h9
 ·
  have hN' : x0.N ≠ y0.N := by simpa using h9
  refine Xj ?_; refine zP (Qb (Qar _) rfl rfl rfl) ?_; refine zS ?_; refine zQ ?_
  exact QB (cv_1 hN').symm
 have hNe : x0.N = y0.N := by simpa using h9
 refine zW ?_
 refine QbM (⟨[(2, .ptr 0 0), (3, .ptr 1 0)], [(0, .var 30 (QH x0)), (1, .var 30 (QH y0))], 2⟩) (QV Lib.compareBytes x0.nm y0.nm = Qdh x0.nm.length y0.nm.length) ?_ ?_
 ·
  refine QA ?_
  refine Qo (fun x : {k : Nat // k ≤ (x0.nm).length ∧ k ≤ y0.nm.length ∧ QV Lib.compareBytes (x0.nm.drop k) (y0.nm.drop k) = QV Lib.compareBytes x0.nm y0.nm} => ⟨[(2, .ptr 0 0), (3, .ptr 1 0), (5, i64 (x.1 : Nat))], [(0, .var 30 (QH x0)), (1, .var 30 (QH y0))], 2⟩) (fun x => (x0.nm).length - x.1) (⟨0, Nat.zero_le _, by simp⟩) ?_ ?_
  ·
   exact Qa rfl (Ya trivial) ⟨rfl, rfl, rfl, rfl, rfl, rfl, trivial⟩
  rintro ⟨k, hk, hg⟩
  dsimp only
  refine Jy ?_
  refine zc 26 ?_ ?_ <;> intro h22
  rotate_left
  ·
   have hge : x0.nm.length ≤ k ∨ y0.nm.length ≤ k := .inl (by simpa using h22)
   refine Jf ?_; refine YG ?_
   exact ⟨(by exact W5 hg.2 hk hg.1 hge), Qa rfl (Yv trivial) ⟨rfl, rfl, rfl, rfl, rfl, rfl, trivial⟩⟩
  have hla : k < x0.nm.length := by simpa using h22
  refine Xj ?_
  refine zq ?_ ?_ <;> intro h26
  rotate_left
  ·
   have hge : x0.nm.length ≤ k ∨ y0.nm.length ≤ k := .inr (by simpa using h26)
   refine YG ?_
   exact ⟨(by exact W5 hg.2 hk hg.1 hge), Qa rfl (Yv trivial) ⟨rfl, rfl, rfl, rfl, rfl, rfl, trivial⟩⟩
  have hlb : k < y0.nm.length := by simpa using h26
  obtain ⟨x, hx⟩ := Qr hla
  obtain ⟨y, hy⟩ := Qr hlb
  refine Qz ?_; refine Qg 10 (by kernel_rfl) (by kernel_rfl) ?_; refine Qx ?_; refine zp (Qf rfl rfl rfl k rfl _ (Qu hx) rfl) ?_
  refine Qz ?_; refine zp (Qf rfl rfl rfl k rfl _ (Qu hy) rfl) ?_; refine zl ?_; change Ql _ _ _ _ _ _; refine QC ?_
  refine zq ?_ ?_ <;> intro h35
  ·
   have h0 : x ≠ y := by simpa using h35
   refine Yb ?_; refine Qg 12 (by kernel_rfl) (by kernel_rfl) ?_; refine Qx ?_; refine zp (Qf rfl rfl rfl k rfl _ (Qu hx) rfl) ?_
   refine Qz ?_; refine zp (Qf rfl rfl rfl k rfl _ (Qu hy) rfl) ?_; refine QC ?_; refine zp (Qb (Qar _) rfl rfl rfl) ?_
   change Ql _ _ _ _ _ _; refine zS ?_; refine zQ ?_
   exact QB (by rw [QoF hNe (by rw [JA hg.2 hx hy, QjL h0, if_neg (QaH _)]; exact QaH _), JA hg.2 hx hy, QjL h0, if_neg (QaH _)])
  have h0 : Lib.compareBytes x y = 0 := by rw [show x = y by simpa using h35]; exact XU.refl y
  refine Yb ?_
  refine X7 23 rfl (fun hl23 => ?_)
  refine Qz ?_; refine Qc ?_
  exact ⟨⟨k + 1, hla, hlb, by rw [JA hg.2 hx hy, if_pos h0]⟩, Qa rfl (Yv ⟨(Xe (by dsimp only; omega)), rfl, trivial⟩) ⟨rfl, rfl, rfl, rfl, rfl, rfl, trivial⟩, by dsimp only; omega⟩
 intro hFnm
 refine Jc ?_
 refine zq ?_ ?_ <;> intro h55
 ·
  have h8 : x0.nm.length ≠ y0.nm.length := by
   have : ¬ (x0.nm.length : Int) = y0.nm.length := by simpa using h55
   omega
  refine Jf ?_; refine zP (Qb (KD _ _) rfl rfl rfl) ?_; refine zS ?_; refine zQ ?_
  exact QB (by rw [QoF hNe (by rw [hFnm]; exact QoK h8), hFnm, List.length_map, List.length_map])
 have h8 : x0.nm.length = y0.nm.length := by
  have : (x0.nm.length : Int) = y0.nm.length := by simpa using h55
  omega
 have h8z := hFnm.trans (Qoj h8)
 refine zW ?_
 refine QbM (⟨[(2, .ptr 0 0), (3, .ptr 1 0)], [(0, .var 30 (QH x0)), (1, .var 30 (QH y0))], 2⟩) (QV Xw x0.ps y0.ps = Qdh x0.ps.length y0.ps.length) ?_ ?_
 ·
  refine QA ?_
  refine Qo (fun x : {k : Nat // k ≤ (x0.ps).length ∧ k ≤ y0.ps.length ∧ QV Xw (x0.ps.drop k) (y0.ps.drop k) = QV Xw x0.ps y0.ps} => ⟨[(2, .ptr 0 0), (3, .ptr 1 0), (6, i64 (x.1 : Nat))], [(0, .var 30 (QH x0)), (1, .var 30 (QH y0))], 2⟩) (fun x => (x0.ps).length - x.1) (⟨0, Nat.zero_le _, by simp⟩) ?_ ?_
  ·
   exact Qa rfl (Ya trivial) ⟨rfl, rfl, rfl, rfl, rfl, rfl, trivial⟩
  rintro ⟨k, hk, hg⟩
  dsimp only
  refine Jy ?_
  refine zc 77 ?_ ?_ <;> intro h69
  rotate_left
  ·
   have hge : x0.ps.length ≤ k ∨ y0.ps.length ≤ k := .inl (by simpa using h69)
   refine Jf ?_; refine YG ?_
   exact ⟨(by exact W5 hg.2 hk hg.1 hge), Qa rfl (Yv trivial) ⟨rfl, rfl, rfl, rfl, rfl, rfl, trivial⟩⟩
  have hla : k < x0.ps.length := by simpa using h69
  refine Xj ?_
  refine zq ?_ ?_ <;> intro h73
  rotate_left
  ·
   have hge : x0.ps.length ≤ k ∨ y0.ps.length ≤ k := .inr (by simpa using h73)
   refine YG ?_
   exact ⟨(by exact W5 hg.2 hk hg.1 hge), Qa rfl (Yv trivial) ⟨rfl, rfl, rfl, rfl, rfl, rfl, trivial⟩⟩
  have hlb : k < y0.ps.length := by simpa using h73
  obtain ⟨x, hx⟩ := Qr hla
  obtain ⟨y, hy⟩ := Qr hlb
  refine Qz ?_; refine Qg 11 (by kernel_rfl) (by kernel_rfl) ?_; refine Qx ?_; refine zp (Qf rfl rfl rfl k rfl _ (Q9 hx) rfl) ?_
  refine Qz ?_; refine zp (Qf rfl rfl rfl k rfl _ (Q9 hy) rfl) ?_; refine zl ?_
  refine zp (Qb (ih x (List.mem_of_getElem? hx) y) rfl rfl rfl) ?_; change Ql _ _ _ _ _ _; refine Xj ?_
  refine zq ?_ ?_ <;> intro h83
  ·
   have h0 : Xw x y ≠ 0 := by simpa using h83
   refine Qz ?_; refine zQ ?_
   exact QB (by rw [QoJ hNe h8z (by rw [JA hg.2 hx hy, if_neg h0]; exact h0), JA hg.2 hx hy, if_neg h0])
  have h0 : Xw x y = 0 := by simpa using h83
  refine Yb ?_
  refine X7 74 rfl (fun hl74 => ?_)
  refine Qz ?_; refine Qc ?_
  exact ⟨⟨k + 1, hla, hlb, by rw [JA hg.2 hx hy, if_pos h0]⟩, Qa rfl (Yv ⟨(Xe (by dsimp only; omega)), rfl, trivial⟩) ⟨rfl, rfl, rfl, rfl, rfl, rfl, trivial⟩, by dsimp only; omega⟩
 intro hFps
 refine Jc ?_
 refine zq ?_ ?_ <;> intro h93
 ·
  have h16 : x0.ps.length ≠ y0.ps.length := by
   have : ¬ (x0.ps.length : Int) = y0.ps.length := by simpa using h93
   omega
  refine Jf ?_; refine zP (Qb (KD _ _) rfl rfl rfl) ?_; refine zS ?_; refine zQ ?_
  exact QB (by rw [QoJ hNe h8z (by rw [hFps]; exact QoK h16), hFps, List.length_map, List.length_map])
 have h16 : x0.ps.length = y0.ps.length := by
  have : (x0.ps.length : Int) = y0.ps.length := by simpa using h93
  omega
 have h16z := hFps.trans (Qoj h16)
 refine zW ?_
 refine QbM (⟨[(2, .ptr 0 0), (3, .ptr 1 0)], [(0, .var 30 (QH x0)), (1, .var 30 (QH y0))], 2⟩) (QV XK x0.es y0.es = Qdh x0.es.length y0.es.length) ?_ ?_
 ·
  refine QA ?_
  refine Qo (fun x : {k : Nat // k ≤ (x0.es).length ∧ k ≤ y0.es.length ∧ QV XK (x0.es.drop k) (y0.es.drop k) = QV XK x0.es y0.es} => ⟨[(2, .ptr 0 0), (3, .ptr 1 0), (8, i64 (x.1 : Nat))], [(0, .var 30 (QH x0)), (1, .var 30 (QH y0))], 2⟩) (fun x => (x0.es).length - x.1) (⟨0, Nat.zero_le _, by simp⟩) ?_ ?_
  ·
   exact Qa rfl (Ya trivial) ⟨rfl, rfl, rfl, rfl, rfl, rfl, trivial⟩
  rintro ⟨k, hk, hg⟩
  dsimp only
  refine Jy ?_
  refine zc 119 ?_ ?_ <;> intro h107
  rotate_left
  ·
   have hge : x0.es.length ≤ k ∨ y0.es.length ≤ k := .inl (by simpa using h107)
   refine Jf ?_; refine YG ?_
   exact ⟨(by exact W5 hg.2 hk hg.1 hge), Qa rfl (Yv trivial) ⟨rfl, rfl, rfl, rfl, rfl, rfl, trivial⟩⟩
  have hla : k < x0.es.length := by simpa using h107
  refine Xj ?_
  refine zq ?_ ?_ <;> intro h111
  rotate_left
  ·
   have hge : x0.es.length ≤ k ∨ y0.es.length ≤ k := .inr (by simpa using h111)
   refine YG ?_
   exact ⟨(by exact W5 hg.2 hk hg.1 hge), Qa rfl (Yv trivial) ⟨rfl, rfl, rfl, rfl, rfl, rfl, trivial⟩⟩
  have hlb : k < y0.es.length := by simpa using h111
  obtain ⟨x, hx⟩ := Qr hla
  obtain ⟨y, hy⟩ := Qr hlb
  refine Qz ?_; refine Qg 11 (by kernel_rfl) (by kernel_rfl) ?_; refine Qx ?_; refine zp (Qf rfl rfl rfl k rfl _ (Qu hx) rfl) ?_
  refine Qz ?_; refine zp (Qf rfl rfl rfl k rfl _ (Qu hy) rfl) ?_; refine zl ?_; refine zp (Qb (Qjt x y) rfl rfl rfl) ?_
  change Ql _ _ _ _ _ _; refine Xj ?_
  refine zq ?_ ?_ <;> intro h121
  ·
   have h0 : XK x y ≠ 0 := by simpa using h121
   refine Qz ?_; refine zQ ?_
   exact QB (by rw [QoV hNe h8z h16z, JA hg.2 hx hy, if_neg h0])
  have h0 : XK x y = 0 := by simpa using h121
  refine Yb ?_
  refine X7 116 rfl (fun hl116 => ?_)
  refine Qz ?_; refine Qc ?_
  exact ⟨⟨k + 1, hla, hlb, by rw [JA hg.2 hx hy, if_pos h0]⟩, Qa rfl (Yv ⟨(Xe (by dsimp only; omega)), rfl, trivial⟩) ⟨rfl, rfl, rfl, rfl, rfl, rfl, trivial⟩, by dsimp only; omega⟩
 intro hFes
 refine Jf ?_; refine zP (Qb (KD _ _) rfl rfl rfl) ?_; refine zS ?_; refine zQ ?_
 exact QB (by rw [QoV hNe h8z h16z, hFes, List.length_map, List.length_map])
theorem Qit (x y : Qt) : FC Tryz.prog 66 [.agg (QH x), .agg (QH y)] (i64 (Xw x y)) := Qoa x y (fun u hu v => Qit u v)
termination_by x
decreasing_by exact Qt.sizeOf_ps ‹_›
theorem Qau (x y : Qt) : FC Tryz.prog 21 [.agg (QH x), .agg (QH y)] (bl (eqV x y)) := by
 refine Qe [4] Tryz.func21 rfl rfl 9 Tryz.ntmps21 (Nat.le_of_ble_eq_true rfl) ?_
 intro E hN
 refine XM ?_; refine zP (Qb (Qit x y) rfl rfl rfl) ?_; refine QC ?_; refine zQ ?_
 rfl
end Go.Proofs.YtnkkokmmeplbgaaGreat
