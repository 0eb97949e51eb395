/-
  Contracts: comparisons of numbers, strings, ticks, entries, 
-/
import Derived.Test.YtnkkokmmeplbgaaGreatB3
import Derived.Test.YtnkkokmmeplbgaaGreatA3
import Derived.Test.YtnkkokmmeplbgaaGreatB1
import Derived.Sort.Statements
namespace Go.Proofs.YtnkkokmmeplbgaaGreat
set_option maxRecDepth 100000
set_option maxHeartbeats 1000000
open Go.RowKit
def QV {α : Type} (c : α → α → Int) : List α → List α → Int
 | [], [] => 0
 | [], _ :: _ => -1
 | _ :: _, [] => 1
 | a :: ar, b :: br => if c a b = 0 then QV c ar br else c a b
section
variable {α : Type} {c : α → α → Int} {a b : List α} {k : Nat} {x y : α}
theorem QeU (e : QV c (a.drop k) (b.drop k) = QV c a b) (hx : a[k]? = some x) (hge : b.length ≤ k) : QV c a b = 1 := by
 rw [← e, Q4 hx, List.drop_of_length_le hge]; rfl
theorem JA (e : QV c (a.drop k) (b.drop k) = QV c a b) (hx : a[k]? = some x) (hy : b[k]? = some y) : QV c a b = if c x y = 0 then QV c (a.drop (k + 1)) (b.drop (k + 1)) else c x y := by
 rw [← e, Q4 hx, Q4 hy, QV]
theorem QcG (e : QV c (a.drop k) (b.drop k) = QV c a b) (h : a.length ≤ k) (hb : k < b.length) : QV c a b = -1 := by
 obtain ⟨y, hy⟩ := Qr hb
 rw [← e, Q4 hy, List.drop_of_length_le h]; rfl
theorem QfC (e : QV c (a.drop k) (b.drop k) = QV c a b) (h : a.length ≤ k) (hb : b.length ≤ k) : QV c a b = 0 := by
 rw [← e, List.drop_of_length_le h, List.drop_of_length_le hb]; rfl
end
theorem Jr : ∀ (a b : Nm), Lib.compareBytes a b = if Op.bytesLess a b = true then -1 else if (!(Op.bytesLess a b || a == b)) = true then 1 else 0
 | [], [] => rfl
 | [], _ :: _ => rfl
 | _ :: _, [] => rfl
 | x :: a, y :: b => by
  have ih := Jr a b
  unfold Lib.compareBytes Op.bytesLess
  by_cases h1 : x < y
  ·simp [h1]
  by_cases h2 : y < x
  ·have : x ≠ y := fun e => by subst e; exact h1 h2
   simp [h1, h2, this]
  have : x = y := by
   rw [UInt8.lt_iff_toNat_lt] at h1 h2
   exact UInt8.toNat_inj.1 (by omega)
  subst this
  simp [h1, ih]
def Y4 (t u : Tk) : Int := KH [Lib.compareInt t.1 u.1, Lib.compareInt t.2 u.2]
def XK (p q : En) : Int := KH [Lib.compareBytes p.2 q.2, QV Y4 p.1 q.1]
mutual
def Xw : Qt → Qt → Int
 | .mk N nm ps es, y => if KH [Lib.compareInt N y.N, QV Lib.compareBytes nm y.nm] ≠ 0 then KH [Lib.compareInt N y.N, QV Lib.compareBytes nm y.nm] else if KN ps y.ps ≠ 0 then KN ps y.ps else QV XK es y.es
def KN : List Qt → List Qt → Int
 | [], [] => 0
 | [], _ :: _ => -1
 | _ :: _, [] => 1
 | a :: r, b :: s => if Xw a b = 0 then KN r s else Xw a b
end
theorem Qcr : ∀ a b : List Qt, KN a b = QV Xw a b
 | [], [] => by simp [KN, QV]
 | [], _ :: _ => by simp [KN, QV]
 | _ :: _, [] => by simp [KN, QV]
 | a :: r, b :: s => by simp only [KN, QV]; rw [Qcr r s]
theorem J0 (x y : Qt) : Xw x y = if KH [Lib.compareInt x.N y.N, QV Lib.compareBytes x.nm y.nm] ≠ 0 then KH [Lib.compareInt x.N y.N, QV Lib.compareBytes x.nm y.nm] else if QV Xw x.ps y.ps ≠ 0 then QV Xw x.ps y.ps else QV XK x.es y.es := by
 cases x with
 | mk N nm ps es => rw [Xw, Qcr]; rfl
theorem Qi2 (a b : Nm) : FC Tryz.prog 223 [sv a, sv b] (i64 (Lib.compareBytes a b)) := Qmc (vs := [.string ⟨a.toArray⟩, .string ⟨b.toArray⟩]) (fun w => by simpa using Qbk ⟨a.toArray⟩ ⟨b.toArray⟩ w)
theorem QhV (x : Int) : FC Tryz.prog 237 [i64 x] (bl false) := by
 refine Qe [2] Tryz.func237 rfl rfl 6 Tryz.ntmps237 (Nat.le_of_ble_eq_true rfl) ?_
 intro E hN
 refine XM ?_; refine zQ ?_
 exact Qq (by simp)
theorem Qeg (x : Int) : FC Tryz.prog 212 [i64 x] (bl false) := by
 refine Qe [2] Tryz.func212 rfl rfl 6 Tryz.ntmps212 (Nat.le_of_ble_eq_true rfl) ?_
 intro E hN
 refine XM ?_; refine zQ ?_
 exact Qq (by simp)
theorem QeR (x : Nm) : FC Tryz.prog 228 [sv x] (bl false) := by
 refine Qe [2] Tryz.func228 rfl rfl 6 Tryz.ntmps228 (Nat.le_of_ble_eq_true rfl) ?_
 intro E hN
 refine XM ?_; refine zQ ?_
 exact Qq (by simp)
theorem QlP (x y : Int) : FC Tryz.prog 224 [i64 x, i64 y] (i64 (Lib.compareInt x y)) := by
 refine Qe [4] Tryz.func224 rfl rfl 20 Tryz.ntmps224 (Nat.le_of_ble_eq_true rfl) ?_
 intro E hN
 refine Xj ?_; refine zP (Qb (QhV _) rfl rfl rfl) ?_; refine QA ?_; refine zP (Qb (QhV _) rfl rfl rfl) ?_; refine Xj ?_
 refine zq ?_ ?_ <;> intro h3
 ·
  cases h3
 refine Xk ?_
 refine zq ?_ ?_ <;> intro h4
 ·
  cases h4
 refine Jf ?_
 refine zq ?_ ?_ <;> intro h5
 ·
  refine Qx ?_; refine zQ ?_
  exact QB (by unfold Lib.compareInt; simp at *; split <;> (try split) <;> omega)
 refine Jf ?_
 refine zq ?_ ?_ <;> intro h6
 ·
  refine Qx ?_; refine zQ ?_
  exact QB (by unfold Lib.compareInt; simp at *; split <;> (try split) <;> omega)
 refine Qz ?_; refine zQ ?_
 exact QB (by unfold Lib.compareInt; simp at *; split <;> (try split) <;> omega)
theorem QdV (x y : Int) : FC Tryz.prog 184 [i64 x, i64 y] (i64 (Lib.compareInt x y)) := by
 refine Qe [4] Tryz.func184 rfl rfl 20 Tryz.ntmps184 (Nat.le_of_ble_eq_true rfl) ?_
 intro E hN
 refine Xj ?_; refine zP (Qb (Qeg _) rfl rfl rfl) ?_; refine QA ?_; refine zP (Qb (Qeg _) rfl rfl rfl) ?_; refine Xj ?_
 refine zq ?_ ?_ <;> intro h3
 ·
  cases h3
 refine Xk ?_
 refine zq ?_ ?_ <;> intro h4
 ·
  cases h4
 refine Jf ?_
 refine zq ?_ ?_ <;> intro h5
 ·
  refine Qx ?_; refine zQ ?_
  exact QB (by unfold Lib.compareInt; simp at *; split <;> (try split) <;> omega)
 refine Jf ?_
 refine zq ?_ ?_ <;> intro h6
 ·
  refine Qx ?_; refine zQ ?_
  exact QB (by unfold Lib.compareInt; simp at *; split <;> (try split) <;> omega)
 refine Qz ?_; refine zQ ?_
 exact QB (by unfold Lib.compareInt; simp at *; split <;> (try split) <;> omega)
theorem Ql8 (x y : Nm) : FC Tryz.prog 213 [sv x, sv y] (i64 (Lib.compareBytes x y)) := by
 refine Qe [4] Tryz.func213 rfl rfl 20 Tryz.ntmps213 (Nat.le_of_ble_eq_true rfl) ?_
 intro E hN
 refine Xj ?_; refine zP (Qb (QeR _) rfl rfl rfl) ?_; refine QA ?_; refine zP (Qb (QeR _) rfl rfl rfl) ?_; refine Xj ?_
 refine zq ?_ ?_ <;> intro h3
 ·
  cases h3
 refine Xk ?_
 refine zq ?_ ?_ <;> intro h4
 ·
  cases h4
 refine Jf ?_
 refine zq ?_ ?_ <;> intro h5
 ·
  have h9 := h5
  refine Qx ?_; refine zQ ?_
  exact QB (by rw [Jr, if_pos h9])
 have h9 := h5
 refine Jf ?_
 refine zq ?_ ?_ <;> intro h6
 ·
  have h11 := h6
  refine Qx ?_; refine zQ ?_
  exact QB (by rw [Jr, if_neg (by simp [h9]), if_pos h11])
 have h11 := h6
 refine Qz ?_; refine zQ ?_
 exact QB (by rw [Jr, if_neg (by simp [h9]), if_neg (by simp [h11])])
theorem Qjp (a b : Nm) : FC Tryz.prog 203 [sv a, sv b] (i64 (Lib.compareBytes a b)) := by
 refine Qe [4] Tryz.func203 rfl rfl 8 Tryz.ntmps203 (Nat.le_of_ble_eq_true rfl) ?_
 intro E hN
 refine Jf ?_; refine zP (Qb (Qi2 a b) rfl rfl rfl) ?_; refine zS ?_; refine zQ ?_
 rfl
theorem Qhx (l : List Int) : FC Tryz.prog 183 [ivs l] (i64 (KH l)) := by
 refine Qe [2] Tryz.func183 rfl rfl 18 Tryz.ntmps183 (Nat.le_of_ble_eq_true rfl) ?_
 intro E hN
 refine X7 0 rfl (fun hl0 => ?_)
 refine QdO ?_
 refine Qo (fun x : {k : Nat // k ≤ (l).length ∧ KH (l.drop k) = KH l} => ⟨[(3, i64 0), (6, ivs l), (7, i64 l.length), (8, i64 (x.1 : Nat))], [], 0⟩) (fun x => (l).length - x.1) (⟨0, Nat.zero_le _, by simp⟩) ?_ ?_
 ·
  exact Qa rfl (Yv ⟨(Xe (by simp)), rfl, (Xr trivial)⟩) trivial
 rintro ⟨k, hk, hg⟩
 dsimp only
 refine QA ?_
 refine zq ?_ ?_ <;> intro h6
 rotate_left
 ·
  have hge : (l).length ≤ k := by simpa using h6
  refine QA ?_; refine zQ ?_
  exact QB (by rw [← hg, List.drop_of_length_le hge]; rfl)
 have hlt : k < (l).length := by simpa using h6
 obtain ⟨x, hx⟩ := Qr hlt
 have hs : KH l = if x == 0 then KH (l.drop (k + 1)) else x := by rw [← hg, Q4 hx]; rfl
 refine QA ?_; refine zP (Qf rfl rfl rfl k rfl _ (Qu hx) rfl) ?_; refine Jy ?_
 refine zq ?_ ?_ <;> intro h9
 ·
  refine Qz ?_; refine zQ ?_
  exact QB (by rw [hs, if_neg (by simp_all)])
 have hn : KH (l.drop (k + 1)) = KH l := by rw [hs, if_pos (by simpa using h9)]
 refine Qz ?_; refine Qc ?_
 exact ⟨⟨k + 1, hlt, hn⟩, Qa rfl (Ya ⟨(Xe (by dsimp only; omega)), rfl, trivial⟩) trivial, by dsimp only; omega⟩
theorem QkJ (a b : List Nm) : FC Tryz.prog 185 [XN a, XN b] (i64 (QV Lib.compareBytes a b)) := by
 refine Qe [4] Tryz.func185 rfl rfl 36 Tryz.ntmps185 (Nat.le_of_ble_eq_true rfl) ?_
 intro E hN
 refine X7 0 rfl (fun hl0 => ?_)
 refine X7 1 rfl (fun hl1 => ?_)
 refine Jn ?_
 refine Qo (fun x : {k : Nat // k ≤ (a).length ∧ k ≤ b.length ∧ QV Lib.compareBytes (a.drop k) (b.drop k) = QV Lib.compareBytes a b} => ⟨[(0, XN a), (1, XN b), (9, XN a), (10, i64 a.length), (11, i64 (x.1 : Nat))], [], 0⟩) (fun x => (a).length - x.1) (⟨0, Nat.zero_le _, by simp⟩) ?_ ?_
 ·
  exact Qa rfl (Ya ⟨(Xe (by simp)), rfl, (Xr trivial)⟩) trivial
 rintro ⟨k, hk, hg⟩
 dsimp only
 obtain ⟨hkb, hg⟩ := hg
 refine QA ?_
 refine zq ?_ ?_ <;> intro h7
 rotate_left
 ·
  have hge : (a).length ≤ k := by simpa using h7
  refine XM ?_
  refine zq ?_ ?_ <;> intro h19
  ·
   have h11 := h19
   refine Qx ?_; refine zQ ?_
   exact QB (QcG hg hge (by simp at h11; omega)).symm
  have h11 := h19
  refine Qz ?_; refine zQ ?_
  exact QB (QfC hg hge (by simp at h11; omega)).symm
 have hlt : k < (a).length := by simpa using h7
 obtain ⟨x, hx⟩ := Qr hlt
 refine Xk ?_; refine zP (Qf rfl rfl rfl k rfl _ (Qu hx) rfl) ?_; refine Jn ?_
 refine zq ?_ ?_ <;> intro h11
 ·
  have hgb : b.length ≤ k := by simpa using h11
  refine Qx ?_; refine zQ ?_
  exact QB (QeU hg hx hgb).symm
 have hlb : k < b.length := by simpa using h11
 obtain ⟨y, hy⟩ := Qr hlb
 have hs := JA hg hx hy
 refine QA ?_; refine zP (Qf rfl rfl rfl k rfl _ (Qu hy) rfl) ?_; refine Xj ?_; refine zP (Qb (Ql8 x y) rfl rfl rfl) ?_
 refine Xj ?_
 refine zq ?_ ?_ <;> intro h15
 ·
  have h8 : ¬ Lib.compareBytes x y = 0 := by simpa using h15
  refine Qz ?_; refine zQ ?_
  exact QB (by rw [hs, if_neg h8])
 have h8 : Lib.compareBytes x y = 0 := by simpa using h15
 have hn : QV Lib.compareBytes (a.drop (k + 1)) (b.drop (k + 1)) = QV Lib.compareBytes a b := by rw [hs, if_pos h8]
 refine Qz ?_; refine Qc ?_
 exact ⟨⟨k + 1, hlt, hlb, hn⟩, Qa rfl (Yg ⟨(Xe (by dsimp only; omega)), rfl, trivial⟩) trivial, by dsimp only; omega⟩
theorem QjV {f : FuncId} [QZ Tryz.prog f] {c : Tk → Tk → Int} (a b : List Tk) (hc : ∀ x ∈ a, ∀ y, FC Tryz.prog f [.agg (tkC x), .agg (tkC y)] (i64 (c x y))) : FC Tryz.prog 204 [tks a, tks b, .fn f []] (i64 (QV c a b)) := by
 refine Qe [6] Tryz.func204 rfl rfl 39 Tryz.ntmps204 (Nat.le_of_ble_eq_true rfl) ?_
 intro E hN
 refine X7 0 rfl (fun hl0 => ?_)
 refine X7 1 rfl (fun hl1 => ?_)
 refine Jn ?_
 refine Qo (fun x : {k : Nat // k ≤ (a).length ∧ k ≤ b.length ∧ QV c (a.drop k) (b.drop k) = QV c a b} => ⟨[(0, tks a), (1, tks b), (2, .fn f []), (11, tks a), (12, i64 a.length), (13, i64 (x.1 : Nat))], [], 0⟩) (fun x => (a).length - x.1) (⟨0, Nat.zero_le _, by simp⟩) ?_ ?_
 ·
  exact Qa rfl (Yg ⟨(Xe (by simp)), rfl, (Xr trivial)⟩) trivial
 rintro ⟨k, hk, hg⟩
 dsimp only
 obtain ⟨hkb, hg⟩ := hg
 refine QA ?_
 refine zq ?_ ?_ <;> intro h8
 rotate_left
 ·
  have hge : (a).length ≤ k := by simpa using h8
  refine XM ?_
  refine zq ?_ ?_ <;> intro h26
  ·
   have h11 := h26
   refine Qx ?_; refine zQ ?_
   exact QB (QcG hg hge (by simp at h11; omega)).symm
  have h11 := h26
  refine Qz ?_; refine zQ ?_
  exact QB (QfC hg hge (by simp at h11; omega)).symm
 have hlt : k < (a).length := by simpa using h8
 obtain ⟨x, hx⟩ := Qr hlt
 refine Xk ?_; refine zP (Qf rfl rfl rfl k rfl _ (Qu hx) rfl) ?_; refine Wz ?_
 refine zq ?_ ?_ <;> intro h14
 ·
  have hgb : b.length ≤ k := by simpa using h14
  refine Qx ?_; refine zQ ?_
  exact QB (QeU hg hx hgb).symm
 have hlb : k < b.length := by simpa using h14
 obtain ⟨y, hy⟩ := Qr hlb
 have hs := JA hg hx hy
 refine QA ?_; refine zP (Qf rfl rfl rfl k rfl _ (Qu hy) rfl) ?_; refine Jy ?_
 refine zP (Y2 (hc x (List.mem_of_getElem? hx) y) rfl rfl rfl rfl) ?_; refine Xj ?_
 refine zq ?_ ?_ <;> intro h22
 ·
  have h8 : ¬ c x y = 0 := by simpa using h22
  refine Qz ?_; refine zQ ?_
  exact QB (by rw [hs, if_neg h8])
 have h8 : c x y = 0 := by simpa using h22
 have hn : QV c (a.drop (k + 1)) (b.drop (k + 1)) = QV c a b := by rw [hs, if_pos h8]
 refine Qz ?_; refine Qc ?_
 exact ⟨⟨k + 1, hlt, hlb, hn⟩, Qa rfl (Yg (Xr ⟨(Xe (by dsimp only; omega)), rfl, trivial⟩)) trivial, by dsimp only; omega⟩
theorem Qkq {f : FuncId} [QZ Tryz.prog f] {c : En → En → Int} (a b : List En) (hc : ∀ x ∈ a, ∀ y, FC Tryz.prog f [.agg (K6 x), .agg (K6 y)] (i64 (c x y))) : FC Tryz.prog 187 [KU a, KU b, .fn f []] (i64 (QV c a b)) := by
 refine Qe [6] Tryz.func187 rfl rfl 39 Tryz.ntmps187 (Nat.le_of_ble_eq_true rfl) ?_
 intro E hN
 refine X7 0 rfl (fun hl0 => ?_)
 refine X7 1 rfl (fun hl1 => ?_)
 refine Jn ?_
 refine Qo (fun x : {k : Nat // k ≤ (a).length ∧ k ≤ b.length ∧ QV c (a.drop k) (b.drop k) = QV c a b} => ⟨[(0, KU a), (1, KU b), (2, .fn f []), (11, KU a), (12, i64 a.length), (13, i64 (x.1 : Nat))], [], 0⟩) (fun x => (a).length - x.1) (⟨0, Nat.zero_le _, by simp⟩) ?_ ?_
 ·
  exact Qa rfl (Yg ⟨(Xe (by simp)), rfl, (Xr trivial)⟩) trivial
 rintro ⟨k, hk, hg⟩
 dsimp only
 obtain ⟨hkb, hg⟩ := hg
 refine QA ?_
 refine zq ?_ ?_ <;> intro h8
 rotate_left
 ·
  have hge : (a).length ≤ k := by simpa using h8
  refine XM ?_
  refine zq ?_ ?_ <;> intro h26
  ·
   have h11 := h26
   refine Qx ?_; refine zQ ?_
   exact QB (QcG hg hge (by simp at h11; omega)).symm
  have h11 := h26
  refine Qz ?_; refine zQ ?_
  exact QB (QfC hg hge (by simp at h11; omega)).symm
 have hlt : k < (a).length := by simpa using h8
 obtain ⟨x, hx⟩ := Qr hlt
 refine Xk ?_; refine zP (Qf rfl rfl rfl k rfl _ (Qu hx) rfl) ?_; refine Wz ?_
 refine zq ?_ ?_ <;> intro h14
 ·
  have hgb : b.length ≤ k := by simpa using h14
  refine Qx ?_; refine zQ ?_
  exact QB (QeU hg hx hgb).symm
 have hlb : k < b.length := by simpa using h14
 obtain ⟨y, hy⟩ := Qr hlb
 have hs := JA hg hx hy
 refine QA ?_; refine zP (Qf rfl rfl rfl k rfl _ (Qu hy) rfl) ?_; refine Jy ?_
 refine zP (Y2 (hc x (List.mem_of_getElem? hx) y) rfl rfl rfl rfl) ?_; refine Xj ?_
 refine zq ?_ ?_ <;> intro h22
 ·
  have h8 : ¬ c x y = 0 := by simpa using h22
  refine Qz ?_; refine zQ ?_
  exact QB (by rw [hs, if_neg h8])
 have h8 : c x y = 0 := by simpa using h22
 have hn : QV c (a.drop (k + 1)) (b.drop (k + 1)) = QV c a b := by rw [hs, if_pos h8]
 refine Qz ?_; refine Qc ?_
 exact ⟨⟨k + 1, hlt, hlb, hn⟩, Qa rfl (Yg (Xr ⟨(Xe (by dsimp only; omega)), rfl, trivial⟩)) trivial, by dsimp only; omega⟩
theorem Qli {f : FuncId} [QZ Tryz.prog f] {c : Qt → Qt → Int} (a b : List Qt) (hc : ∀ x ∈ a, ∀ y, FC Tryz.prog f [.agg (QH x), .agg (QH y)] (i64 (c x y))) : FC Tryz.prog 186 [J8 a, J8 b, .fn f []] (i64 (QV c a b)) := by
 refine Qe [6] Tryz.func186 rfl rfl 39 Tryz.ntmps186 (Nat.le_of_ble_eq_true rfl) ?_
 intro E hN
 refine X7 0 rfl (fun hl0 => ?_)
 refine X7 1 rfl (fun hl1 => ?_)
 refine Jn ?_
 refine Qo (fun x : {k : Nat // k ≤ (a).length ∧ k ≤ b.length ∧ QV c (a.drop k) (b.drop k) = QV c a b} => ⟨[(0, J8 a), (1, J8 b), (2, .fn f []), (11, J8 a), (12, i64 a.length), (13, i64 (x.1 : Nat))], [], 0⟩) (fun x => (a).length - x.1) (⟨0, Nat.zero_le _, by simp⟩) ?_ ?_
 ·
  exact Qa rfl (Yg ⟨(Xe (by simp)), rfl, (Xr trivial)⟩) trivial
 rintro ⟨k, hk, hg⟩
 dsimp only
 obtain ⟨hkb, hg⟩ := hg
 refine QA ?_
 refine zq ?_ ?_ <;> intro h8
 rotate_left
 ·
  have hge : (a).length ≤ k := by simpa using h8
  refine XM ?_
  refine zq ?_ ?_ <;> intro h26
  ·
   have h11 := h26
   refine Qx ?_; refine zQ ?_
   exact QB (QcG hg hge (by simp at h11; omega)).symm
  have h11 := h26
  refine Qz ?_; refine zQ ?_
  exact QB (QfC hg hge (by simp at h11; omega)).symm
 have hlt : k < (a).length := by simpa using h8
 obtain ⟨x, hx⟩ := Qr hlt
 refine Xk ?_; refine zP (Qf rfl rfl rfl k rfl _ (Q9 hx) rfl) ?_; refine Wz ?_
 refine zq ?_ ?_ <;> intro h14
 ·
  have hgb : b.length ≤ k := by simpa using h14
  refine Qx ?_; refine zQ ?_
  exact QB (QeU hg hx hgb).symm
 have hlb : k < b.length := by simpa using h14
 obtain ⟨y, hy⟩ := Qr hlb
 have hs := JA hg hx hy
 refine QA ?_; refine zP (Qf rfl rfl rfl k rfl _ (Q9 hy) rfl) ?_; refine Jy ?_
 refine zP (Y2 (hc x (List.mem_of_getElem? hx) y) rfl rfl rfl rfl) ?_; refine Xj ?_
 refine zq ?_ ?_ <;> intro h22
 ·
  have h8 : ¬ c x y = 0 := by simpa using h22
  refine Qz ?_; refine zQ ?_
  exact QB (by rw [hs, if_neg h8])
 have h8 : c x y = 0 := by simpa using h22
 have hn : QV c (a.drop (k + 1)) (b.drop (k + 1)) = QV c a b := by rw [hs, if_pos h8]
 refine Qz ?_; refine Qc ?_
 exact ⟨⟨k + 1, hlt, hlb, hn⟩, Qa rfl (Yg (Xr ⟨(Xe (by dsimp only; omega)), rfl, trivial⟩)) trivial, by dsimp only; omega⟩
theorem Qkz (x y : Tk) : FC Tryz.prog 205 [.agg (tkC x), .agg (tkC y)] (i64 (Y4 x y)) := by
 refine Qe [4] Tryz.func205 rfl rfl 17 Tryz.ntmps205 (Nat.le_of_ble_eq_true rfl) ?_
 intro E hN
 refine Xj ?_; refine Qg 12 (by kernel_rfl) (by kernel_rfl) ?_; refine Qz ?_; refine zp (Qb (QlP _ _) rfl rfl rfl) ?_; refine Qz ?_
 refine zp (Qb (QdV _ _) rfl rfl rfl) ?_; refine zp (QJ rfl rfl rfl rfl (by exact rfl) (by decide) (by decide)) ?_
 refine zp (Qb (Qhx [Lib.compareInt x.1 y.1, Lib.compareInt x.2 y.2]) rfl rfl rfl) ?_; change Ql _ _ _ _ _ _; refine zS ?_; refine zQ ?_
 rfl
theorem Qge (x y : En) : FC Tryz.prog 174 [.agg (K6 x), .agg (K6 y)] (i64 (XK x y)) := by
 refine Qe [4] Tryz.func174 rfl rfl 17 Tryz.ntmps174 (Nat.le_of_ble_eq_true rfl) ?_
 intro E hN
 refine Xj ?_; refine Qg 12 (by kernel_rfl) (by kernel_rfl) ?_; refine Qz ?_; refine zp (Qb (Qjp _ _) rfl rfl rfl) ?_; refine Qz ?_
 refine zp (Qb (QjV x.1 y.1 (fun u _ v => Qkz u v)) rfl rfl rfl) ?_
 refine zp (QJ rfl rfl rfl rfl (by exact rfl) (by decide) (by decide)) ?_
 refine zp (Qb (Qhx [Lib.compareBytes x.2 y.2, QV Y4 x.1 y.1]) rfl rfl rfl) ?_; change Ql _ _ _ _ _ _; refine zS ?_; refine zQ ?_
 rfl
theorem QkN (x y : Qt) (ih : ∀ u ∈ x.ps, ∀ v, FC Tryz.prog 147 [.agg (QH u), .agg (QH v)] (i64 (Xw u v))) : FC Tryz.prog 147 [.agg (QH x), .agg (QH y)] (i64 (Xw x y)) := by
 refine Qe [4] Tryz.func147 rfl rfl 35 Tryz.ntmps147 (Nat.le_of_ble_eq_true rfl) ?_
 intro E hN
 refine Jf ?_; refine Qg 12 (by kernel_rfl) (by kernel_rfl) ?_; refine Qz ?_; refine zp (Qb (QdV _ _) rfl rfl rfl) ?_; refine Qz ?_
 refine zp (Qb (QkJ _ _) rfl rfl rfl) ?_; refine zp (QJ rfl rfl rfl rfl (by exact rfl) (by decide) (by decide)) ?_
 refine zp (Qb (Qhx [Lib.compareInt x.N y.N, QV Lib.compareBytes x.nm y.nm]) rfl rfl rfl) ?_; change Ql _ _ _ _ _ _; refine Xj ?_
 refine zq ?_ ?_ <;> intro h17
 ·
  have h2 := h17
  refine Qz ?_; refine zQ ?_
  exact QB (by rw [J0, if_pos (by simpa using h2)])
 have h2 := h17
 refine Jf ?_; refine zP (Qb (Qli x.ps y.ps ih) rfl rfl rfl) ?_; refine Xj ?_
 refine zq ?_ ?_ <;> intro h23
 ·
  have h5 := h23
  refine Qz ?_; refine zQ ?_
  exact QB (by rw [J0, if_neg (by simpa using h2), if_pos (by simpa using h5)])
 have h5 := h23
 refine Xj ?_; refine zP (Qb (Qkq x.es y.es (fun u _ v => Qge u v)) rfl rfl rfl) ?_; refine zS ?_; refine zQ ?_
 exact QB (by rw [J0, if_neg (by simpa using h2), if_neg (by simpa using h5)])
theorem QbS (x y : Qt) : FC Tryz.prog 147 [.agg (QH x), .agg (QH y)] (i64 (Xw x y)) := QkN x y (fun u _ v => QbS u v)
termination_by x
decreasing_by exact Qt.sizeOf_ps ‹_›
def eqV (x y : Qt) : Bool := Xw x y == 0
theorem QbN (x y : Qt) : FC Tryz.prog 116 [.agg (QH x), .agg (QH y)] (bl (eqV x y)) := by
 refine Qe [4] Tryz.func116 rfl rfl 9 Tryz.ntmps116 (Nat.le_of_ble_eq_true rfl) ?_
 intro E hN
 refine XM ?_; refine zP (Qb (QbS x y) rfl rfl rfl) ?_; refine QC ?_; refine zQ ?_
 rfl
structure YC {α : Type} (c : α → α → Int) : Prop where
 anti : ∀ x y, c x y ≤ 0 ↔ 0 ≤ c y x
 trans : ∀ x y z, c x y ≤ 0 → c y z ≤ 0 → c x z ≤ 0
 eq : ∀ x y, c x y = 0 → x = y
theorem YC.refl {α : Type} {c : α → α → Int} (h : YC c) (x : α) : c x x = 0 := by
 have := h.anti x x
 omega
theorem YC.zero {α : Type} {c : α → α → Int} (h : YC c) {x y : α} (e : c x y = 0) : c y x = 0 := by
 obtain rfl := h.eq _ _ e
 exact e
theorem YC.swo {α β : Type} {c : α → α → Int} (h : YC c) (f : β → α) : Sort.SWO (fun x y : β => decide (c (f x) (f y) < 0)) where
 irrefl x := by simp [h.refl]
 trans x y z h1 h2 := by
  simp only [decide_eq_true_eq] at *
  have a1 := h.anti (f x) (f z)
  have a2 := h.anti (f z) (f x)
  have a3 := h.anti (f y) (f z)
  have a4 := h.anti (f z) (f y)
  by_cases hz : c (f z) (f x) ≤ 0
  ·have := h.trans _ _ _ hz (show c (f x) (f y) ≤ 0 by omega)
   omega
  omega
 ntrans x y z h1 h2 := by
  simp only [decide_eq_false_iff_not] at *
  have a1 := h.anti (f y) (f x)
  have a2 := h.anti (f z) (f y)
  have a3 := h.anti (f z) (f x)
  have := h.trans (f z) (f y) (f x) (by omega) (by omega)
  omega
def QhR {α : Type} (c1 c2 : α → α → Int) (x y : α) : Int := if c1 x y = 0 then c2 x y else c1 x y
theorem Qby {α : Type} {c : α → α → Int} (h : YC c) : YC (QV c) where
 anti x y := by
  induction x generalizing y with
  | nil => cases y <;> simp [QV]
  | cons a ar ih =>
   cases y with
   | nil => simp [QV]
   | cons b br =>
    simp only [QV]
    have a1 := h.anti a b
    have a2 := h.anti b a
    by_cases e : c a b = 0
    ·rw [if_pos e, if_pos (h.zero e)]; exact ih br
    have e2 : c b a ≠ 0 := fun e2 => e (h.zero e2)
    rw [if_neg e, if_neg e2]; exact a1
 trans x y z h1 h2 := by
  induction x generalizing y z with
  | nil => cases z <;> simp [QV]
  | cons a ar ih =>
   cases y with
   | nil => simp [QV] at h1
   | cons b br =>
    cases z with
    | nil => simp [QV] at h2
    | cons d dr =>
     simp only [QV] at *
     have t := h.trans a b d
     have t2 := h.trans b d a
     have t3 := h.trans d a b
     have p1 := h.anti a b
     have p2 := h.anti b a
     have p3 := h.anti b d
     have p4 := h.anti d b
     have p5 := h.anti a d
     have p6 := h.anti d a
     by_cases e1 : c a b = 0
     ·obtain rfl := h.eq _ _ e1
      rw [if_pos e1] at h1
      by_cases e2 : c a d = 0
      ·rw [if_pos e2] at h2 ⊢; exact ih _ _ h1 h2
      rw [if_neg e2] at h2 ⊢; exact h2
     rw [if_neg e1] at h1
     by_cases e2 : c b d = 0
     ·obtain rfl := h.eq _ _ e2
      rw [if_neg e1]; exact h1
     rw [if_neg e2] at h2
     have e3 : c a d ≠ 0 := by
      intro e3
      obtain rfl := h.eq _ _ e3
      omega
     rw [if_neg e3]; exact t h1 h2
 eq x y e := by
  induction x generalizing y with
  | nil => cases y <;> simp [QV] at *
  | cons a ar ih =>
   cases y with
   | nil => simp [QV] at e
   | cons b br =>
    simp only [QV] at e
    by_cases e1 : c a b = 0
    ·rw [if_pos e1] at e; rw [h.eq _ _ e1, ih _ e]
    rw [if_neg e1] at e; exact absurd e e1
theorem JI : YC Lib.compareInt where
 anti x y := by unfold Lib.compareInt; split <;> split <;> (try split) <;> omega
 trans x y z := by unfold Lib.compareInt; split <;> split <;> (try split) <;> (try split) <;> (try split) <;> omega
 eq x y := by unfold Lib.compareInt; split <;> (try split) <;> omega
theorem Qbv {α β γ : Type} {c1 : β → β → Int} {c2 : γ → γ → Int} (f : α → β) (g : α → γ) (h1 : YC c1) (h2 : YC c2) (inj : ∀ x y, f x = f y → g x = g y → x = y) :
  YC (QhR (fun x y => c1 (f x) (f y)) (fun x y => c2 (g x) (g y))) where
 anti x y := by
  simp only [QhR]
  have a1 := h1.anti (f x) (f y)
  have a2 := h1.anti (f y) (f x)
  by_cases e : c1 (f x) (f y) = 0
  ·rw [if_pos e, if_pos (h1.zero e)]; exact h2.anti _ _
  have e2 : c1 (f y) (f x) ≠ 0 := fun e2 => e (h1.zero e2)
  rw [if_neg e, if_neg e2]; exact a1
 trans x y z k1 k2 := by
  simp only [QhR] at *
  by_cases e1 : c1 (f x) (f y) = 0
  ·have q := h1.eq _ _ e1
   rw [if_pos e1] at k1
   rw [q]
   by_cases e2 : c1 (f y) (f z) = 0
   ·rw [if_pos e2] at k2 ⊢; exact h2.trans _ _ _ k1 k2
   rw [if_neg e2] at k2 ⊢; exact k2
  rw [if_neg e1] at k1
  by_cases e2 : c1 (f y) (f z) = 0
  ·have q := h1.eq _ _ e2
   rw [← q, if_neg e1]; exact k1
  rw [if_neg e2] at k2
  have e3 : c1 (f x) (f z) ≠ 0 := by
   intro e3
   have q := h1.eq _ _ e3
   rw [q] at k1 e1
   have := h1.anti (f y) (f z)
   have := h1.anti (f z) (f y)
   omega
  rw [if_neg e3]; exact h1.trans _ _ _ k1 k2
 eq x y e := by
  simp only [QhR] at e
  by_cases e1 : c1 (f x) (f y) = 0
  ·rw [if_pos e1] at e; exact inj _ _ (h1.eq _ _ e1) (h2.eq _ _ e)
  rw [if_neg e1] at e; exact absurd e e1
theorem Qcv (a b : Int) : KH [a, b] = if a = 0 then b else a := by
 simp only [KH]
 by_cases h : a = 0 <;> by_cases h2 : b = 0 <;> simp [h, h2]
theorem QjS : YC Y4 := by
 have : Y4 = QhR (fun x y : Tk => Lib.compareInt x.1 y.1) (fun x y : Tk => Lib.compareInt x.2 y.2) := by
  funext x y; rw [Y4, Qcv]; rfl
 rw [this]
 exact Qbv _ _ JI JI fun x y h1 h2 => Prod.ext h1 h2
def QkB (a b : UInt8) : Int := if a < b then -1 else if b < a then 1 else 0
theorem Ql3 : YC QkB := by
 have e : ∀ a b : UInt8, QkB a b = Lib.compareInt a.toNat b.toNat := fun a b => by
  have h1 : (a < b) = ((a.toNat : Int) < b.toNat) := by rw [UInt8.lt_iff_toNat_lt]; simp
  have h2 : (b < a) = ((b.toNat : Int) < a.toNat) := by rw [UInt8.lt_iff_toNat_lt]; simp
  unfold QkB Lib.compareInt
  simp only [h1, h2, gt_iff_lt]
 exact ⟨fun x y => by rw [e, e]; exact JI.anti _ _, fun x y z => by rw [e, e, e]; exact JI.trans _ _ _, fun x y h => by
  rw [e] at h
  have := JI.eq _ _ h
  exact UInt8.toNat_inj.1 (by omega)⟩
theorem XU : YC Lib.compareBytes := by
 have : Lib.compareBytes = QV QkB := by
  funext x y
  induction x generalizing y with
  | nil => cases y <;> rfl
  | cons a ar ih => cases y with
   | nil => rfl
   | cons b br =>
    simp only [Lib.compareBytes, QV]
    rw [ih]
    unfold QkB
    by_cases h1 : a < b
    ·simp [h1]
    by_cases h2 : b < a
    ·simp [h1, h2]
    simp [h1, h2]
 rw [this]; exact Qby Ql3
theorem Jl : YC XK := by
 have : XK = QhR (fun x y : En => Lib.compareBytes x.2 y.2) (fun x y : En => QV Y4 x.1 y.1) := by
  funext x y; rw [XK, Qcv]; rfl
 rw [this]
 exact Qbv _ _ XU (Qby QjS) fun x y h1 h2 => Prod.ext h2 h1
end Go.Proofs.YtnkkokmmeplbgaaGreat
