/-
  Contracts: comparisons of numbers, strings, ticks, entries, 
-/
import Derived.Test.YtnkkokmmeplbgaaGreatB3
import Derived.Test.YtnkkokmmeplbgaaGreatA3
import Derived.Test.YtnkkokmmeplbgaaGreatB1
import Derived.Sort.Statements
namespace Go.Proofs.YtnkkokmmeplbgaaGreat
set_option maxRecDepth 100000
set_option maxHeartbeats 1000000
open Go.RowKit
def Xt {α : Type} (c : α → α → Int) : List α → List α → Int
 | [], [] => 0
 | [], _ :: _ => -1
 | _ :: _, [] => 1
 | a :: ar, b :: br => if c a b = 0 then Xt c ar br else c a b
section
variable {α : Type} {c : α → α → Int} {a b : List α} {k : Nat} {x y : α}
theorem Qja (e : Xt c (a.drop k) (b.drop k) = Xt c a b) (hx : a[k]? = some x) (hge : b.length ≤ k) : Xt c a b = 1 := by
 rw [← e, XC hx, List.drop_of_length_le hge]; rfl
theorem Kd (e : Xt c (a.drop k) (b.drop k) = Xt c a b) (hx : a[k]? = some x) (hy : b[k]? = some y) : Xt c a b = if c x y = 0 then Xt c (a.drop (k + 1)) (b.drop (k + 1)) else c x y := by
 rw [← e, XC hx, XC hy, Xt]
theorem Qgr (e : Xt c (a.drop k) (b.drop k) = Xt c a b) (h : a.length ≤ k) (hb : k < b.length) : Xt c a b = -1 := by
 obtain ⟨y, hy⟩ := Qq hb
 rw [← e, XC hy, List.drop_of_length_le h]; rfl
theorem QjV (e : Xt c (a.drop k) (b.drop k) = Xt c a b) (h : a.length ≤ k) (hb : b.length ≤ k) : Xt c a b = 0 := by
 rw [← e, List.drop_of_length_le h, List.drop_of_length_le hb]; rfl
end
theorem YH : ∀ (a b : Nm), Lib.compareBytes a b = if Op.bytesLess a b = true then -1 else if (!(Op.bytesLess a b || a == b)) = true then 1 else 0
 | [], [] => rfl
 | [], _ :: _ => rfl
 | _ :: _, [] => rfl
 | x :: a, y :: b => by
  have ih := YH a b
  unfold Lib.compareBytes Op.bytesLess
  by_cases h1 : x < y
  ·simp [h1]
  by_cases h2 : y < x
  ·have : x ≠ y := fun e => by subst e; exact h1 h2
   simp [h1, h2, this]
  have : x = y := by
   rw [UInt8.lt_iff_toNat_lt] at h1 h2;exact UInt8.toNat_inj.1 (by omega)
  subst this
  simp [h1, ih]
def Qav (t u : Tk) : Int := orE [Lib.compareInt t.1 u.1, Lib.compareInt t.2 u.2]
def Jh (p q : En) : Int := orE [Lib.compareBytes p.2 q.2, Xt Qav p.1 q.1]
mutual
def JF : Qp → Qp → Int
 | .mk N nm ps es, y => if orE [Lib.compareInt N y.N, Xt Lib.compareBytes nm y.nm] ≠ 0 then orE [Lib.compareInt N y.N, Xt Lib.compareBytes nm y.nm] else if Qbp ps y.ps ≠ 0 then Qbp ps y.ps else Xt Jh es y.es
def Qbp : List Qp → List Qp → Int
 | [], [] => 0
 | [], _ :: _ => -1
 | _ :: _, [] => 1
 | a :: r, b :: s => if JF a b = 0 then Qbp r s else JF a b
end
theorem Qf4 : ∀ a b : List Qp, Qbp a b = Xt JF a b
 | [], [] => by simp [Qbp, Xt]
 | [], _ :: _ => by simp [Qbp, Xt]
 | _ :: _, [] => by simp [Qbp, Xt]
 | a :: r, b :: s => by simp only [Qbp, Xt]; rw [Qf4 r s]
theorem KP (x y : Qp) : JF x y = if orE [Lib.compareInt x.N y.N, Xt Lib.compareBytes x.nm y.nm] ≠ 0 then orE [Lib.compareInt x.N y.N, Xt Lib.compareBytes x.nm y.nm] else if Xt JF x.ps y.ps ≠ 0 then Xt JF x.ps y.ps else Xt Jh x.es y.es := by
 cases x with
 | mk N nm ps es => rw [JF, Qf4]; rfl
theorem QoG (a b : Nm) : FC Tryz.prog 223 [sv a, sv b] (i64 (Lib.compareBytes a b)) := QsH (vs := [.string ⟨a.toArray⟩, .string ⟨b.toArray⟩]) (fun w => by simpa using QeG ⟨a.toArray⟩ ⟨b.toArray⟩ w)
theorem Qm8 (x : Int) : FC Tryz.prog 237 [i64 x] (bl false) := by
 refine Qh [2] Tryz.func237 rfl rfl 6 Tryz.ntmps237 (Nat.le_of_ble_eq_true rfl) ?_
 intro E hN;refine Xs ?_;refine zQ ?_;exact Qo (by simp)
theorem Qim (x : Int) : FC Tryz.prog 212 [i64 x] (bl false) := by
 refine Qh [2] Tryz.func212 rfl rfl 6 Tryz.ntmps212 (Nat.le_of_ble_eq_true rfl) ?_
 intro E hN;refine Xs ?_;refine zQ ?_;exact Qo (by simp)
theorem Qi9 (x : Nm) : FC Tryz.prog 228 [sv x] (bl false) := by
 refine Qh [2] Tryz.func228 rfl rfl 6 Tryz.ntmps228 (Nat.le_of_ble_eq_true rfl) ?_
 intro E hN;refine Xs ?_;refine zQ ?_;exact Qo (by simp)
theorem Qso (x y : Int) : FC Tryz.prog 224 [i64 x, i64 y] (i64 (Lib.compareInt x y)) := by
 refine Qh [4] Tryz.func224 rfl rfl 20 Tryz.ntmps224 (Nat.le_of_ble_eq_true rfl) ?_
 intro E hN;refine Xg ?_;refine zP (Qd (Qm8 _) rfl rfl rfl) ?_;refine Qy ?_;refine zP (Qd (Qm8 _) rfl rfl rfl) ?_;refine Xg ?_
 refine zq ?_ ?_ <;> intro h3
 ·cases h3
 refine Xk ?_
 refine zq ?_ ?_ <;> intro h4
 ·cases h4
 refine Xo ?_
 refine zq ?_ ?_ <;> intro h5
 ·refine QD ?_;refine zQ ?_;exact QZ (by unfold Lib.compareInt; simp at *; split <;> (try split) <;> omega)
 refine Xo ?_
 refine zq ?_ ?_ <;> intro h6
 ·refine QD ?_;refine zQ ?_;exact QZ (by unfold Lib.compareInt; simp at *; split <;> (try split) <;> omega)
 refine QC ?_;refine zQ ?_;exact QZ (by unfold Lib.compareInt; simp at *; split <;> (try split) <;> omega)
theorem Qh0 (x y : Int) : FC Tryz.prog 184 [i64 x, i64 y] (i64 (Lib.compareInt x y)) := by
 refine Qh [4] Tryz.func184 rfl rfl 20 Tryz.ntmps184 (Nat.le_of_ble_eq_true rfl) ?_
 intro E hN;refine Xg ?_;refine zP (Qd (Qim _) rfl rfl rfl) ?_;refine Qy ?_;refine zP (Qd (Qim _) rfl rfl rfl) ?_;refine Xg ?_
 refine zq ?_ ?_ <;> intro h3
 ·cases h3
 refine Xk ?_
 refine zq ?_ ?_ <;> intro h4
 ·cases h4
 refine Xo ?_
 refine zq ?_ ?_ <;> intro h5
 ·refine QD ?_;refine zQ ?_;exact QZ (by unfold Lib.compareInt; simp at *; split <;> (try split) <;> omega)
 refine Xo ?_
 refine zq ?_ ?_ <;> intro h6
 ·refine QD ?_;refine zQ ?_;exact QZ (by unfold Lib.compareInt; simp at *; split <;> (try split) <;> omega)
 refine QC ?_;refine zQ ?_;exact QZ (by unfold Lib.compareInt; simp at *; split <;> (try split) <;> omega)
theorem QsE (x y : Nm) : FC Tryz.prog 213 [sv x, sv y] (i64 (Lib.compareBytes x y)) := by
 refine Qh [4] Tryz.func213 rfl rfl 20 Tryz.ntmps213 (Nat.le_of_ble_eq_true rfl) ?_
 intro E hN;refine Xg ?_;refine zP (Qd (Qi9 _) rfl rfl rfl) ?_;refine Qy ?_;refine zP (Qd (Qi9 _) rfl rfl rfl) ?_;refine Xg ?_
 refine zq ?_ ?_ <;> intro h3
 ·cases h3
 refine Xk ?_
 refine zq ?_ ?_ <;> intro h4
 ·cases h4
 refine Xo ?_
 refine zq ?_ ?_ <;> intro h5
 ·have h9 := h5
  refine QD ?_;refine zQ ?_;exact QZ (by rw [YH, if_pos h9])
 have h9 := h5
 refine Xo ?_
 refine zq ?_ ?_ <;> intro h6
 ·have h11 := h6
  refine QD ?_;refine zQ ?_;exact QZ (by rw [YH, if_neg (by simp [h9]), if_pos h11])
 have h11 := h6
 refine QC ?_;refine zQ ?_;exact QZ (by rw [YH, if_neg (by simp [h9]), if_neg (by simp [h11])])
theorem Qpn (a b : Nm) : FC Tryz.prog 203 [sv a, sv b] (i64 (Lib.compareBytes a b)) := by
 refine Qh [4] Tryz.func203 rfl rfl 8 Tryz.ntmps203 (Nat.le_of_ble_eq_true rfl) ?_
 intro E hN;refine Xo ?_;refine zP (Qd (QoG a b) rfl rfl rfl) ?_;refine zS ?_;refine zQ ?_
 rfl
theorem QmG (l : List Int) : FC Tryz.prog 183 [ivs l] (i64 (orE l)) := by
 refine Qh [2] Tryz.func183 rfl rfl 18 Tryz.ntmps183 (Nat.le_of_ble_eq_true rfl) ?_
 intro E hN;refine Jq 0 rfl (fun hl0 => ?_);refine QaL ?_;refine Qm (fun x : {k : Nat // k ≤ (l).length ∧ orE (l.drop k) = orE l} => ⟨[(3, i64 0), (6, ivs l), (7, i64 l.length), (8, i64 (x.1 : Nat))], [], 0⟩) (fun x => (l).length - x.1) (⟨0, Nat.zero_le _, by simp⟩) ?_ ?_
 ·exact Qa rfl (Yf ⟨(Y6 (by simp)), rfl, (XE trivial)⟩) trivial
 rintro ⟨k, hk, hg⟩;dsimp only;refine Qy ?_
 refine zq ?_ ?_ <;> intro h6
 rotate_left
 ·have hge : (l).length ≤ k := by simpa using h6
  refine Qy ?_;refine zQ ?_;exact QZ (by rw [← hg, List.drop_of_length_le hge]; rfl)
 have hlt : k < (l).length := by simpa using h6
 obtain ⟨x, hx⟩ := Qq hlt
 have hs : orE l = if x == 0 then orE (l.drop (k + 1)) else x := by rw [← hg, XC hx]; rfl
 refine Qy ?_;refine zP (Qf rfl rfl rfl k rfl _ (Qi hx) rfl) ?_;refine X3 ?_
 refine zq ?_ ?_ <;> intro h9
 ·refine QC ?_;refine zQ ?_;exact QZ (by rw [hs, if_neg (by simp_all)])
 have hn : orE (l.drop (k + 1)) = orE l := by rw [hs, if_pos (by simpa using h9)]
 refine QC ?_;refine Qb ?_;exact ⟨⟨k + 1, hlt, hn⟩, Qa rfl (JZ ⟨X5, rfl, trivial⟩) trivial, by dsimp only; omega⟩
theorem Qrb (a b : List Nm) : FC Tryz.prog 185 [XS a, XS b] (i64 (Xt Lib.compareBytes a b)) := by
 refine Qh [4] Tryz.func185 rfl rfl 36 Tryz.ntmps185 (Nat.le_of_ble_eq_true rfl) ?_
 intro E hN;refine Jq 0 rfl (fun hl0 => ?_);refine Jq 1 rfl (fun hl1 => ?_);refine Jx ?_;refine Qm (fun x : {k : Nat // k ≤ (a).length ∧ k ≤ b.length ∧ Xt Lib.compareBytes (a.drop k) (b.drop k) = Xt Lib.compareBytes a b} => ⟨[(0, XS a), (1, XS b), (9, XS a), (10, i64 a.length), (11, i64 (x.1 : Nat))], [], 0⟩) (fun x => (a).length - x.1) (⟨0, Nat.zero_le _, by simp⟩) ?_ ?_
 ·exact Qa rfl (JZ ⟨(Y6 (by simp)), rfl, (XE trivial)⟩) trivial
 rintro ⟨k, hk, hg⟩;dsimp only;obtain ⟨hkb, hg⟩ := hg;refine Qy ?_
 refine zq ?_ ?_ <;> intro h7
 rotate_left
 ·have hge : (a).length ≤ k := by simpa using h7
  refine Xs ?_
  refine zq ?_ ?_ <;> intro h19
  ·have h11 := h19
   refine QD ?_;refine zQ ?_;exact QZ (Qgr hg hge (by simp at h11; omega)).symm
  have h11 := h19
  refine QC ?_;refine zQ ?_;exact QZ (QjV hg hge (by simp at h11; omega)).symm
 have hlt : k < (a).length := by simpa using h7
 obtain ⟨x, hx⟩ := Qq hlt;refine Xk ?_;refine zP (Qf rfl rfl rfl k rfl _ (Qi hx) rfl) ?_;refine Jx ?_
 refine zq ?_ ?_ <;> intro h11
 ·have hgb : b.length ≤ k := by simpa using h11
  refine QD ?_;refine zQ ?_;exact QZ (Qja hg hx hgb).symm
 have hlb : k < b.length := by simpa using h11
 obtain ⟨y, hy⟩ := Qq hlb
 have hs := Kd hg hx hy
 refine Qy ?_;refine zP (Qf rfl rfl rfl k rfl _ (Qi hy) rfl) ?_;refine Xg ?_;refine zP (Qd (QsE x y) rfl rfl rfl) ?_;refine Xg ?_
 refine zq ?_ ?_ <;> intro h15
 ·have h8 : ¬ Lib.compareBytes x y = 0 := by simpa using h15
  refine QC ?_;refine zQ ?_;exact QZ (by rw [hs, if_neg h8])
 have h8 : Lib.compareBytes x y = 0 := by simpa using h15
 have hn : Xt Lib.compareBytes (a.drop (k + 1)) (b.drop (k + 1)) = Xt Lib.compareBytes a b := by rw [hs, if_pos h8]
 refine QC ?_;refine Qb ?_;exact ⟨⟨k + 1, hlt, hlb, hn⟩, Qa rfl (YO ⟨X5, rfl, trivial⟩) trivial, by dsimp only; omega⟩
theorem Qqd {f : FuncId} [Q8 Tryz.prog f] {c : Tk → Tk → Int} (a b : List Tk) (hc : ∀ x ∈ a, ∀ y, FC Tryz.prog f [.agg (tkC x), .agg (tkC y)] (i64 (c x y))) : FC Tryz.prog 204 [tks a, tks b, .fn f []] (i64 (Xt c a b)) := by
 refine Qh [6] Tryz.func204 rfl rfl 39 Tryz.ntmps204 (Nat.le_of_ble_eq_true rfl) ?_
 intro E hN;refine Jq 0 rfl (fun hl0 => ?_);refine Jq 1 rfl (fun hl1 => ?_);refine Jx ?_;refine Qm (fun x : {k : Nat // k ≤ (a).length ∧ k ≤ b.length ∧ Xt c (a.drop k) (b.drop k) = Xt c a b} => ⟨[(0, tks a), (1, tks b), (2, .fn f []), (11, tks a), (12, i64 a.length), (13, i64 (x.1 : Nat))], [], 0⟩) (fun x => (a).length - x.1) (⟨0, Nat.zero_le _, by simp⟩) ?_ ?_
 ·exact Qa rfl (YO ⟨(Y6 (by simp)), rfl, (XE trivial)⟩) trivial
 rintro ⟨k, hk, hg⟩;dsimp only;obtain ⟨hkb, hg⟩ := hg;refine Qy ?_
 refine zq ?_ ?_ <;> intro h8
 rotate_left
 ·have hge : (a).length ≤ k := by simpa using h8
  refine Xs ?_
  refine zq ?_ ?_ <;> intro h26
  ·have h11 := h26
   refine QD ?_;refine zQ ?_;exact QZ (Qgr hg hge (by simp at h11; omega)).symm
  have h11 := h26
  refine QC ?_;refine zQ ?_;exact QZ (QjV hg hge (by simp at h11; omega)).symm
 have hlt : k < (a).length := by simpa using h8
 obtain ⟨x, hx⟩ := Qq hlt;refine Xk ?_;refine zP (Qf rfl rfl rfl k rfl _ (Qi hx) rfl) ?_;refine WV ?_
 refine zq ?_ ?_ <;> intro h14
 ·have hgb : b.length ≤ k := by simpa using h14
  refine QD ?_;refine zQ ?_;exact QZ (Qja hg hx hgb).symm
 have hlb : k < b.length := by simpa using h14
 obtain ⟨y, hy⟩ := Qq hlb
 have hs := Kd hg hx hy
 refine Qy ?_;refine zP (Qf rfl rfl rfl k rfl _ (Qi hy) rfl) ?_;refine X3 ?_;refine zP (Qar (hc x (List.mem_of_getElem? hx) y) rfl rfl rfl rfl) ?_;refine Xg ?_
 refine zq ?_ ?_ <;> intro h22
 ·have h8 : ¬ c x y = 0 := by simpa using h22
  refine QC ?_;refine zQ ?_;exact QZ (by rw [hs, if_neg h8])
 have h8 : c x y = 0 := by simpa using h22
 have hn : Xt c (a.drop (k + 1)) (b.drop (k + 1)) = Xt c a b := by rw [hs, if_pos h8]
 refine QC ?_;refine Qb ?_;exact ⟨⟨k + 1, hlt, hlb, hn⟩, Qa rfl (YO (XE ⟨X5, rfl, trivial⟩)) trivial, by dsimp only; omega⟩
theorem QqK {f : FuncId} [Q8 Tryz.prog f] {c : En → En → Int} (a b : List En) (hc : ∀ x ∈ a, ∀ y, FC Tryz.prog f [.agg (K3 x), .agg (K3 y)] (i64 (c x y))) : FC Tryz.prog 187 [WA a, WA b, .fn f []] (i64 (Xt c a b)) := by
 refine Qh [6] Tryz.func187 rfl rfl 39 Tryz.ntmps187 (Nat.le_of_ble_eq_true rfl) ?_
 intro E hN;refine Jq 0 rfl (fun hl0 => ?_);refine Jq 1 rfl (fun hl1 => ?_);refine Jx ?_;refine Qm (fun x : {k : Nat // k ≤ (a).length ∧ k ≤ b.length ∧ Xt c (a.drop k) (b.drop k) = Xt c a b} => ⟨[(0, WA a), (1, WA b), (2, .fn f []), (11, WA a), (12, i64 a.length), (13, i64 (x.1 : Nat))], [], 0⟩) (fun x => (a).length - x.1) (⟨0, Nat.zero_le _, by simp⟩) ?_ ?_
 ·exact Qa rfl (YO ⟨(Y6 (by simp)), rfl, (XE trivial)⟩) trivial
 rintro ⟨k, hk, hg⟩;dsimp only;obtain ⟨hkb, hg⟩ := hg;refine Qy ?_
 refine zq ?_ ?_ <;> intro h8
 rotate_left
 ·have hge : (a).length ≤ k := by simpa using h8
  refine Xs ?_
  refine zq ?_ ?_ <;> intro h26
  ·have h11 := h26
   refine QD ?_;refine zQ ?_;exact QZ (Qgr hg hge (by simp at h11; omega)).symm
  have h11 := h26
  refine QC ?_;refine zQ ?_;exact QZ (QjV hg hge (by simp at h11; omega)).symm
 have hlt : k < (a).length := by simpa using h8
 obtain ⟨x, hx⟩ := Qq hlt;refine Xk ?_;refine zP (Qf rfl rfl rfl k rfl _ (Qi hx) rfl) ?_;refine WV ?_
 refine zq ?_ ?_ <;> intro h14
 ·have hgb : b.length ≤ k := by simpa using h14
  refine QD ?_;refine zQ ?_;exact QZ (Qja hg hx hgb).symm
 have hlb : k < b.length := by simpa using h14
 obtain ⟨y, hy⟩ := Qq hlb
 have hs := Kd hg hx hy
 refine Qy ?_;refine zP (Qf rfl rfl rfl k rfl _ (Qi hy) rfl) ?_;refine X3 ?_;refine zP (Qar (hc x (List.mem_of_getElem? hx) y) rfl rfl rfl rfl) ?_;refine Xg ?_
 refine zq ?_ ?_ <;> intro h22
 ·have h8 : ¬ c x y = 0 := by simpa using h22
  refine QC ?_;refine zQ ?_;exact QZ (by rw [hs, if_neg h8])
 have h8 : c x y = 0 := by simpa using h22
 have hn : Xt c (a.drop (k + 1)) (b.drop (k + 1)) = Xt c a b := by rw [hs, if_pos h8]
 refine QC ?_;refine Qb ?_;exact ⟨⟨k + 1, hlt, hlb, hn⟩, Qa rfl (YO (XE ⟨X5, rfl, trivial⟩)) trivial, by dsimp only; omega⟩
theorem QrN {f : FuncId} [Q8 Tryz.prog f] {c : Qp → Qp → Int} (a b : List Qp) (hc : ∀ x ∈ a, ∀ y, FC Tryz.prog f [.agg (QF x), .agg (QF y)] (i64 (c x y))) : FC Tryz.prog 186 [Y8 a, Y8 b, .fn f []] (i64 (Xt c a b)) := by
 refine Qh [6] Tryz.func186 rfl rfl 39 Tryz.ntmps186 (Nat.le_of_ble_eq_true rfl) ?_
 intro E hN;refine Jq 0 rfl (fun hl0 => ?_);refine Jq 1 rfl (fun hl1 => ?_);refine Jx ?_;refine Qm (fun x : {k : Nat // k ≤ (a).length ∧ k ≤ b.length ∧ Xt c (a.drop k) (b.drop k) = Xt c a b} => ⟨[(0, Y8 a), (1, Y8 b), (2, .fn f []), (11, Y8 a), (12, i64 a.length), (13, i64 (x.1 : Nat))], [], 0⟩) (fun x => (a).length - x.1) (⟨0, Nat.zero_le _, by simp⟩) ?_ ?_
 ·exact Qa rfl (YO ⟨(Y6 (by simp)), rfl, (XE trivial)⟩) trivial
 rintro ⟨k, hk, hg⟩;dsimp only;obtain ⟨hkb, hg⟩ := hg;refine Qy ?_
 refine zq ?_ ?_ <;> intro h8
 rotate_left
 ·have hge : (a).length ≤ k := by simpa using h8
  refine Xs ?_
  refine zq ?_ ?_ <;> intro h26
  ·have h11 := h26
   refine QD ?_;refine zQ ?_;exact QZ (Qgr hg hge (by simp at h11; omega)).symm
  have h11 := h26
  refine QC ?_;refine zQ ?_;exact QZ (QjV hg hge (by simp at h11; omega)).symm
 have hlt : k < (a).length := by simpa using h8
 obtain ⟨x, hx⟩ := Qq hlt;refine Xk ?_;refine zP (Qf rfl rfl rfl k rfl _ (QR hx) rfl) ?_;refine WV ?_
 refine zq ?_ ?_ <;> intro h14
 ·have hgb : b.length ≤ k := by simpa using h14
  refine QD ?_;refine zQ ?_;exact QZ (Qja hg hx hgb).symm
 have hlb : k < b.length := by simpa using h14
 obtain ⟨y, hy⟩ := Qq hlb
 have hs := Kd hg hx hy
 refine Qy ?_;refine zP (Qf rfl rfl rfl k rfl _ (QR hy) rfl) ?_;refine X3 ?_;refine zP (Qar (hc x (List.mem_of_getElem? hx) y) rfl rfl rfl rfl) ?_;refine Xg ?_
 refine zq ?_ ?_ <;> intro h22
 ·have h8 : ¬ c x y = 0 := by simpa using h22
  refine QC ?_;refine zQ ?_;exact QZ (by rw [hs, if_neg h8])
 have h8 : c x y = 0 := by simpa using h22
 have hn : Xt c (a.drop (k + 1)) (b.drop (k + 1)) = Xt c a b := by rw [hs, if_pos h8]
 refine QC ?_;refine Qb ?_;exact ⟨⟨k + 1, hlt, hlb, hn⟩, Qa rfl (YO (XE ⟨X5, rfl, trivial⟩)) trivial, by dsimp only; omega⟩
theorem QqV (x y : Tk) : FC Tryz.prog 205 [.agg (tkC x), .agg (tkC y)] (i64 (Qav x y)) := by
 refine Qh [4] Tryz.func205 rfl rfl 17 Tryz.ntmps205 (Nat.le_of_ble_eq_true rfl) ?_
 intro E hN;refine Xg ?_;refine zD 12 ?_;refine QC ?_;refine zp (Qd (Qso _ _) rfl rfl rfl) ?_;refine QC ?_;refine zp (Qd (Qh0 _ _) rfl rfl rfl) ?_;refine zp (QG rfl rfl rfl rfl (by exact rfl) (by decide) (by decide)) ?_;refine zp (Qd (QmG [Lib.compareInt x.1 y.1, Lib.compareInt x.2 y.2]) rfl rfl rfl) ?_;refine zS ?_;refine zQ ?_
 rfl
theorem QkD (x y : En) : FC Tryz.prog 174 [.agg (K3 x), .agg (K3 y)] (i64 (Jh x y)) := by
 refine Qh [4] Tryz.func174 rfl rfl 17 Tryz.ntmps174 (Nat.le_of_ble_eq_true rfl) ?_
 intro E hN;refine Xg ?_;refine zD 12 ?_;refine QC ?_;refine zp (Qd (Qpn _ _) rfl rfl rfl) ?_;refine QC ?_;refine zp (Qd (Qqd x.1 y.1 (fun u _ v => QqV u v)) rfl rfl rfl) ?_;refine zp (QG rfl rfl rfl rfl (by exact rfl) (by decide) (by decide)) ?_;refine zp (Qd (QmG [Lib.compareBytes x.2 y.2, Xt Qav x.1 y.1]) rfl rfl rfl) ?_;refine zS ?_;refine zQ ?_
 rfl
theorem Qre (x y : Qp) (ih : ∀ u ∈ x.ps, ∀ v, FC Tryz.prog 147 [.agg (QF u), .agg (QF v)] (i64 (JF u v))) : FC Tryz.prog 147 [.agg (QF x), .agg (QF y)] (i64 (JF x y)) := by
 refine Qh [4] Tryz.func147 rfl rfl 35 Tryz.ntmps147 (Nat.le_of_ble_eq_true rfl) ?_
 intro E hN;refine Xo ?_;refine zD 12 ?_;refine QC ?_;refine zp (Qd (Qh0 _ _) rfl rfl rfl) ?_;refine QC ?_;refine zp (Qd (Qrb _ _) rfl rfl rfl) ?_;refine zp (QG rfl rfl rfl rfl (by exact rfl) (by decide) (by decide)) ?_;refine zp (Qd (QmG [Lib.compareInt x.N y.N, Xt Lib.compareBytes x.nm y.nm]) rfl rfl rfl) ?_;refine Xg ?_
 refine zq ?_ ?_ <;> intro h17
 ·have h2 := h17
  refine QC ?_;refine zQ ?_;exact QZ (by rw [KP, if_pos (by simpa using h2)])
 have h2 := h17
 refine Xo ?_;refine zP (Qd (QrN x.ps y.ps ih) rfl rfl rfl) ?_;refine Xg ?_
 refine zq ?_ ?_ <;> intro h23
 ·have h5 := h23
  refine QC ?_;refine zQ ?_;exact QZ (by rw [KP, if_neg (by simpa using h2), if_pos (by simpa using h5)])
 have h5 := h23
 refine Xg ?_;refine zP (Qd (QqK x.es y.es (fun u _ v => QkD u v)) rfl rfl rfl) ?_;refine zS ?_;refine zQ ?_;exact QZ (by rw [KP, if_neg (by simpa using h2), if_neg (by simpa using h5)])
theorem Qfx (x y : Qp) : FC Tryz.prog 147 [.agg (QF x), .agg (QF y)] (i64 (JF x y)) := Qre x y (fun u _ v => Qfx u v)
termination_by x
decreasing_by exact Qp.sizeOf_ps ‹_›
def WH (x y : Qp) : Bool := JF x y == 0
theorem Qfu (x y : Qp) : FC Tryz.prog 116 [.agg (QF x), .agg (QF y)] (bl (WH x y)) := by
 refine Qh [4] Tryz.func116 rfl rfl 9 Tryz.ntmps116 (Nat.le_of_ble_eq_true rfl) ?_
 intro E hN;refine Xs ?_;refine zP (Qd (Qfx x y) rfl rfl rfl) ?_;refine QH ?_;refine zQ ?_
 rfl
structure WK {α : Type} (c : α → α → Int) : Prop where
 anti : ∀ x y, c x y ≤ 0 ↔ 0 ≤ c y x
 trans : ∀ x y z, c x y ≤ 0 → c y z ≤ 0 → c x z ≤ 0
 eq : ∀ x y, c x y = 0 → x = y
theorem WK.refl {α : Type} {c : α → α → Int} (h : WK c) (x : α) : c x x = 0 := by
 have := h.anti x x
 omega
theorem WK.zero {α : Type} {c : α → α → Int} (h : WK c) {x y : α} (e : c x y = 0) : c y x = 0 := by
 obtain rfl := h.eq _ _ e;exact e
theorem WK.swo {α β : Type} {c : α → α → Int} (h : WK c) (f : β → α) : Sort.SWO (fun x y : β => decide (c (f x) (f y) < 0)) where
 irrefl x := by simp [h.refl]
 trans x y z h1 h2 := by
  simp only [decide_eq_true_eq] at *
  have a1 := h.anti (f x) (f z)
  have a2 := h.anti (f z) (f x)
  have a3 := h.anti (f y) (f z)
  have a4 := h.anti (f z) (f y)
  by_cases hz : c (f z) (f x) ≤ 0
  ·have := h.trans _ _ _ hz (show c (f x) (f y) ≤ 0 by omega)
   omega
  omega
 ntrans x y z h1 h2 := by
  simp only [decide_eq_false_iff_not] at *
  have a1 := h.anti (f y) (f x)
  have a2 := h.anti (f z) (f y)
  have a3 := h.anti (f z) (f x)
  have := h.trans (f z) (f y) (f x) (by omega) (by omega)
  omega
def Qm0 {α : Type} (c1 c2 : α → α → Int) (x y : α) : Int := if c1 x y = 0 then c2 x y else c1 x y
theorem Qfe {α : Type} {c : α → α → Int} (h : WK c) : WK (Xt c) where
 anti x y := by
  induction x generalizing y with
  | nil => cases y <;> simp [Xt]
  | cons a ar ih =>
   cases y with
   | nil => simp [Xt]
   | cons b br =>
    simp only [Xt]
    have a1 := h.anti a b
    have a2 := h.anti b a
    by_cases e : c a b = 0
    ·rw [if_pos e, if_pos (h.zero e)]; exact ih br
    have e2 : c b a ≠ 0 := fun e2 => e (h.zero e2)
    rw [if_neg e, if_neg e2]; exact a1
 trans x y z h1 h2 := by
  induction x generalizing y z with
  | nil => cases z <;> simp [Xt]
  | cons a ar ih =>
   cases y with
   | nil => simp [Xt] at h1
   | cons b br =>
    cases z with
    | nil => simp [Xt] at h2
    | cons d dr =>
     simp only [Xt] at *
     have t := h.trans a b d
     have t2 := h.trans b d a
     have t3 := h.trans d a b
     have p1 := h.anti a b
     have p2 := h.anti b a
     have p3 := h.anti b d
     have p4 := h.anti d b
     have p5 := h.anti a d
     have p6 := h.anti d a
     by_cases e1 : c a b = 0
     ·obtain rfl := h.eq _ _ e1
      rw [if_pos e1] at h1
      by_cases e2 : c a d = 0
      ·rw [if_pos e2] at h2 ⊢; exact ih _ _ h1 h2
      rw [if_neg e2] at h2 ⊢; exact h2
     rw [if_neg e1] at h1
     by_cases e2 : c b d = 0
     ·obtain rfl := h.eq _ _ e2
      rw [if_neg e1]; exact h1
     rw [if_neg e2] at h2
     have e3 : c a d ≠ 0 := by
      intro e3;obtain rfl := h.eq _ _ e3
      omega
     rw [if_neg e3]; exact t h1 h2
 eq x y e := by
  induction x generalizing y with
  | nil => cases y <;> simp [Xt] at *
  | cons a ar ih =>
   cases y with
   | nil => simp [Xt] at e
   | cons b br =>
    simp only [Xt] at e
    by_cases e1 : c a b = 0
    ·rw [if_pos e1] at e; rw [h.eq _ _ e1, ih _ e]
    rw [if_neg e1] at e; exact absurd e e1
theorem Km : WK Lib.compareInt where
 anti x y := by unfold Lib.compareInt; split <;> split <;> (try split) <;> omega
 trans x y z := by unfold Lib.compareInt; split <;> split <;> (try split) <;> (try split) <;> (try split) <;> omega
 eq x y := by unfold Lib.compareInt; split <;> (try split) <;> omega
theorem Qe5 {α β γ : Type} {c1 : β → β → Int} {c2 : γ → γ → Int} (f : α → β) (g : α → γ) (h1 : WK c1) (h2 : WK c2) (inj : ∀ x y, f x = f y → g x = g y → x = y) :
  WK (Qm0 (fun x y => c1 (f x) (f y)) (fun x y => c2 (g x) (g y))) where
 anti x y := by
  simp only [Qm0]
  have a1 := h1.anti (f x) (f y)
  have a2 := h1.anti (f y) (f x)
  by_cases e : c1 (f x) (f y) = 0
  ·rw [if_pos e, if_pos (h1.zero e)]; exact h2.anti _ _
  have e2 : c1 (f y) (f x) ≠ 0 := fun e2 => e (h1.zero e2)
  rw [if_neg e, if_neg e2]; exact a1
 trans x y z k1 k2 := by
  simp only [Qm0] at *
  by_cases e1 : c1 (f x) (f y) = 0
  ·have q := h1.eq _ _ e1
   rw [if_pos e1] at k1;rw [q]
   by_cases e2 : c1 (f y) (f z) = 0
   ·rw [if_pos e2] at k2 ⊢; exact h2.trans _ _ _ k1 k2
   rw [if_neg e2] at k2 ⊢; exact k2
  rw [if_neg e1] at k1
  by_cases e2 : c1 (f y) (f z) = 0
  ·have q := h1.eq _ _ e2
   rw [← q, if_neg e1]; exact k1
  rw [if_neg e2] at k2
  have e3 : c1 (f x) (f z) ≠ 0 := by
   intro e3
   have q := h1.eq _ _ e3
   rw [q] at k1 e1
   have := h1.anti (f y) (f z)
   have := h1.anti (f z) (f y)
   omega
  rw [if_neg e3]; exact h1.trans _ _ _ k1 k2
 eq x y e := by
  simp only [Qm0] at e
  by_cases e1 : c1 (f x) (f y) = 0
  ·rw [if_pos e1] at e; exact inj _ _ (h1.eq _ _ e1) (h2.eq _ _ e)
  rw [if_neg e1] at e; exact absurd e e1
theorem Qf9 (a b : Int) : orE [a, b] = if a = 0 then b else a := by
 simp only [orE]
 by_cases h : a = 0 <;> by_cases h2 : b = 0 <;> simp [h, h2]
theorem Qp9 : WK Qav := by
 have : Qav = Qm0 (fun x y : Tk => Lib.compareInt x.1 y.1) (fun x y : Tk => Lib.compareInt x.2 y.2) := by
  funext x y; rw [Qav, Qf9]; rfl
 rw [this]
 exact Qe5 _ _ Km Km fun x y h1 h2 => Prod.ext h1 h2
def Qq0 (a b : UInt8) : Int := if a < b then -1 else if b < a then 1 else 0
theorem Qsx : WK Qq0 := by
 have e : ∀ a b : UInt8, Qq0 a b = Lib.compareInt a.toNat b.toNat := fun a b => by
  have h1 : (a < b) = ((a.toNat : Int) < b.toNat) := by rw [UInt8.lt_iff_toNat_lt]; simp
  have h2 : (b < a) = ((b.toNat : Int) < a.toNat) := by rw [UInt8.lt_iff_toNat_lt]; simp
  unfold Qq0 Lib.compareInt
  simp only [h1, h2, gt_iff_lt]
 exact ⟨fun x y => by rw [e, e]; exact Km.anti _ _, fun x y z => by rw [e, e, e]; exact Km.trans _ _ _, fun x y h => by
  rw [e] at h
  have := Km.eq _ _ h
  exact UInt8.toNat_inj.1 (by omega)⟩
theorem J9 : WK Lib.compareBytes := by
 have : Lib.compareBytes = Xt Qq0 := by
  funext x y
  induction x generalizing y with
  | nil => cases y <;> rfl
  | cons a ar ih => cases y with
   | nil => rfl
   | cons b br =>
    simp only [Lib.compareBytes, Xt]
    rw [ih]
    unfold Qq0
    by_cases h1 : a < b
    ·simp [h1]
    by_cases h2 : b < a
    ·simp [h1, h2]
    simp [h1, h2]
 rw [this]; exact Qfe Qsx
theorem Jo : WK Jh := by
 have : Jh = Qm0 (fun x y : En => Lib.compareBytes x.2 y.2) (fun x y : En => Xt Qav x.1 y.1) := by
  funext x y; rw [Jh, Qf9]; rfl
 rw [this]
 exact Qe5 _ _ J9 (Qfe Qp9) fun x y h1 h2 => Prod.ext h2 h1
end Go.Proofs.YtnkkokmmeplbgaaGreat
