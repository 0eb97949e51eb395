/-
  Contracts: comparisons of numbers, strings, ticks, entries, 
-/
import Derived.Test.YtaecccdkjmipeaaGreatB3
import Derived.Test.YtaecccdkjmipeaaGreatA3
import Derived.Test.YtaecccdkjmipeaaGreatA6
import Derived.Sort.Statements
namespace Go.Proofs.YtaecccdkjmipeaaGreat
set_option maxRecDepth 100000
set_option maxHeartbeats 1000000
open Go.RowKit
def Jp {α : Type} (c : α → α → Int) : List α → List α → Int
 | [], [] => 0
 | [], _ :: _ => -1
 | _ :: _, [] => 1
 | a :: ar, b :: br => if c a b = 0 then Jp c ar br else c a b
section
variable {α : Type} {c : α → α → Int} {a b : List α} {k : Nat} {x y : α}
theorem QjL (e : Jp c (a.drop k) (b.drop k) = Jp c a b) (hx : a[k]? = some x) (hge : b.length ≤ k) : Jp c a b = 1 := by
 rw [← e, XL hx, List.drop_of_length_le hge]; rfl
theorem QgB (e : Jp c (a.drop k) (b.drop k) = Jp c a b) (hx : a[k]? = some x) (hy : b[k]? = some y) : Jp c a b = if c x y = 0 then Jp c (a.drop (k + 1)) (b.drop (k + 1)) else c x y := by
 rw [← e, XL hx, XL hy, Jp]
theorem QgJ (e : Jp c (a.drop k) (b.drop k) = Jp c a b) (h : a.length ≤ k) (hb : k < b.length) : Jp c a b = -1 := by
 obtain ⟨y, hy⟩ := Qk hb
 rw [← e, XL hy, List.drop_of_length_le h]; rfl
theorem Qj7 (e : Jp c (a.drop k) (b.drop k) = Jp c a b) (h : a.length ≤ k) (hb : b.length ≤ k) : Jp c a b = 0 := by
 rw [← e, List.drop_of_length_le h, List.drop_of_length_le hb]; rfl
end
theorem Ky : ∀ (a b : Nm), Lib.compareBytes a b = if Op.bytesLess a b = true then -1 else if (!(Op.bytesLess a b || a == b)) = true then 1 else 0
 | [], [] => rfl
 | [], _ :: _ => rfl
 | _ :: _, [] => rfl
 | x :: a, y :: b => by
  have ih := Ky a b
  unfold Lib.compareBytes Op.bytesLess
  by_cases h1 : x < y
  ·simp [h1]
  by_cases h2 : y < x
  ·have : x ≠ y := fun e => by subst e; exact h1 h2
   simp [h1, h2, this]
  have : x = y := by
   rw [UInt8.lt_iff_toNat_lt] at h1 h2
   exact UInt8.toNat_inj.1 (by omega)
  subst this
  simp [h1, ih]
def Qhy (t u : Tk) : Int := orE [Lib.compareInt t.1 u.1, Lib.compareInt t.2 u.2]
def Ku (p q : En) : Int := orE [Lib.compareBytes p.2 q.2, Jp Qhy p.1 q.1]
mutual
def Jk : Qn → Qn → Int
 | .mk N nm ps es, y => if orE [Lib.compareInt N y.N, Jp Lib.compareBytes nm y.nm] ≠ 0 then orE [Lib.compareInt N y.N, Jp Lib.compareBytes nm y.nm] else if Qbe ps y.ps ≠ 0 then Qbe ps y.ps else Jp Ku es y.es
def Qbe : List Qn → List Qn → Int
 | [], [] => 0
 | [], _ :: _ => -1
 | _ :: _, [] => 1
 | a :: r, b :: s => if Jk a b = 0 then Qbe r s else Jk a b
end
theorem Qf1 : ∀ a b : List Qn, Qbe a b = Jp Jk a b
 | [], [] => by simp [Qbe, Jp]
 | [], _ :: _ => by simp [Qbe, Jp]
 | _ :: _, [] => by simp [Qbe, Jp]
 | a :: r, b :: s => by simp only [Qbe, Jp]; rw [Qf1 r s]
theorem Qb6 (x y : Qn) : Jk x y = if orE [Lib.compareInt x.N y.N, Jp Lib.compareBytes x.nm y.nm] ≠ 0 then orE [Lib.compareInt x.N y.N, Jp Lib.compareBytes x.nm y.nm] else if Jp Jk x.ps y.ps ≠ 0 then Jp Jk x.ps y.ps else Jp Ku x.es y.es := by
 cases x with
 | mk N nm ps es => rw [Jk, Qf1]; rfl
theorem Qpw (a b : Nm) : FC Tryz.prog 157 [sv a, sv b] (i64 (Lib.compareBytes a b)) := Qui (vs := [.string ⟨a.toArray⟩, .string ⟨b.toArray⟩]) (fun w => by simpa using Qe2 ⟨a.toArray⟩ ⟨b.toArray⟩ w)
theorem QoK (x : Int) : FC Tryz.prog 176 [i64 x] (bl false) := by
 refine Qd [2] Tryz.func176 rfl rfl 6 Tryz.ntmps176 (Nat.le_of_ble_eq_true rfl) ?_
 intro E hN
 refine XN ?_; refine zQ ?_
 exact Qt (by simp)
theorem Qiy (x : Int) : FC Tryz.prog 125 [i64 x] (bl false) := by
 refine Qd [2] Tryz.func125 rfl rfl 6 Tryz.ntmps125 (Nat.le_of_ble_eq_true rfl) ?_
 intro E hN
 refine XN ?_; refine zQ ?_
 exact Qt (by simp)
theorem Qkw (x : Nm) : FC Tryz.prog 156 [sv x] (bl false) := by
 refine Qd [2] Tryz.func156 rfl rfl 6 Tryz.ntmps156 (Nat.le_of_ble_eq_true rfl) ?_
 intro E hN
 refine XN ?_; refine zQ ?_
 exact Qt (by simp)
theorem QtT (x y : Int) : FC Tryz.prog 158 [i64 x, i64 y] (i64 (Lib.compareInt x y)) := by
 refine Qd [4] Tryz.func158 rfl rfl 20 Tryz.ntmps158 (Nat.le_of_ble_eq_true rfl) ?_
 intro E hN
 refine Xz ?_; refine zP (Qc (QoK _) rfl rfl rfl) ?_; refine QA ?_; refine zP (Qc (QoK _) rfl rfl rfl) ?_; refine Xz ?_
 refine zq ?_ ?_ <;> intro h3
 ·
  cases h3
 refine Je ?_
 refine zq ?_ ?_ <;> intro h4
 ·
  cases h4
 refine XJ ?_
 refine zq ?_ ?_ <;> intro h5
 ·
  refine QC ?_; refine zQ ?_
  exact Q2 (by unfold Lib.compareInt; simp at *; split <;> (try split) <;> omega)
 refine XJ ?_
 refine zq ?_ ?_ <;> intro h6
 ·
  refine QC ?_; refine zQ ?_
  exact Q2 (by unfold Lib.compareInt; simp at *; split <;> (try split) <;> omega)
 refine QJ ?_; refine zQ ?_
 exact Q2 (by unfold Lib.compareInt; simp at *; split <;> (try split) <;> omega)
theorem Qjw (x y : Int) : FC Tryz.prog 82 [i64 x, i64 y] (i64 (Lib.compareInt x y)) := by
 refine Qd [4] Tryz.func82 rfl rfl 20 Tryz.ntmps82 (Nat.le_of_ble_eq_true rfl) ?_
 intro E hN
 refine Xz ?_; refine zP (Qc (Qiy _) rfl rfl rfl) ?_; refine QA ?_; refine zP (Qc (Qiy _) rfl rfl rfl) ?_; refine Xz ?_
 refine zq ?_ ?_ <;> intro h3
 ·
  cases h3
 refine Je ?_
 refine zq ?_ ?_ <;> intro h4
 ·
  cases h4
 refine XJ ?_
 refine zq ?_ ?_ <;> intro h5
 ·
  refine QC ?_; refine zQ ?_
  exact Q2 (by unfold Lib.compareInt; simp at *; split <;> (try split) <;> omega)
 refine XJ ?_
 refine zq ?_ ?_ <;> intro h6
 ·
  refine QC ?_; refine zQ ?_
  exact Q2 (by unfold Lib.compareInt; simp at *; split <;> (try split) <;> omega)
 refine QJ ?_; refine zQ ?_
 exact Q2 (by unfold Lib.compareInt; simp at *; split <;> (try split) <;> omega)
theorem Quc (x y : Nm) : FC Tryz.prog 126 [sv x, sv y] (i64 (Lib.compareBytes x y)) := by
 refine Qd [4] Tryz.func126 rfl rfl 20 Tryz.ntmps126 (Nat.le_of_ble_eq_true rfl) ?_
 intro E hN
 refine Xz ?_; refine zP (Qc (Qkw _) rfl rfl rfl) ?_; refine QA ?_; refine zP (Qc (Qkw _) rfl rfl rfl) ?_; refine Xz ?_
 refine zq ?_ ?_ <;> intro h3
 ·
  cases h3
 refine Je ?_
 refine zq ?_ ?_ <;> intro h4
 ·
  cases h4
 refine XJ ?_
 refine zq ?_ ?_ <;> intro h5
 ·
  have h9 := h5
  refine QC ?_; refine zQ ?_
  exact Q2 (by rw [Ky, if_pos h9])
 have h9 := h5
 refine XJ ?_
 refine zq ?_ ?_ <;> intro h6
 ·
  have h11 := h6
  refine QC ?_; refine zQ ?_
  exact Q2 (by rw [Ky, if_neg (by simp [h9]), if_pos h11])
 have h11 := h6
 refine QJ ?_; refine zQ ?_
 exact Q2 (by rw [Ky, if_neg (by simp [h9]), if_neg (by simp [h11])])
theorem Qqg (a b : Nm) : FC Tryz.prog 127 [sv a, sv b] (i64 (Lib.compareBytes a b)) := by
 refine Qd [4] Tryz.func127 rfl rfl 8 Tryz.ntmps127 (Nat.le_of_ble_eq_true rfl) ?_
 intro E hN
 refine XJ ?_; refine zP (Qc (Qpw a b) rfl rfl rfl) ?_; refine zS ?_; refine zQ ?_
 rfl
theorem Qm3 (l : List Int) : FC Tryz.prog 81 [ivs l] (i64 (orE l)) := by
 refine Qd [2] Tryz.func81 rfl rfl 18 Tryz.ntmps81 (Nat.le_of_ble_eq_true rfl) ?_
 intro E hN
 refine JK 0 rfl (fun hl0 => ?_)
 refine QeT ?_
 refine Qi (fun x : {k : Nat // k ≤ (l).length ∧ orE (l.drop k) = orE l} => ⟨[(3, i64 0), (6, ivs l), (7, i64 l.length), (8, i64 (x.1 : Nat))], [], 0⟩) (fun x => (l).length - x.1) (⟨0, Nat.zero_le _, by simp⟩) ?_ ?_
 ·
  exact Qa rfl (Jg ⟨(QE (by simp)), rfl, (Xu trivial)⟩) trivial
 rintro ⟨k, hk, hg⟩
 dsimp only
 refine QA ?_
 refine zq ?_ ?_ <;> intro h6
 rotate_left
 ·
  have hge : (l).length ≤ k := by simpa using h6
  refine QA ?_; refine zQ ?_
  exact Q2 (by rw [← hg, List.drop_of_length_le hge]; rfl)
 have hlt : k < (l).length := by simpa using h6
 obtain ⟨x, hx⟩ := Qk hlt
 have hs : orE l = if x == 0 then orE (l.drop (k + 1)) else x := by rw [← hg, XL hx]; rfl
 refine QA ?_; refine zP (Qh rfl rfl rfl k rfl _ (Qq hx) rfl) ?_; refine JU ?_
 refine zq ?_ ?_ <;> intro h9
 ·
  refine QJ ?_; refine zQ ?_
  exact Q2 (by rw [hs, if_neg (by simp_all)])
 have hn : orE (l.drop (k + 1)) = orE l := by rw [hs, if_pos (by simpa using h9)]
 refine QJ ?_; refine Qb ?_
 exact ⟨⟨k + 1, hlt, hn⟩, Qa rfl (Xl ⟨(QE (by dsimp only; omega)), rfl, trivial⟩) trivial, by dsimp only; omega⟩
theorem Qry (a b : List Nm) : FC Tryz.prog 83 [XU a, XU b] (i64 (Jp Lib.compareBytes a b)) := by
 refine Qd [4] Tryz.func83 rfl rfl 36 Tryz.ntmps83 (Nat.le_of_ble_eq_true rfl) ?_
 intro E hN
 refine JK 0 rfl (fun hl0 => ?_)
 refine JK 1 rfl (fun hl1 => ?_)
 refine JA ?_
 refine Qi (fun x : {k : Nat // k ≤ (a).length ∧ k ≤ b.length ∧ Jp Lib.compareBytes (a.drop k) (b.drop k) = Jp Lib.compareBytes a b} => ⟨[(0, XU a), (1, XU b), (9, XU a), (10, i64 a.length), (11, i64 (x.1 : Nat))], [], 0⟩) (fun x => (a).length - x.1) (⟨0, Nat.zero_le _, by simp⟩) ?_ ?_
 ·
  exact Qa rfl (Xl ⟨(QE (by simp)), rfl, (Xu trivial)⟩) trivial
 rintro ⟨k, hk, hg⟩
 dsimp only
 obtain ⟨hkb, hg⟩ := hg
 refine QA ?_
 refine zq ?_ ?_ <;> intro h7
 rotate_left
 ·
  have hge : (a).length ≤ k := by simpa using h7
  refine XN ?_
  refine zq ?_ ?_ <;> intro h19
  ·
   have h11 := h19
   refine QC ?_; refine zQ ?_
   exact Q2 (QgJ hg hge (by simp at h11; omega)).symm
  have h11 := h19
  refine QJ ?_; refine zQ ?_
  exact Q2 (Qj7 hg hge (by simp at h11; omega)).symm
 have hlt : k < (a).length := by simpa using h7
 obtain ⟨x, hx⟩ := Qk hlt
 refine Je ?_; refine zP (Qh rfl rfl rfl k rfl _ (Qq hx) rfl) ?_; refine JA ?_
 refine zq ?_ ?_ <;> intro h11
 ·
  have hgb : b.length ≤ k := by simpa using h11
  refine QC ?_; refine zQ ?_
  exact Q2 (QjL hg hx hgb).symm
 have hlb : k < b.length := by simpa using h11
 obtain ⟨y, hy⟩ := Qk hlb
 have hs := QgB hg hx hy
 refine QA ?_; refine zP (Qh rfl rfl rfl k rfl _ (Qq hy) rfl) ?_; refine Xz ?_; refine zP (Qc (Quc x y) rfl rfl rfl) ?_
 refine Xz ?_
 refine zq ?_ ?_ <;> intro h15
 ·
  have h8 : ¬ Lib.compareBytes x y = 0 := by simpa using h15
  refine QJ ?_; refine zQ ?_
  exact Q2 (by rw [hs, if_neg h8])
 have h8 : Lib.compareBytes x y = 0 := by simpa using h15
 have hn : Jp Lib.compareBytes (a.drop (k + 1)) (b.drop (k + 1)) = Jp Lib.compareBytes a b := by rw [hs, if_pos h8]
 refine QJ ?_; refine Qb ?_
 exact ⟨⟨k + 1, hlt, hlb, hn⟩, Qa rfl (QR ⟨(QE (by dsimp only; omega)), rfl, trivial⟩) trivial, by dsimp only; omega⟩
theorem Qru {f : FuncId} [Xe Tryz.prog f] {c : Tk → Tk → Int} (a b : List Tk) (hc : ∀ x ∈ a, ∀ y, FC Tryz.prog f [.agg (tkC x), .agg (tkC y)] (i64 (c x y))) : FC Tryz.prog 128 [tks a, tks b, .fn f []] (i64 (Jp c a b)) := by
 refine Qd [6] Tryz.func128 rfl rfl 39 Tryz.ntmps128 (Nat.le_of_ble_eq_true rfl) ?_
 intro E hN
 refine JK 0 rfl (fun hl0 => ?_)
 refine JK 1 rfl (fun hl1 => ?_)
 refine JA ?_
 refine Qi (fun x : {k : Nat // k ≤ (a).length ∧ k ≤ b.length ∧ Jp c (a.drop k) (b.drop k) = Jp c a b} => ⟨[(0, tks a), (1, tks b), (2, .fn f []), (11, tks a), (12, i64 a.length), (13, i64 (x.1 : Nat))], [], 0⟩) (fun x => (a).length - x.1) (⟨0, Nat.zero_le _, by simp⟩) ?_ ?_
 ·
  exact Qa rfl (QR ⟨(QE (by simp)), rfl, (Xu trivial)⟩) trivial
 rintro ⟨k, hk, hg⟩
 dsimp only
 obtain ⟨hkb, hg⟩ := hg
 refine QA ?_
 refine zq ?_ ?_ <;> intro h8
 rotate_left
 ·
  have hge : (a).length ≤ k := by simpa using h8
  refine XN ?_
  refine zq ?_ ?_ <;> intro h26
  ·
   have h11 := h26
   refine QC ?_; refine zQ ?_
   exact Q2 (QgJ hg hge (by simp at h11; omega)).symm
  have h11 := h26
  refine QJ ?_; refine zQ ?_
  exact Q2 (Qj7 hg hge (by simp at h11; omega)).symm
 have hlt : k < (a).length := by simpa using h8
 obtain ⟨x, hx⟩ := Qk hlt
 refine Je ?_; refine zP (Qh rfl rfl rfl k rfl _ (Qq hx) rfl) ?_; refine Wi ?_
 refine zq ?_ ?_ <;> intro h14
 ·
  have hgb : b.length ≤ k := by simpa using h14
  refine QC ?_; refine zQ ?_
  exact Q2 (QjL hg hx hgb).symm
 have hlb : k < b.length := by simpa using h14
 obtain ⟨y, hy⟩ := Qk hlb
 have hs := QgB hg hx hy
 refine QA ?_; refine zP (Qh rfl rfl rfl k rfl _ (Qq hy) rfl) ?_; refine JU ?_
 refine zP (YG (hc x (List.mem_of_getElem? hx) y) rfl rfl rfl rfl) ?_; refine Xz ?_
 refine zq ?_ ?_ <;> intro h22
 ·
  have h8 : ¬ c x y = 0 := by simpa using h22
  refine QJ ?_; refine zQ ?_
  exact Q2 (by rw [hs, if_neg h8])
 have h8 : c x y = 0 := by simpa using h22
 have hn : Jp c (a.drop (k + 1)) (b.drop (k + 1)) = Jp c a b := by rw [hs, if_pos h8]
 refine QJ ?_; refine Qb ?_
 exact ⟨⟨k + 1, hlt, hlb, hn⟩, Qa rfl (QR (Xu ⟨(QE (by dsimp only; omega)), rfl, trivial⟩)) trivial, by dsimp only; omega⟩
theorem Qr6 {f : FuncId} [Xe Tryz.prog f] {c : En → En → Int} (a b : List En) (hc : ∀ x ∈ a, ∀ y, FC Tryz.prog f [.agg (enC x), .agg (enC y)] (i64 (c x y))) : FC Tryz.prog 85 [ens a, ens b, .fn f []] (i64 (Jp c a b)) := by
 refine Qd [6] Tryz.func85 rfl rfl 39 Tryz.ntmps85 (Nat.le_of_ble_eq_true rfl) ?_
 intro E hN
 refine JK 0 rfl (fun hl0 => ?_)
 refine JK 1 rfl (fun hl1 => ?_)
 refine JA ?_
 refine Qi (fun x : {k : Nat // k ≤ (a).length ∧ k ≤ b.length ∧ Jp c (a.drop k) (b.drop k) = Jp c a b} => ⟨[(0, ens a), (1, ens b), (2, .fn f []), (11, ens a), (12, i64 a.length), (13, i64 (x.1 : Nat))], [], 0⟩) (fun x => (a).length - x.1) (⟨0, Nat.zero_le _, by simp⟩) ?_ ?_
 ·
  exact Qa rfl (QR ⟨(QE (by simp)), rfl, (Xu trivial)⟩) trivial
 rintro ⟨k, hk, hg⟩
 dsimp only
 obtain ⟨hkb, hg⟩ := hg
 refine QA ?_
 refine zq ?_ ?_ <;> intro h8
 rotate_left
 ·
  have hge : (a).length ≤ k := by simpa using h8
  refine XN ?_
  refine zq ?_ ?_ <;> intro h26
  ·
   have h11 := h26
   refine QC ?_; refine zQ ?_
   exact Q2 (QgJ hg hge (by simp at h11; omega)).symm
  have h11 := h26
  refine QJ ?_; refine zQ ?_
  exact Q2 (Qj7 hg hge (by simp at h11; omega)).symm
 have hlt : k < (a).length := by simpa using h8
 obtain ⟨x, hx⟩ := Qk hlt
 refine Je ?_; refine zP (Qh rfl rfl rfl k rfl _ (Qq hx) rfl) ?_; refine Wi ?_
 refine zq ?_ ?_ <;> intro h14
 ·
  have hgb : b.length ≤ k := by simpa using h14
  refine QC ?_; refine zQ ?_
  exact Q2 (QjL hg hx hgb).symm
 have hlb : k < b.length := by simpa using h14
 obtain ⟨y, hy⟩ := Qk hlb
 have hs := QgB hg hx hy
 refine QA ?_; refine zP (Qh rfl rfl rfl k rfl _ (Qq hy) rfl) ?_; refine JU ?_
 refine zP (YG (hc x (List.mem_of_getElem? hx) y) rfl rfl rfl rfl) ?_; refine Xz ?_
 refine zq ?_ ?_ <;> intro h22
 ·
  have h8 : ¬ c x y = 0 := by simpa using h22
  refine QJ ?_; refine zQ ?_
  exact Q2 (by rw [hs, if_neg h8])
 have h8 : c x y = 0 := by simpa using h22
 have hn : Jp c (a.drop (k + 1)) (b.drop (k + 1)) = Jp c a b := by rw [hs, if_pos h8]
 refine QJ ?_; refine Qb ?_
 exact ⟨⟨k + 1, hlt, hlb, hn⟩, Qa rfl (QR (Xu ⟨(QE (by dsimp only; omega)), rfl, trivial⟩)) trivial, by dsimp only; omega⟩
theorem Qsh {f : FuncId} [Xe Tryz.prog f] {c : Qn → Qn → Int} (a b : List Qn) (hc : ∀ x ∈ a, ∀ y, FC Tryz.prog f [.agg (Xm x), .agg (Xm y)] (i64 (c x y))) : FC Tryz.prog 84 [JM a, JM b, .fn f []] (i64 (Jp c a b)) := by
 refine Qd [6] Tryz.func84 rfl rfl 39 Tryz.ntmps84 (Nat.le_of_ble_eq_true rfl) ?_
 intro E hN
 refine JK 0 rfl (fun hl0 => ?_)
 refine JK 1 rfl (fun hl1 => ?_)
 refine JA ?_
 refine Qi (fun x : {k : Nat // k ≤ (a).length ∧ k ≤ b.length ∧ Jp c (a.drop k) (b.drop k) = Jp c a b} => ⟨[(0, JM a), (1, JM b), (2, .fn f []), (11, JM a), (12, i64 a.length), (13, i64 (x.1 : Nat))], [], 0⟩) (fun x => (a).length - x.1) (⟨0, Nat.zero_le _, by simp⟩) ?_ ?_
 ·
  exact Qa rfl (QR ⟨(QE (by simp)), rfl, (Xu trivial)⟩) trivial
 rintro ⟨k, hk, hg⟩
 dsimp only
 obtain ⟨hkb, hg⟩ := hg
 refine QA ?_
 refine zq ?_ ?_ <;> intro h8
 rotate_left
 ·
  have hge : (a).length ≤ k := by simpa using h8
  refine XN ?_
  refine zq ?_ ?_ <;> intro h26
  ·
   have h11 := h26
   refine QC ?_; refine zQ ?_
   exact Q2 (QgJ hg hge (by simp at h11; omega)).symm
  have h11 := h26
  refine QJ ?_; refine zQ ?_
  exact Q2 (Qj7 hg hge (by simp at h11; omega)).symm
 have hlt : k < (a).length := by simpa using h8
 obtain ⟨x, hx⟩ := Qk hlt
 refine Je ?_; refine zP (Qh rfl rfl rfl k rfl _ (Xk hx) rfl) ?_; refine Wi ?_
 refine zq ?_ ?_ <;> intro h14
 ·
  have hgb : b.length ≤ k := by simpa using h14
  refine QC ?_; refine zQ ?_
  exact Q2 (QjL hg hx hgb).symm
 have hlb : k < b.length := by simpa using h14
 obtain ⟨y, hy⟩ := Qk hlb
 have hs := QgB hg hx hy
 refine QA ?_; refine zP (Qh rfl rfl rfl k rfl _ (Xk hy) rfl) ?_; refine JU ?_
 refine zP (YG (hc x (List.mem_of_getElem? hx) y) rfl rfl rfl rfl) ?_; refine Xz ?_
 refine zq ?_ ?_ <;> intro h22
 ·
  have h8 : ¬ c x y = 0 := by simpa using h22
  refine QJ ?_; refine zQ ?_
  exact Q2 (by rw [hs, if_neg h8])
 have h8 : c x y = 0 := by simpa using h22
 have hn : Jp c (a.drop (k + 1)) (b.drop (k + 1)) = Jp c a b := by rw [hs, if_pos h8]
 refine QJ ?_; refine Qb ?_
 exact ⟨⟨k + 1, hlt, hlb, hn⟩, Qa rfl (QR (Xu ⟨(QE (by dsimp only; omega)), rfl, trivial⟩)) trivial, by dsimp only; omega⟩
theorem Qri (x y : Tk) : FC Tryz.prog 129 [.agg (tkC x), .agg (tkC y)] (i64 (Qhy x y)) := by
 refine Qd [4] Tryz.func129 rfl rfl 17 Tryz.ntmps129 (Nat.le_of_ble_eq_true rfl) ?_
 intro E hN
 refine Xz ?_; refine Qy 12 (by kernel_rfl) (by kernel_rfl) ?_; refine QJ ?_; refine zp (Qc (QtT _ _) rfl rfl rfl) ?_; refine QJ ?_
 refine zp (Qc (Qjw _ _) rfl rfl rfl) ?_; refine zp (Qj rfl rfl rfl rfl (by exact rfl) (by decide) (by decide)) ?_
 refine zp (Qc (Qm3 [Lib.compareInt x.1 y.1, Lib.compareInt x.2 y.2]) rfl rfl rfl) ?_; change Qz _ _ _ _ _ _; refine zS ?_; refine zQ ?_
 rfl
theorem QkF (x y : En) : FC Tryz.prog 86 [.agg (enC x), .agg (enC y)] (i64 (Ku x y)) := by
 refine Qd [4] Tryz.func86 rfl rfl 17 Tryz.ntmps86 (Nat.le_of_ble_eq_true rfl) ?_
 intro E hN
 refine Xz ?_; refine Qy 12 (by kernel_rfl) (by kernel_rfl) ?_; refine QJ ?_; refine zp (Qc (Qqg _ _) rfl rfl rfl) ?_; refine QJ ?_
 refine zp (Qc (Qru x.1 y.1 (fun u _ v => Qri u v)) rfl rfl rfl) ?_
 refine zp (Qj rfl rfl rfl rfl (by exact rfl) (by decide) (by decide)) ?_
 refine zp (Qc (Qm3 [Lib.compareBytes x.2 y.2, Jp Qhy x.1 y.1]) rfl rfl rfl) ?_; change Qz _ _ _ _ _ _; refine zS ?_; refine zQ ?_
 rfl
theorem QrK (x y : Qn) (ih : ∀ u ∈ x.ps, ∀ v, FC Tryz.prog 50 [.agg (Xm u), .agg (Xm v)] (i64 (Jk u v))) : FC Tryz.prog 50 [.agg (Xm x), .agg (Xm y)] (i64 (Jk x y)) := by
 refine Qd [4] Tryz.func50 rfl rfl 35 Tryz.ntmps50 (Nat.le_of_ble_eq_true rfl) ?_
 intro E hN
 refine XJ ?_; refine Qy 12 (by kernel_rfl) (by kernel_rfl) ?_; refine QJ ?_; refine zp (Qc (Qjw _ _) rfl rfl rfl) ?_; refine QJ ?_
 refine zp (Qc (Qry _ _) rfl rfl rfl) ?_; refine zp (Qj rfl rfl rfl rfl (by exact rfl) (by decide) (by decide)) ?_
 refine zp (Qc (Qm3 [Lib.compareInt x.N y.N, Jp Lib.compareBytes x.nm y.nm]) rfl rfl rfl) ?_; change Qz _ _ _ _ _ _; refine Xz ?_
 refine zq ?_ ?_ <;> intro h17
 ·
  have h2 := h17
  refine QJ ?_; refine zQ ?_
  exact Q2 (by rw [Qb6, if_pos (by simpa using h2)])
 have h2 := h17
 refine XJ ?_; refine zP (Qc (Qsh x.ps y.ps ih) rfl rfl rfl) ?_; refine Xz ?_
 refine zq ?_ ?_ <;> intro h23
 ·
  have h5 := h23
  refine QJ ?_; refine zQ ?_
  exact Q2 (by rw [Qb6, if_neg (by simpa using h2), if_pos (by simpa using h5)])
 have h5 := h23
 refine Xz ?_; refine zP (Qc (Qr6 x.es y.es (fun u _ v => QkF u v)) rfl rfl rfl) ?_; refine zS ?_; refine zQ ?_
 exact Q2 (by rw [Qb6, if_neg (by simpa using h2), if_neg (by simpa using h5)])
theorem QaB (x y : Qn) : FC Tryz.prog 50 [.agg (Xm x), .agg (Xm y)] (i64 (Jk x y)) := QrK x y (fun u _ v => QaB u v)
termination_by x
decreasing_by exact Qn.sizeOf_ps ‹_›
def eqV (x y : Qn) : Bool := Jk x y == 0
theorem Qhr (x y : Qn) : FC Tryz.prog 111 [.agg (Xm x), .agg (Xm y)] (bl (eqV x y)) := by
 refine Qd [4] Tryz.func111 rfl rfl 9 Tryz.ntmps111 (Nat.le_of_ble_eq_true rfl) ?_
 intro E hN
 refine XN ?_; refine zP (Qc (QaB x y) rfl rfl rfl) ?_; refine QO ?_; refine zQ ?_
 rfl
structure WK {α : Type} (c : α → α → Int) : Prop where
 anti : ∀ x y, c x y ≤ 0 ↔ 0 ≤ c y x
 trans : ∀ x y z, c x y ≤ 0 → c y z ≤ 0 → c x z ≤ 0
 eq : ∀ x y, c x y = 0 → x = y
theorem WK.refl {α : Type} {c : α → α → Int} (h : WK c) (x : α) : c x x = 0 := by
 have := h.anti x x
 omega
theorem WK.zero {α : Type} {c : α → α → Int} (h : WK c) {x y : α} (e : c x y = 0) : c y x = 0 := by
 obtain rfl := h.eq _ _ e
 exact e
theorem WK.swo {α β : Type} {c : α → α → Int} (h : WK c) (f : β → α) : Sort.SWO (fun x y : β => decide (c (f x) (f y) < 0)) where
 irrefl x := by simp [h.refl]
 trans x y z h1 h2 := by
  simp only [decide_eq_true_eq] at *
  have a1 := h.anti (f x) (f z)
  have a2 := h.anti (f z) (f x)
  have a3 := h.anti (f y) (f z)
  have a4 := h.anti (f z) (f y)
  by_cases hz : c (f z) (f x) ≤ 0
  ·have := h.trans _ _ _ hz (show c (f x) (f y) ≤ 0 by omega)
   omega
  omega
 ntrans x y z h1 h2 := by
  simp only [decide_eq_false_iff_not] at *
  have a1 := h.anti (f y) (f x)
  have a2 := h.anti (f z) (f y)
  have a3 := h.anti (f z) (f x)
  have := h.trans (f z) (f y) (f x) (by omega) (by omega)
  omega
def QnG {α : Type} (c1 c2 : α → α → Int) (x y : α) : Int := if c1 x y = 0 then c2 x y else c1 x y
theorem QeE {α : Type} {c : α → α → Int} (h : WK c) : WK (Jp c) where
 anti x y := by
  induction x generalizing y with
  | nil => cases y <;> simp [Jp]
  | cons a ar ih =>
   cases y with
   | nil => simp [Jp]
   | cons b br =>
    simp only [Jp]
    have a1 := h.anti a b
    have a2 := h.anti b a
    by_cases e : c a b = 0
    ·rw [if_pos e, if_pos (h.zero e)]; exact ih br
    have e2 : c b a ≠ 0 := fun e2 => e (h.zero e2)
    rw [if_neg e, if_neg e2]; exact a1
 trans x y z h1 h2 := by
  induction x generalizing y z with
  | nil => cases z <;> simp [Jp]
  | cons a ar ih =>
   cases y with
   | nil => simp [Jp] at h1
   | cons b br =>
    cases z with
    | nil => simp [Jp] at h2
    | cons d dr =>
     simp only [Jp] at *
     have t := h.trans a b d
     have t2 := h.trans b d a
     have t3 := h.trans d a b
     have p1 := h.anti a b
     have p2 := h.anti b a
     have p3 := h.anti b d
     have p4 := h.anti d b
     have p5 := h.anti a d
     have p6 := h.anti d a
     by_cases e1 : c a b = 0
     ·obtain rfl := h.eq _ _ e1
      rw [if_pos e1] at h1
      by_cases e2 : c a d = 0
      ·rw [if_pos e2] at h2 ⊢; exact ih _ _ h1 h2
      rw [if_neg e2] at h2 ⊢; exact h2
     rw [if_neg e1] at h1
     by_cases e2 : c b d = 0
     ·obtain rfl := h.eq _ _ e2
      rw [if_neg e1]; exact h1
     rw [if_neg e2] at h2
     have e3 : c a d ≠ 0 := by
      intro e3
      obtain rfl := h.eq _ _ e3
      omega
     rw [if_neg e3]; exact t h1 h2
 eq x y e := by
  induction x generalizing y with
  | nil => cases y <;> simp [Jp] at *
  | cons a ar ih =>
   cases y with
   | nil => simp [Jp] at e
   | cons b br =>
    simp only [Jp] at e
    by_cases e1 : c a b = 0
    ·rw [if_pos e1] at e; rw [h.eq _ _ e1, ih _ e]
    rw [if_neg e1] at e; exact absurd e e1
theorem Kz : WK Lib.compareInt where
 anti x y := by unfold Lib.compareInt; split <;> split <;> (try split) <;> omega
 trans x y z := by unfold Lib.compareInt; split <;> split <;> (try split) <;> (try split) <;> (try split) <;> omega
 eq x y := by unfold Lib.compareInt; split <;> (try split) <;> omega
theorem QeD {α β γ : Type} {c1 : β → β → Int} {c2 : γ → γ → Int} (f : α → β) (g : α → γ) (h1 : WK c1) (h2 : WK c2) (inj : ∀ x y, f x = f y → g x = g y → x = y) :
  WK (QnG (fun x y => c1 (f x) (f y)) (fun x y => c2 (g x) (g y))) where
 anti x y := by
  simp only [QnG]
  have a1 := h1.anti (f x) (f y)
  have a2 := h1.anti (f y) (f x)
  by_cases e : c1 (f x) (f y) = 0
  ·rw [if_pos e, if_pos (h1.zero e)]; exact h2.anti _ _
  have e2 : c1 (f y) (f x) ≠ 0 := fun e2 => e (h1.zero e2)
  rw [if_neg e, if_neg e2]; exact a1
 trans x y z k1 k2 := by
  simp only [QnG] at *
  by_cases e1 : c1 (f x) (f y) = 0
  ·have q := h1.eq _ _ e1
   rw [if_pos e1] at k1
   rw [q]
   by_cases e2 : c1 (f y) (f z) = 0
   ·rw [if_pos e2] at k2 ⊢; exact h2.trans _ _ _ k1 k2
   rw [if_neg e2] at k2 ⊢; exact k2
  rw [if_neg e1] at k1
  by_cases e2 : c1 (f y) (f z) = 0
  ·have q := h1.eq _ _ e2
   rw [← q, if_neg e1]; exact k1
  rw [if_neg e2] at k2
  have e3 : c1 (f x) (f z) ≠ 0 := by
   intro e3
   have q := h1.eq _ _ e3
   rw [q] at k1 e1
   have := h1.anti (f y) (f z)
   have := h1.anti (f z) (f y)
   omega
  rw [if_neg e3]; exact h1.trans _ _ _ k1 k2
 eq x y e := by
  simp only [QnG] at e
  by_cases e1 : c1 (f x) (f y) = 0
  ·rw [if_pos e1] at e; exact inj _ _ (h1.eq _ _ e1) (h2.eq _ _ e)
  rw [if_neg e1] at e; exact absurd e e1
theorem Qvs (a b : Int) : orE [a, b] = if a = 0 then b else a := by
 simp only [orE]
 by_cases h : a = 0 <;> by_cases h2 : b = 0 <;> simp [h, h2]
theorem QrA : WK Qhy := by
 have : Qhy = QnG (fun x y : Tk => Lib.compareInt x.1 y.1) (fun x y : Tk => Lib.compareInt x.2 y.2) := by
  funext x y; rw [Qhy, Qvs]; rfl
 rw [this]
 exact QeD _ _ Kz Kz fun x y h1 h2 => Prod.ext h1 h2
def Qq5 (a b : UInt8) : Int := if a < b then -1 else if b < a then 1 else 0
theorem Qud : WK Qq5 := by
 have e : ∀ a b : UInt8, Qq5 a b = Lib.compareInt a.toNat b.toNat := fun a b => by
  have h1 : (a < b) = ((a.toNat : Int) < b.toNat) := by rw [UInt8.lt_iff_toNat_lt]; simp
  have h2 : (b < a) = ((b.toNat : Int) < a.toNat) := by rw [UInt8.lt_iff_toNat_lt]; simp
  unfold Qq5 Lib.compareInt
  simp only [h1, h2, gt_iff_lt]
 exact ⟨fun x y => by rw [e, e]; exact Kz.anti _ _, fun x y z => by rw [e, e, e]; exact Kz.trans _ _ _, fun x y h => by
  rw [e] at h
  have := Kz.eq _ _ h
  exact UInt8.toNat_inj.1 (by omega)⟩
theorem Kl : WK Lib.compareBytes := by
 have : Lib.compareBytes = Jp Qq5 := by
  funext x y
  induction x generalizing y with
  | nil => cases y <;> rfl
  | cons a ar ih => cases y with
   | nil => rfl
   | cons b br =>
    simp only [Lib.compareBytes, Jp]
    rw [ih]
    unfold Qq5
    by_cases h1 : a < b
    ·simp [h1]
    by_cases h2 : b < a
    ·simp [h1, h2]
    simp [h1, h2]
 rw [this]; exact QeE Qud
theorem YR : WK Ku := by
 have : Ku = QnG (fun x y : En => Lib.compareBytes x.2 y.2) (fun x y : En => Jp Qhy x.1 y.1) := by
  funext x y; rw [Ku, Qvs]; rfl
 rw [this]
 exact QeD _ _ Kl (QeE QrA) fun x y h1 h2 => Prod.ext h2 h1
end Go.Proofs.YtaecccdkjmipeaaGreat
