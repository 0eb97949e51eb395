/-
  Contracts: the reference's comparison of values, their size;
-/
import Derived.Test.YtnkkokmmeplbgaaGreatB13
import Derived.Test.YtnkkokmmeplbgaaGreatA4
import Derived.Test.YtnkkokmmeplbgaaGreatB1
import Derived.Test.YtnkkokmmeplbgaaGreatB11
namespace Go.Proofs.YtnkkokmmeplbgaaGreat
set_option maxRecDepth 100000
set_option maxHeartbeats 1000000
open Go.RowKit
theorem Qlz (l : QD) (vs : List Qw) (hF : JZ l vs = 0 → Qjg l vs) : FC Tryz.prog 127 [.agg (Q2 l), Qad vs] (.tup [.agg (Qz (WR l vs).1), i64 (WR l vs).2]) := by
 refine Jf [.c 4 30 4 true, .t 5] ⟨⟨inferInstance, rfl⟩, trivial⟩ Tryz.func127 rfl rfl 32 Tryz.ntmps127 (Nat.le_of_ble_eq_true rfl) ?_
 intro E hN
 refine Jv ?_; refine zP (Qc (QhD l vs) rfl rfl rfl) ?_; refine Q4 ?_
 refine zq ?_ ?_ <;> intro h7
 ·
  have h2 : ¬ JZ l vs = 0 := by simpa using h7
  refine Q4 ?_; refine Qh ?_
  change (resY _ _).bind AV.fzt = some _
  refine XD rfl ?_
  rw [WR, if_neg h2]; rfl
 have h2 : JZ l vs = 0 := by simpa using h7
 have hc := Qe6 h2
 have hbt : (KE l).1 = QU l := by rw [KE, if_pos hc.1]
 refine Qv ?_; refine zP (Qc (Qpr l) rfl rfl rfl) ?_; refine Jv ?_
 refine Ql (fun x : {k : Nat // k ≤ (vs).length ∧ True} => ⟨[(2, .ptr 0 0), (4, .ptr 1 0), (7, .ptr 2 0), (19, Qad vs), (20, i64 vs.length), (21, i64 (x.1 : Nat))], [(0, .var 26 (Q2 l)), (1, .var 30 [i64 0, .p (.slice none 0 0), .p (.slice none 0 0), .p (.slice none 0 0)]), (2, .var 30 (Qz (Qbr l (vs.take x.1))))], 3⟩) (fun x => (vs).length - x.1) (⟨0, Nat.zero_le _, by simp⟩) ?_ ?_
 ·
  exact Qa rfl (JH ⟨(Q0 (by simp)), rfl, (Xv trivial)⟩) ⟨rfl, rfl, rfl, rfl, rfl, rfl, (QrO (by rw [hbt]; rfl)), rfl, rfl, trivial⟩
 rintro ⟨k, hk, hg⟩
 dsimp only
 refine Jj 19 rfl (fun hl19 => ?_)
 refine QF ?_
 refine zq ?_ ?_ <;> intro h21
 rotate_left
 ·
  have hge : (vs).length ≤ k := by simpa using h21
  rw [List.take_of_length_le hge]
  refine Qv ?_
  refine zP (Qc (QhE (Qbr l vs) (by have := ((hF h2).2.2 vs.length (Nat.le_refl _)).2; rw [List.take_length] at this; exact this.up (by decide))) rfl rfl rfl) ?_
  refine Qs ?_; refine Qh ?_
  change (resY _ _).bind AV.fzt = some _
  refine XD rfl ?_
  rw [WR, if_pos h2]
 have hlt : k < (vs).length := by simpa using h21
 obtain ⟨x, hx⟩ := Qn hlt
 refine QF ?_; refine zP (Qf rfl rfl rfl k rfl _ (QM hx) rfl) ?_; refine XN ?_
 refine zP (Qc (Qml l (X0 hc.1) (hF h2).1 (Qbr l (vs.take k)) x ((hF h2).2.2 k hk).1 (hc.2 x (List.mem_of_getElem? hx)) ((hF h2).2.2 k hk).2 ((hF h2).2.1 x (List.mem_of_getElem? hx))) rfl rfl rfl) ?_
 refine QF ?_; refine Qb ?_
 exact ⟨⟨k + 1, hlt, trivial⟩, Qa rfl (JH (Xv ⟨(Q0 (by dsimp only; omega)), rfl, trivial⟩)) ⟨rfl, rfl, rfl, rfl, rfl, rfl, (QrO (Qgb hx).symm), rfl, rfl, trivial⟩, by dsimp only; omega⟩
theorem QmI (l : QD) (a b : Qw) (hF : JZ l [a, b] = 0 → Qjg l [a, b]) : FC Tryz.prog 110 [.agg (Q2 l), .agg (Qz a), .agg (Qz b)] (.tup [.agg (Qz (WR l [a, b]).1), i64 (WR l [a, b]).2]) := by
 refine Jf [.c 6 30 4 true, .t 7] ⟨⟨inferInstance, rfl⟩, trivial⟩ Tryz.func110 rfl rfl 15 Tryz.ntmps110 (Nat.le_of_ble_eq_true rfl) ?_
 intro E hN
 refine YR ?_; refine zP (Qbf rfl rfl rfl rfl (by exact rfl) (by decide) (by decide) (QgP a b)) ?_
 refine zP (Qc (Qlz l [a, b] hF) rfl rfl rfl) ?_; refine QF ?_; refine Qh ?_
 change (resY _ _).bind AV.fzt = some _
 refine XD rfl ?_
 rfl
end Go.Proofs.YtnkkokmmeplbgaaGreat
namespace Go.Proofs.YtnkkokmmeplbgaaGreat
set_option maxRecDepth 100000
set_option maxHeartbeats 1000000
open Go.RowKit
def W6 (b : Bool) : Int := if b then -1 else 1
def QgA (m n : Nat) : Int := if m = n then 0 else W6 (decide (m < n))
theorem QpT {x y : Int} (h : x ≠ y) : Lib.compareInt x y = W6 (decide (x < y)) := by
 unfold Lib.compareInt W6
 rcases Int.lt_trichotomy x y with h1 | h1 | h1
 ·simp [h1]
 ·exact absurd h1 h
 have h2 : ¬ x < y := by omega
 simp [h1, h2]
theorem Qht (x : Int) : Lib.compareInt x x = 0 := by unfold Lib.compareInt; simp
theorem QoI {x y : Nm} (h : x ≠ y) : Lib.compareBytes x y = W6 (Op.bytesLess x y) := by
 rw [Ym]
 unfold W6
 cases h1 : Op.bytesLess x y <;> simp [h]
theorem Qdg (b : Bool) : W6 b ≠ 0 := by unfold W6; split <;> decide
theorem tk_1 {x y : Tk} (h : x.1 ≠ y.1) : WP x y = W6 (decide (x.1 < y.1)) := by
 rw [WP, Qft, QpT h, if_neg (Qdg _)]
theorem tk_2 {x y : Tk} (h1 : x.1 = y.1) (h : x.2 ≠ y.2) : WP x y = W6 (decide (x.2 < y.2)) := by
 rw [WP, Qft, h1, Qht, if_pos rfl, QpT h]
theorem tk_0 {x y : Tk} (h1 : x.1 = y.1) (h : x.2 = y.2) : WP x y = 0 := by
 rw [WP, Qft, h1, h, Qht, Qht]; rfl
theorem en_1 {x y : En} (h : x.2 ≠ y.2) : Jb x y = W6 (Op.bytesLess x.2 y.2) := by
 rw [Jb, Qft, QoI h, if_neg (Qdg _)]
theorem en_2 {x y : En} (h : x.2 = y.2) : Jb x y = Xt WP x.1 y.1 := by
 rw [Jb, Qft, h, JU.refl, if_pos rfl]
section
variable {α : Type} {c : α → α → Int} {a b : List α} {k : Nat}
theorem Qcg (e : Xt c (a.drop k) (b.drop k) = Xt c a b) (hk : k ≤ a.length) (hk2 : k ≤ b.length) (h : a.length ≤ k ∨ b.length ≤ k) : Xt c a b = QgA a.length b.length := by
 have one : ∀ (l : List α), l.length = k → l.drop k = [] := fun l h => List.drop_of_length_le (by omega)
 unfold QgA
 rcases Nat.lt_trichotomy a.length b.length with h1 | h1 | h1
 ·have := one a (by omega)
  obtain ⟨y, hy⟩ := Qn (show k < b.length by omega)
  rw [← e, this, XA hy, if_neg (by omega)]
  simp [Xt, W6, h1]
 ·have := one a (by omega)
  have := one b (by omega)
  rw [← e, this, one a (by omega), if_pos h1]; rfl
 have := one b (by omega)
 obtain ⟨y, hy⟩ := Qn (show k < a.length by omega)
 rw [← e, this, XA hy, if_neg (by omega)]
 have h2 : ¬ a.length < b.length := by omega
 simp [Xt, W6, h2]
end
theorem QsI {m n : Nat} (h : m = n) : QgA m n = 0 := by unfold QgA; rw [if_pos h]
theorem Qtz {m n : Nat} (h : m ≠ n) : QgA m n ≠ 0 := by unfold QgA; rw [if_neg h]; exact Qdg _
theorem cv_1 {x y : Qw} (h : x.N ≠ y.N) : Jz x y = W6 (decide (x.N < y.N)) := by
 rw [Ko, Qft, QpT h, if_neg (Qdg _), if_pos (Qdg _)]
theorem QtO {x y : Qw} (h : x.N = y.N) (h2 : Xt Lib.compareBytes x.nm y.nm ≠ 0) : Jz x y = Xt Lib.compareBytes x.nm y.nm := by
 rw [Ko, Qft, h, Qht, if_pos rfl, if_pos h2]
theorem Qty {x y : Qw} (h : x.N = y.N) (h2 : Xt Lib.compareBytes x.nm y.nm = 0) (h3 : Xt Jz x.ps y.ps ≠ 0) : Jz x y = Xt Jz x.ps y.ps := by
 rw [Ko, Qft, h, Qht, if_pos rfl, if_neg (by rw [h2]; decide), if_pos h3]
theorem QtG {x y : Qw} (h : x.N = y.N) (h2 : Xt Lib.compareBytes x.nm y.nm = 0) (h3 : Xt Jz x.ps y.ps = 0) : Jz x y = Xt Jb x.es y.es := by
 rw [Ko, Qft, h, Qht, if_pos rfl, if_neg (by rw [h2]; decide), if_neg (by rw [h3]; decide)]
def QaB (es : List En) : Nat := (es.map (fun e => 1 + e.1.length)).sum
mutual
def Kt : Qw → Nat
 | .mk _ nm ps es => 1 + nm.length + QaB es + Yg ps
def Yg : List Qw → Nat
 | [] => 0
 | a :: r => Kt a + Yg r
end
theorem QeV (x : Qw) : Kt x = 1 + x.nm.length + QaB x.es + Yg x.ps := by
 cases x with
 | mk N nm ps es => rw [Kt]; rfl
theorem Qa5 : ∀ (a b : List Qw), Yg (a ++ b) = Yg a + Yg b
 | [], b => by simp [Yg]
 | x :: r, b => by rw [List.cons_append, Yg, Yg, Qa5 r b]; omega
theorem Qfi (a b : List En) : QaB (a ++ b) = QaB a + QaB b := by simp [QaB]
theorem QhV {es : List En} {k : Nat} {e : En} (h : es[k]? = some e) : QaB (es.take (k + 1)) = QaB (es.take k) + (1 + e.1.length) := by
 obtain ⟨hk, rfl⟩ := List.getElem?_eq_some_iff.1 h
 rw [List.take_succ_eq_append_getElem hk, Qfi]
 simp [QaB]
theorem Qka {ps : List Qw} {k : Nat} {e : Qw} (h : ps[k]? = some e) : Yg (ps.take (k + 1)) = Yg (ps.take k) + Kt e := by
 obtain ⟨hk, rfl⟩ := List.getElem?_eq_some_iff.1 h
 rw [List.take_succ_eq_append_getElem hk, Qa5]
 simp [Yg]
theorem Qmw (es : List En) (k : Nat) : QaB (es.take k) ≤ QaB es := by
 have h := Qfi (es.take k) (es.drop k)
 rw [List.take_append_drop] at h
 omega
theorem Qn2 (ps : List Qw) (k : Nat) : Yg (ps.take k) ≤ Yg ps := by
 have h := Qa5 (ps.take k) (ps.drop k)
 rw [List.take_append_drop] at h
 omega
def Qbg (x : Qw) (m : Int) : Int := if (Kt x : Int) ≤ m then m - Kt x else -1
theorem Qba {x : Qw} {m : Int} (h : m < Kt x) : Qbg x m = -1 := by unfold Qbg; rw [if_neg (by omega)]
theorem QnI {x : Qw} {m : Int} (h : (Kt x : Int) ≤ m) : Qbg x m = m - Kt x := by unfold Qbg; rw [if_pos h]
def QbK (x : Qw) (m : Int) : Bool := decide ((Kt x : Int) ≤ m)
theorem QcI (b : Bool) : FC Tryz.prog 113 [bl b] (i64 (W6 b)) := by
 refine Qg [2] Tryz.func113 rfl rfl 4 Tryz.ntmps113 (Nat.le_of_ble_eq_true rfl) ?_
 intro E hN
 refine JA ?_
 refine zq ?_ ?_ <;> intro h1
 ·
  refine Qs ?_; refine zQ ?_
  exact QS (by simp_all [W6])
 refine Qv ?_; refine zQ ?_
 exact QS (by simp_all [W6])
theorem Qas (m n : Nat) : FC Tryz.prog 114 [i64 (m : Nat), i64 (n : Nat)] (i64 (QgA m n)) := by
 refine Qg [4] Tryz.func114 rfl rfl 12 Tryz.ntmps114 (Nat.le_of_ble_eq_true rfl) ?_
 intro E hN
 refine Jv ?_
 refine zq ?_ ?_ <;> intro h3
 ·
  have h1 : m = n := by
   have : (m : Int) = n := by simpa using h3
   omega
  refine Qs ?_; refine zQ ?_
  exact QS (QsI h1).symm
 have h1 : m ≠ n := by
  have : ¬ (m : Int) = n := by simpa using h3
  omega
 refine Q8 ?_; refine zP (Qc (QcI _) rfl rfl rfl) ?_; refine zS ?_; refine zQ ?_
 exact QS (by rw [QgA, if_neg h1]; simp)
theorem Qnd (a b : List Tk) : FC Tryz.prog 146 [tks a, tks b] (i64 (Xt WP a b)) := by
 refine Qg [4] Tryz.func146 rfl rfl 69 Tryz.ntmps146 (Nat.le_of_ble_eq_true rfl) ?_
 intro E hN
 refine Jj 0 rfl (fun hl0 => ?_)
 refine XB ?_
 refine Ql (fun x : {k : Nat // k ≤ (a).length ∧ k ≤ b.length ∧ Xt WP (a.drop k) (b.drop k) = Xt WP a b} => ⟨[(0, tks a), (1, tks b), (5, i64 (x.1 : Nat))], [], 0⟩) (fun x => (a).length - x.1) (⟨0, Nat.zero_le _, by simp⟩) ?_ ?_
 ·
  exact Qa rfl (JO trivial) trivial
 rintro ⟨k, hk, hg⟩
 dsimp only
 refine XN ?_
 refine zc 10 ?_ ?_ <;> intro h7
 rotate_left
 ·
  have hge : a.length ≤ k ∨ b.length ≤ k := .inl (by simpa using h7)
  refine Ki ?_; refine zP (Qc (Qas _ _) rfl rfl rfl) ?_; refine zS ?_; refine zQ ?_
  exact QS (by rw [Qcg hg.2 hk hg.1 hge, List.length_map, List.length_map])
 have hla : k < a.length := by simpa using h7
 refine Q8 ?_
 refine zq ?_ ?_ <;> intro h9
 rotate_left
 ·
  have hge : a.length ≤ k ∨ b.length ≤ k := .inr (by simpa using h9)
  refine Q4 ?_; refine zP (Qc (Qas _ _) rfl rfl rfl) ?_; refine zS ?_; refine zQ ?_
  exact QS (by rw [Qcg hg.2 hk hg.1 hge, List.length_map, List.length_map])
 have hlb : k < b.length := by simpa using h9
 obtain ⟨x, hx⟩ := Qn hla
 obtain ⟨y, hy⟩ := Qn hlb
 refine QF ?_; refine Qd 10 (by kernel_rfl) (by kernel_rfl) ?_; refine Qu ?_; refine zp (Qf rfl rfl rfl k rfl _ (Qk hx) rfl) ?_
 refine Qv ?_; refine zp (Qf rfl rfl rfl k rfl _ (Qk hy) rfl) ?_; refine Qu ?_; change Qj _ _ _ _ _ _; refine Qu ?_
 refine zq ?_ ?_ <;> intro h16
 ·
  have h4 : x.1 ≠ y.1 := by simpa using h16
  refine Jk ?_; refine Qd 12 (by kernel_rfl) (by kernel_rfl) ?_; refine Qu ?_; refine zp (Qf rfl rfl rfl k rfl _ (Qk hx) rfl) ?_
  refine Qv ?_; refine zp (Qf rfl rfl rfl k rfl _ (Qk hy) rfl) ?_; refine Qs ?_; refine zp (Qc (QcI _) rfl rfl rfl) ?_
  change Qj _ _ _ _ _ _; refine zS ?_; refine zQ ?_
  exact QS (by rw [YG hg.2 hx hy, tk_1 h4, if_neg (Qdg _)])
 have h4 : x.1 = y.1 := by simpa using h16
 refine Qu ?_; refine Qd 10 (by kernel_rfl) (by kernel_rfl) ?_; refine Qu ?_; refine zp (Qf rfl rfl rfl k rfl _ (Qk hx) rfl) ?_
 refine Qv ?_; refine zp (Qf rfl rfl rfl k rfl _ (Qk hy) rfl) ?_; refine Qu ?_; change Qj _ _ _ _ _ _; refine Qu ?_
 refine zq ?_ ?_ <;> intro h31
 rotate_left
 ·
  have h6 : x.2 = y.2 := by simpa using h31
  refine QF ?_; refine Qb ?_
  exact ⟨⟨k + 1, hla, hlb, by rw [YG hg.2 hx hy, if_pos (tk_0 h4 h6)]⟩, Qa rfl (JI ⟨(Q0 (by dsimp only; omega)), rfl, trivial⟩) trivial, by dsimp only; omega⟩
 have h6 : x.2 ≠ y.2 := by simpa using h31
 refine Jk ?_; refine Qd 12 (by kernel_rfl) (by kernel_rfl) ?_; refine Qu ?_; refine zp (Qf rfl rfl rfl k rfl _ (Qk hx) rfl) ?_
 refine Qv ?_; refine zp (Qf rfl rfl rfl k rfl _ (Qk hy) rfl) ?_; refine Qs ?_; refine zp (Qc (QcI _) rfl rfl rfl) ?_
 change Qj _ _ _ _ _ _; refine zS ?_; refine zQ ?_
 exact QS (by rw [YG hg.2 hx hy, tk_2 h4 h6, if_neg (Qdg _)])
theorem QcH (x y : En) : FC Tryz.prog 115 [.agg (Kv x), .agg (Kv y)] (i64 (Jb x y)) := by
 refine Qg [4] Tryz.func115 rfl rfl 21 Tryz.ntmps115 (Nat.le_of_ble_eq_true rfl) ?_
 intro E hN
 refine QdD ?_
 refine zq ?_ ?_ <;> intro h9
 ·
  have h1 : x.2 ≠ y.2 := by simpa using h9
  refine Q4 ?_; refine zP (Qc (QcI _) rfl rfl rfl) ?_; refine zS ?_; refine zQ ?_
  exact QS (en_1 h1).symm
 have h1 : x.2 = y.2 := by simpa using h9
 refine Q4 ?_; refine zP (Qc (Qnd _ _) rfl rfl rfl) ?_; refine zS ?_; refine zQ ?_
 exact QS (en_2 h1).symm
theorem QsA (x0 y0 : Qw) (ih : ∀ u ∈ x0.ps, ∀ v, FC Tryz.prog 66 [.agg (Qz u), .agg (Qz v)] (i64 (Jz u v))) : FC Tryz.prog 66 [.agg (Qz x0), .agg (Qz y0)] (i64 (Jz x0 y0)) := by
 refine Qg [4] Tryz.func66 rfl rfl 149 Tryz.ntmps66 (Nat.le_of_ble_eq_true rfl) ?_
 intro E hN
 refine QdD ?_
 refine zq ?_ ?_ <;> intro h9
 ·
  have hN' : x0.N ≠ y0.N := by simpa using h9
  refine Q4 ?_; refine zP (Qc (QcI _) rfl rfl rfl) ?_; refine zS ?_; refine zQ ?_
  exact QS (cv_1 hN').symm
 have hNe : x0.N = y0.N := by simpa using h9
 refine zW ?_
 refine Qch (⟨[(2, .ptr 0 0), (3, .ptr 1 0)], [(0, .var 30 (Qz x0)), (1, .var 30 (Qz y0))], 2⟩) (Xt Lib.compareBytes x0.nm y0.nm = QgA x0.nm.length y0.nm.length) ?_ ?_
 ·
  refine QF ?_
  refine Ql (fun x : {k : Nat // k ≤ (x0.nm).length ∧ k ≤ y0.nm.length ∧ Xt Lib.compareBytes (x0.nm.drop k) (y0.nm.drop k) = Xt Lib.compareBytes x0.nm y0.nm} => ⟨[(2, .ptr 0 0), (3, .ptr 1 0), (5, i64 (x.1 : Nat))], [(0, .var 30 (Qz x0)), (1, .var 30 (Qz y0))], 2⟩) (fun x => (x0.nm).length - x.1) (⟨0, Nat.zero_le _, by simp⟩) ?_ ?_
  ·
   exact Qa rfl (JO trivial) ⟨rfl, rfl, rfl, rfl, rfl, rfl, trivial⟩
  rintro ⟨k, hk, hg⟩
  dsimp only
  refine JA ?_
  refine zc 26 ?_ ?_ <;> intro h22
  rotate_left
  ·
   have hge : x0.nm.length ≤ k ∨ y0.nm.length ≤ k := .inl (by simpa using h22)
   refine XN ?_; refine Wi ?_
   exact ⟨(by exact Qcg hg.2 hk hg.1 hge), Qa rfl (JI trivial) ⟨rfl, rfl, rfl, rfl, rfl, rfl, trivial⟩⟩
  have hla : k < x0.nm.length := by simpa using h22
  refine Q4 ?_
  refine zq ?_ ?_ <;> intro h26
  rotate_left
  ·
   have hge : x0.nm.length ≤ k ∨ y0.nm.length ≤ k := .inr (by simpa using h26)
   refine Wi ?_
   exact ⟨(by exact Qcg hg.2 hk hg.1 hge), Qa rfl (JI trivial) ⟨rfl, rfl, rfl, rfl, rfl, rfl, trivial⟩⟩
  have hlb : k < y0.nm.length := by simpa using h26
  obtain ⟨x, hx⟩ := Qn hla
  obtain ⟨y, hy⟩ := Qn hlb
  refine Qv ?_; refine Qd 10 (by kernel_rfl) (by kernel_rfl) ?_; refine Qs ?_; refine zp (Qf rfl rfl rfl k rfl _ (Qk hx) rfl) ?_
  refine Qv ?_; refine zp (Qf rfl rfl rfl k rfl _ (Qk hy) rfl) ?_; refine zl ?_; change Qj _ _ _ _ _ _; refine Qu ?_
  refine zq ?_ ?_ <;> intro h35
  ·
   have h0 : x ≠ y := by simpa using h35
   refine Jk ?_; refine Qd 12 (by kernel_rfl) (by kernel_rfl) ?_; refine Qs ?_; refine zp (Qf rfl rfl rfl k rfl _ (Qk hx) rfl) ?_
   refine Qv ?_; refine zp (Qf rfl rfl rfl k rfl _ (Qk hy) rfl) ?_; refine Qu ?_; refine zp (Qc (QcI _) rfl rfl rfl) ?_
   change Qj _ _ _ _ _ _; refine zS ?_; refine zQ ?_
   exact QS (by rw [QtO hNe (by rw [YG hg.2 hx hy, QoI h0, if_neg (Qdg _)]; exact Qdg _), YG hg.2 hx hy, QoI h0, if_neg (Qdg _)])
  have h0 : Lib.compareBytes x y = 0 := by rw [show x = y by simpa using h35]; exact JU.refl y
  refine Jk ?_
  refine Jj 23 rfl (fun hl23 => ?_)
  refine Qv ?_; refine Qb ?_
  exact ⟨⟨k + 1, hla, hlb, by rw [YG hg.2 hx hy, if_pos h0]⟩, Qa rfl (JI ⟨(Q0 (by dsimp only; omega)), rfl, trivial⟩) ⟨rfl, rfl, rfl, rfl, rfl, rfl, trivial⟩, by dsimp only; omega⟩
 intro hFnm
 refine Jv ?_
 refine zq ?_ ?_ <;> intro h55
 ·
  have h8 : x0.nm.length ≠ y0.nm.length := by
   have : ¬ (x0.nm.length : Int) = y0.nm.length := by simpa using h55
   omega
  refine XN ?_; refine zP (Qc (Qas _ _) rfl rfl rfl) ?_; refine zS ?_; refine zQ ?_
  exact QS (by rw [QtO hNe (by rw [hFnm]; exact Qtz h8), hFnm, List.length_map, List.length_map])
 have h8 : x0.nm.length = y0.nm.length := by
  have : (x0.nm.length : Int) = y0.nm.length := by simpa using h55
  omega
 have h8z := hFnm.trans (QsI h8)
 refine zW ?_
 refine Qch (⟨[(2, .ptr 0 0), (3, .ptr 1 0)], [(0, .var 30 (Qz x0)), (1, .var 30 (Qz y0))], 2⟩) (Xt Jz x0.ps y0.ps = QgA x0.ps.length y0.ps.length) ?_ ?_
 ·
  refine QF ?_
  refine Ql (fun x : {k : Nat // k ≤ (x0.ps).length ∧ k ≤ y0.ps.length ∧ Xt Jz (x0.ps.drop k) (y0.ps.drop k) = Xt Jz x0.ps y0.ps} => ⟨[(2, .ptr 0 0), (3, .ptr 1 0), (6, i64 (x.1 : Nat))], [(0, .var 30 (Qz x0)), (1, .var 30 (Qz y0))], 2⟩) (fun x => (x0.ps).length - x.1) (⟨0, Nat.zero_le _, by simp⟩) ?_ ?_
  ·
   exact Qa rfl (JO trivial) ⟨rfl, rfl, rfl, rfl, rfl, rfl, trivial⟩
  rintro ⟨k, hk, hg⟩
  dsimp only
  refine JA ?_
  refine zc 77 ?_ ?_ <;> intro h69
  rotate_left
  ·
   have hge : x0.ps.length ≤ k ∨ y0.ps.length ≤ k := .inl (by simpa using h69)
   refine XN ?_; refine Wi ?_
   exact ⟨(by exact Qcg hg.2 hk hg.1 hge), Qa rfl (JI trivial) ⟨rfl, rfl, rfl, rfl, rfl, rfl, trivial⟩⟩
  have hla : k < x0.ps.length := by simpa using h69
  refine Q4 ?_
  refine zq ?_ ?_ <;> intro h73
  rotate_left
  ·
   have hge : x0.ps.length ≤ k ∨ y0.ps.length ≤ k := .inr (by simpa using h73)
   refine Wi ?_
   exact ⟨(by exact Qcg hg.2 hk hg.1 hge), Qa rfl (JI trivial) ⟨rfl, rfl, rfl, rfl, rfl, rfl, trivial⟩⟩
  have hlb : k < y0.ps.length := by simpa using h73
  obtain ⟨x, hx⟩ := Qn hla
  obtain ⟨y, hy⟩ := Qn hlb
  refine Qv ?_; refine Qd 11 (by kernel_rfl) (by kernel_rfl) ?_; refine Qs ?_; refine zp (Qf rfl rfl rfl k rfl _ (QM hx) rfl) ?_
  refine Qv ?_; refine zp (Qf rfl rfl rfl k rfl _ (QM hy) rfl) ?_; refine zl ?_
  refine zp (Qc (ih x (List.mem_of_getElem? hx) y) rfl rfl rfl) ?_; change Qj _ _ _ _ _ _; refine Q4 ?_
  refine zq ?_ ?_ <;> intro h83
  ·
   have h0 : Jz x y ≠ 0 := by simpa using h83
   refine Qv ?_; refine zQ ?_
   exact QS (by rw [Qty hNe h8z (by rw [YG hg.2 hx hy, if_neg h0]; exact h0), YG hg.2 hx hy, if_neg h0])
  have h0 : Jz x y = 0 := by simpa using h83
  refine Jk ?_
  refine Jj 74 rfl (fun hl74 => ?_)
  refine Qv ?_; refine Qb ?_
  exact ⟨⟨k + 1, hla, hlb, by rw [YG hg.2 hx hy, if_pos h0]⟩, Qa rfl (JI ⟨(Q0 (by dsimp only; omega)), rfl, trivial⟩) ⟨rfl, rfl, rfl, rfl, rfl, rfl, trivial⟩, by dsimp only; omega⟩
 intro hFps
 refine Jv ?_
 refine zq ?_ ?_ <;> intro h93
 ·
  have h16 : x0.ps.length ≠ y0.ps.length := by
   have : ¬ (x0.ps.length : Int) = y0.ps.length := by simpa using h93
   omega
  refine XN ?_; refine zP (Qc (Qas _ _) rfl rfl rfl) ?_; refine zS ?_; refine zQ ?_
  exact QS (by rw [Qty hNe h8z (by rw [hFps]; exact Qtz h16), hFps, List.length_map, List.length_map])
 have h16 : x0.ps.length = y0.ps.length := by
  have : (x0.ps.length : Int) = y0.ps.length := by simpa using h93
  omega
 have h16z := hFps.trans (QsI h16)
 refine zW ?_
 refine Qch (⟨[(2, .ptr 0 0), (3, .ptr 1 0)], [(0, .var 30 (Qz x0)), (1, .var 30 (Qz y0))], 2⟩) (Xt Jb x0.es y0.es = QgA x0.es.length y0.es.length) ?_ ?_
 ·
  refine QF ?_
  refine Ql (fun x : {k : Nat // k ≤ (x0.es).length ∧ k ≤ y0.es.length ∧ Xt Jb (x0.es.drop k) (y0.es.drop k) = Xt Jb x0.es y0.es} => ⟨[(2, .ptr 0 0), (3, .ptr 1 0), (8, i64 (x.1 : Nat))], [(0, .var 30 (Qz x0)), (1, .var 30 (Qz y0))], 2⟩) (fun x => (x0.es).length - x.1) (⟨0, Nat.zero_le _, by simp⟩) ?_ ?_
  ·
   exact Qa rfl (JO trivial) ⟨rfl, rfl, rfl, rfl, rfl, rfl, trivial⟩
  rintro ⟨k, hk, hg⟩
  dsimp only
  refine JA ?_
  refine zc 119 ?_ ?_ <;> intro h107
  rotate_left
  ·
   have hge : x0.es.length ≤ k ∨ y0.es.length ≤ k := .inl (by simpa using h107)
   refine XN ?_; refine Wi ?_
   exact ⟨(by exact Qcg hg.2 hk hg.1 hge), Qa rfl (JI trivial) ⟨rfl, rfl, rfl, rfl, rfl, rfl, trivial⟩⟩
  have hla : k < x0.es.length := by simpa using h107
  refine Q4 ?_
  refine zq ?_ ?_ <;> intro h111
  rotate_left
  ·
   have hge : x0.es.length ≤ k ∨ y0.es.length ≤ k := .inr (by simpa using h111)
   refine Wi ?_
   exact ⟨(by exact Qcg hg.2 hk hg.1 hge), Qa rfl (JI trivial) ⟨rfl, rfl, rfl, rfl, rfl, rfl, trivial⟩⟩
  have hlb : k < y0.es.length := by simpa using h111
  obtain ⟨x, hx⟩ := Qn hla
  obtain ⟨y, hy⟩ := Qn hlb
  refine Qv ?_; refine Qd 11 (by kernel_rfl) (by kernel_rfl) ?_; refine Qs ?_; refine zp (Qf rfl rfl rfl k rfl _ (Qk hx) rfl) ?_
  refine Qv ?_; refine zp (Qf rfl rfl rfl k rfl _ (Qk hy) rfl) ?_; refine zl ?_; refine zp (Qc (QcH x y) rfl rfl rfl) ?_
  change Qj _ _ _ _ _ _; refine Q4 ?_
  refine zq ?_ ?_ <;> intro h121
  ·
   have h0 : Jb x y ≠ 0 := by simpa using h121
   refine Qv ?_; refine zQ ?_
   exact QS (by rw [QtG hNe h8z h16z, YG hg.2 hx hy, if_neg h0])
  have h0 : Jb x y = 0 := by simpa using h121
  refine Jk ?_
  refine Jj 116 rfl (fun hl116 => ?_)
  refine Qv ?_; refine Qb ?_
  exact ⟨⟨k + 1, hla, hlb, by rw [YG hg.2 hx hy, if_pos h0]⟩, Qa rfl (JI ⟨(Q0 (by dsimp only; omega)), rfl, trivial⟩) ⟨rfl, rfl, rfl, rfl, rfl, rfl, trivial⟩, by dsimp only; omega⟩
 intro hFes
 refine XN ?_; refine zP (Qc (Qas _ _) rfl rfl rfl) ?_; refine zS ?_; refine zQ ?_
 exact QS (by rw [QtG hNe h8z h16z, hFes, List.length_map, List.length_map])
theorem Qmk (x y : Qw) : FC Tryz.prog 66 [.agg (Qz x), .agg (Qz y)] (i64 (Jz x y)) := QsA x y (fun u hu v => Qmk u v)
termination_by x
decreasing_by exact Qw.sizeOf_ps ‹_›
theorem Je (x y : Qw) : FC Tryz.prog 21 [.agg (Qz x), .agg (Qz y)] (bl (eqV x y)) := by
 refine Qg [4] Tryz.func21 rfl rfl 9 Tryz.ntmps21 (Nat.le_of_ble_eq_true rfl) ?_
 intro E hN
 refine XB ?_; refine zP (Qc (Qmk x y) rfl rfl rfl) ?_; refine Qu ?_; refine zQ ?_
 rfl
theorem Qq3 {x : Qw} {m : Int} (h : Qbg x m < 0) : m < Kt x := by unfold Qbg at h; split at h <;> omega
theorem Qqb {x : Qw} {m : Int} (h : ¬ Qbg x m < 0) : (Kt x : Int) ≤ m ∧ Qbg x m = m - Kt x := by unfold Qbg at h ⊢; split at h <;> simp_all
theorem Qsw (x0 : Qw) (ih : ∀ u ∈ x0.ps, ∀ m, 0 ≤ m → m ≤ 1000000 → FC Tryz.prog 58 [.agg (Qz u), i64 m] (i64 (Qbg u m))) (m : Int) (h0 : 0 ≤ m) (h1 : m ≤ 1000000) : FC Tryz.prog 58 [.agg (Qz x0), i64 m] (i64 (Qbg x0 m)) := by
 have hnd := QeV x0
 refine Qg [4] Tryz.func58 rfl rfl 71 Tryz.ntmps58 (Nat.le_of_ble_eq_true rfl) ?_
 intro E hN
 refine Jv ?_
 refine zc 9 ?_ ?_ <;> intro h4
 ·
  have h1a := of_decide_eq_true h4
  try rw [List.length_map] at h1a
  refine X6 ?_; refine zQ ?_
  exact QS (Qba (by omega)).symm
 have h1a := of_decide_eq_false h4
 try rw [List.length_map] at h1a
 refine Qv ?_
 refine uP (Xj h4) (KM rfl rfl rfl (by (try simp only [List.length_map]); omega)) ?_
 refine Qs ?_
 refine zq ?_ ?_ <;> intro h9
 ·
  have h1b := of_decide_eq_true h9
  try rw [List.length_map] at h1b
  refine Qs ?_; refine zQ ?_
  exact QS (Qba (by omega)).symm
 have h1b := of_decide_eq_false h9
 try rw [List.length_map] at h1b
 refine Q4 ?_
 refine zP (QZ rfl rfl rfl (by (try simp only [List.length_map]); omega)) ?_
 refine zP (KM rfl rfl rfl (by (try simp only [List.length_map]); omega)) ?_
 refine XN ?_
 refine Ql (fun x : {k : Nat // k ≤ (x0.es).length ∧ (1 + (x0.nm.length : Int) + (QaB (x0.es.take k) : Int)) ≤ m} => ⟨[(2, .ptr 0 0), (1, i64 (m - (1 + (x0.nm.length : Int)) - (QaB (x0.es.take x.1) : Int))), (5, i64 (x.1 : Nat))], [(0, .var 30 (Qz x0))], 1⟩) (fun x => (x0.es).length - x.1) (⟨0, Nat.zero_le _, by simp [QaB]; omega⟩) ?_ ?_
 ·
  exact Qa rfl (Xv ⟨(Q0 (by simp [QaB])), rfl, (Xv trivial)⟩) ⟨rfl, rfl, rfl, trivial⟩
 rintro ⟨k, hk, hg⟩
 dsimp only
 refine JA ?_
 refine zq ?_ ?_ <;> intro h21
 ·
  have hlt : k < (x0.es).length := by simpa using h21
  obtain ⟨x, hx⟩ := Qn hlt
  have e1 := QhV hx
  have e2 := Qmw x0.es (k + 1)
  refine JA ?_
  refine zc 32 ?_ ?_ <;> intro h22
  ·
   have h7a := of_decide_eq_true h22
   try rw [List.length_map] at h7a
   refine Qcb ?_; refine zQ ?_
   exact QS (Qba (by omega)).symm
  have h7a := of_decide_eq_false h22
  try rw [List.length_map] at h7a
  refine Qs ?_; refine uP (Xj h22) (Qf rfl rfl rfl k rfl _ (Qk hx) rfl) ?_; refine Qv ?_
  refine uP (Xj h22) (KM rfl rfl rfl (by (try simp only [List.length_map]); omega)) ?_
  refine Qs ?_
  refine zq ?_ ?_ <;> intro h30
  ·
   have h7b := of_decide_eq_true h30
   try rw [List.length_map] at h7b
   refine Qs ?_; refine zQ ?_
   exact QS (Qba (by omega)).symm
  have h7b := of_decide_eq_false h30
  try rw [List.length_map] at h7b
  refine Q8 ?_; refine zP (Qf rfl rfl rfl k rfl _ (Qk hx) rfl) ?_; refine Qs ?_
  refine zP (QZ rfl rfl rfl (by (try simp only [List.length_map]); omega)) ?_
  refine zP (KM rfl rfl rfl (by (try simp only [List.length_map]); omega)) ?_
  refine Qu ?_
  refine Jj 25 rfl (fun hl25 => ?_)
  refine Qu ?_
  refine zP (QZ rfl rfl rfl (by (try simp only [List.length_map]); omega)) ?_
  refine zS ?_; refine Qb ?_
  exact ⟨⟨k + 1, hlt, by omega⟩, Qa rfl (Xv ⟨(Q0 (by rw [e1, List.length_map]; omega)), rfl, (Q0 (by dsimp only; omega)), rfl, trivial⟩) ⟨rfl, rfl, rfl, trivial⟩, by dsimp only; omega⟩
 have hge : (x0.es).length ≤ k := by simpa using h21
 rw [List.take_of_length_le hge] at hg ⊢
 refine Q4 ?_
 refine Ql (fun x : {k : Nat // k ≤ (x0.ps).length ∧ (1 + (x0.nm.length : Int) + (QaB x0.es : Int) + (Yg (x0.ps.take k) : Int)) ≤ m} => ⟨[(2, .ptr 0 0), (1, i64 (m - (1 + (x0.nm.length : Int)) - (QaB x0.es : Int) - (Yg (x0.ps.take x.1) : Int))), (6, i64 (x.1 : Nat))], [(0, .var 30 (Qz x0))], 1⟩) (fun x => (x0.ps).length - x.1) (⟨0, Nat.zero_le _, by simp [Yg]; omega⟩) ?_ ?_
 ·
  exact Qa rfl (Xv ⟨(Q0 (by simp [Yg])), rfl, (Xv trivial)⟩) ⟨rfl, rfl, rfl, trivial⟩
 rintro ⟨k, hk, hg⟩
 dsimp only
 refine JA ?_
 refine zq ?_ ?_ <;> intro h46
 rotate_left
 ·
  have hge : (x0.ps).length ≤ k := by simpa using h46
  rw [List.take_of_length_le hge] at hg ⊢
  refine QF ?_; refine zQ ?_
  exact QS (by rw [QnI (by omega)]; omega)
 have hlt : k < (x0.ps).length := by simpa using h46
 obtain ⟨x, hx⟩ := Qn hlt
 have e1 := Qka hx
 have e2 := Qn2 x0.ps (k + 1)
 refine XN ?_; refine zP (Qf rfl rfl rfl k rfl _ (QM hx) rfl) ?_; refine Qu ?_
 refine zP (Qc (ih x (List.mem_of_getElem? hx) _ (by omega) (by omega)) rfl rfl rfl) ?_; refine Q4 ?_
 refine zq ?_ ?_ <;> intro h52
 ·
  have h14 := Qq3 (of_decide_eq_true h52)
  refine Qs ?_; refine zQ ?_
  exact QS (Qba (by omega)).symm
 have hrv := Qqb (of_decide_eq_false h52)
 refine Jk ?_
 refine Jj 56 rfl (fun hl56 => ?_)
 refine Qu ?_
 refine zP (QZ rfl rfl rfl (by (try simp only [List.length_map]); omega)) ?_
 refine zS ?_; refine Qb ?_
 exact ⟨⟨k + 1, hlt, by have := hrv.1; omega⟩, Qa rfl (Xv ⟨(Q0 (hrv.2.trans (by dsimp only; rw [e1]; omega))), rfl, (Q0 (by dsimp only; omega)), rfl, trivial⟩) ⟨rfl, rfl, rfl, trivial⟩, by dsimp only; omega⟩
theorem Ql8 (x : Qw) (m : Int) (h0 : 0 ≤ m) (h1 : m ≤ 1000000) : FC Tryz.prog 58 [.agg (Qz x), i64 m] (i64 (Qbg x m)) := Qsw x (fun u hu m h0 h1 => Ql8 u m h0 h1) m h0 h1
termination_by x
decreasing_by exact Qw.sizeOf_ps ‹_›
theorem QcR (x : Qw) (m : Int) (h0 : 0 ≤ m) (h1 : m ≤ 1000000) : FC Tryz.prog 15 [.agg (Qz x), i64 m] (bl (QbK x m)) := by
 refine Qg [4] Tryz.func15 rfl rfl 9 Tryz.ntmps15 (Nat.le_of_ble_eq_true rfl) ?_
 intro E hN
 refine JA ?_; refine zP (Qc (Ql8 x m h0 h1) rfl rfl rfl) ?_; refine Qu ?_; refine zQ ?_
 exact Qm (by unfold QbK Qbg; split <;> simp <;> omega)
end Go.Proofs.YtnkkokmmeplbgaaGreat
