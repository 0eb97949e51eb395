/-
  Contracts: comparisons of numbers, strings, ticks, entries, values.
  Plain laws: the comparisons of ticks, entries are total orders.
-/
import Derived.Test.YtaecccdkjmipeaaGreatB3
import Derived.Test.YtaecccdkjmipeaaGreatA3
import Derived.Test.YtaecccdkjmipeaaGreatA6
import Derived.Sort.Statements
namespace Go.Proofs.YtaecccdkjmipeaaGreat
open Go.RowKit
def lexL {α : Type} (c : α → α → Int) : List α → List α → Int
 | [], [] => 0
 | [], _ :: _ => -1
 | _ :: _, [] => 1
 | a :: ar, b :: br => if c a b = 0 then lexL c ar br else c a b
section
variable {α : Type} {c : α → α → Int} {a b : List α} {k : Nat} {x y : α}
theorem lx_one (e : lexL c (a.drop k) (b.drop k) = lexL c a b) (hx : a[k]? = some x) (hge : b.length ≤ k) : lexL c a b = 1 := by
 rw [← e, drop_get hx, List.drop_of_length_le hge]; rfl
theorem lx_step (e : lexL c (a.drop k) (b.drop k) = lexL c a b) (hx : a[k]? = some x) (hy : b[k]? = some y) : lexL c a b = if c x y = 0 then lexL c (a.drop (k + 1)) (b.drop (k + 1)) else c x y := by
 rw [← e, drop_get hx, drop_get hy, lexL]
theorem lx_less (e : lexL c (a.drop k) (b.drop k) = lexL c a b) (h : a.length ≤ k) (hb : k < b.length) : lexL c a b = -1 := by
 obtain ⟨y, hy⟩ := get_lt hb
 rw [← e, drop_get hy, List.drop_of_length_le h]; rfl
theorem lx_end (e : lexL c (a.drop k) (b.drop k) = lexL c a b) (h : a.length ≤ k) (hb : b.length ≤ k) : lexL c a b = 0 := by
 rw [← e, List.drop_of_length_le h, List.drop_of_length_le hb]; rfl
end
theorem bytesLess_cmp : ∀ (a b : Nm), Lib.compareBytes a b = if Op.bytesLess a b = true then -1 else if (!(Op.bytesLess a b || a == b)) = true then 1 else 0
 | [], [] => rfl
 | [], _ :: _ => rfl
 | _ :: _, [] => rfl
 | x :: a, y :: b => by
  have ih := bytesLess_cmp a b
  unfold Lib.compareBytes Op.bytesLess
  by_cases h1 : x < y
  ·simp [h1]
  by_cases h2 : y < x
  ·have : x ≠ y := fun e => by subst e; exact h1 h2
   simp [h1, h2, this]
  have : x = y := by
   rw [UInt8.lt_iff_toNat_lt] at h1 h2
   exact UInt8.toNat_inj.1 (by omega)
  subst this
  simp [h1, ih]
def cmpTk (t u : Tk) : Int := orE [Lib.compareInt t.1 u.1, Lib.compareInt t.2 u.2]
def cmpEn (p q : En) : Int := orE [Lib.compareBytes p.2 q.2, lexL cmpTk p.1 q.1]
mutual
/-- the order of values -/
def cmpVal : Val → Val → Int
 | .mk N nm ps es, y => if orE [Lib.compareInt N y.N, lexL Lib.compareBytes nm y.nm] ≠ 0 then orE [Lib.compareInt N y.N, lexL Lib.compareBytes nm y.nm] else if cmpVals ps y.ps ≠ 0 then cmpVals ps y.ps else lexL cmpEn es y.es
def cmpVals : List Val → List Val → Int
 | [], [] => 0
 | [], _ :: _ => -1
 | _ :: _, [] => 1
 | a :: r, b :: s => if cmpVal a b = 0 then cmpVals r s else cmpVal a b
end
theorem cmpVals_lex : ∀ a b : List Val, cmpVals a b = lexL cmpVal a b
 | [], [] => by simp [cmpVals, lexL]
 | [], _ :: _ => by simp [cmpVals, lexL]
 | _ :: _, [] => by simp [cmpVals, lexL]
 | a :: r, b :: s => by simp only [cmpVals, lexL]; rw [cmpVals_lex r s]
theorem cmpVal_eq (x y : Val) : cmpVal x y = if orE [Lib.compareInt x.N y.N, lexL Lib.compareBytes x.nm y.nm] ≠ 0 then orE [Lib.compareInt x.N y.N, lexL Lib.compareBytes x.nm y.nm] else if lexL cmpVal x.ps y.ps ≠ 0 then lexL cmpVal x.ps y.ps else lexL cmpEn x.es y.es := by
 cases x with
 | mk N nm ps es => rw [cmpVal, cmpVals_lex]; rfl
theorem cmpstr_fc (a b : Nm) : FC Tryz.prog 157 [sv a, sv b] (i64 (Lib.compareBytes a b)) := fc_pure (vs := [.string ⟨a.toArray⟩, .string ⟨b.toArray⟩]) (fun w => by simpa using shc_CompareString ⟨a.toArray⟩ ⟨b.toArray⟩ w)

set_option maxRecDepth 100000 in
set_option maxHeartbeats 1000000 in
theorem nan_int (x : Int) : FC Tryz.prog 176 [i64 x] (bl false) := by
 refine fc_of_awp [2] Tryz.func176 rfl rfl 6 Tryz.ntmps176 (Nat.le_of_ble_eq_true rfl) ?_
 intro E hN
 refine rn10 ?_; refine zQ ?_
 exact retB (by simp)
set_option maxRecDepth 100000 in
set_option maxHeartbeats 1000000 in
theorem nan_int64 (x : Int) : FC Tryz.prog 125 [i64 x] (bl false) := by
 refine fc_of_awp [2] Tryz.func125 rfl rfl 6 Tryz.ntmps125 (Nat.le_of_ble_eq_true rfl) ?_
 intro E hN
 refine rn10 ?_; refine zQ ?_
 exact retB (by simp)
set_option maxRecDepth 100000 in
set_option maxHeartbeats 1000000 in
theorem nan_str (x : Nm) : FC Tryz.prog 156 [sv x] (bl false) := by
 refine fc_of_awp [2] Tryz.func156 rfl rfl 6 Tryz.ntmps156 (Nat.le_of_ble_eq_true rfl) ?_
 intro E hN
 refine rn10 ?_; refine zQ ?_
 exact retB (by simp)
set_option maxRecDepth 100000 in
set_option maxHeartbeats 1000000 in
theorem cmp_int (x y : Int) : FC Tryz.prog 158 [i64 x, i64 y] (i64 (Lib.compareInt x y)) := by
 refine fc_of_awp [4] Tryz.func158 rfl rfl 20 Tryz.ntmps158 (Nat.le_of_ble_eq_true rfl) ?_
 intro E hN
 refine rn7 ?_; refine zP (q_call (nan_int _) rfl rfl rfl) ?_; refine rn5 ?_; refine zP (q_call (nan_int _) rfl rfl rfl) ?_; refine rn7 ?_
 refine zq ?_ ?_ <;> intro h3
 ·
  cases h3
 refine rn6 ?_
 refine zq ?_ ?_ <;> intro h4
 ·
  cases h4
 refine rn8 ?_
 refine zq ?_ ?_ <;> intro h5
 ·
  refine rn3 ?_; refine zQ ?_
  exact retI (by unfold Lib.compareInt; simp at *; split <;> (try split) <;> omega)
 refine rn8 ?_
 refine zq ?_ ?_ <;> intro h6
 ·
  refine rn3 ?_; refine zQ ?_
  exact retI (by unfold Lib.compareInt; simp at *; split <;> (try split) <;> omega)
 refine rn4 ?_; refine zQ ?_
 exact retI (by unfold Lib.compareInt; simp at *; split <;> (try split) <;> omega)
set_option maxRecDepth 100000 in
set_option maxHeartbeats 1000000 in
theorem cmp_int64 (x y : Int) : FC Tryz.prog 82 [i64 x, i64 y] (i64 (Lib.compareInt x y)) := by
 refine fc_of_awp [4] Tryz.func82 rfl rfl 20 Tryz.ntmps82 (Nat.le_of_ble_eq_true rfl) ?_
 intro E hN
 refine rn7 ?_; refine zP (q_call (nan_int64 _) rfl rfl rfl) ?_; refine rn5 ?_; refine zP (q_call (nan_int64 _) rfl rfl rfl) ?_; refine rn7 ?_
 refine zq ?_ ?_ <;> intro h3
 ·
  cases h3
 refine rn6 ?_
 refine zq ?_ ?_ <;> intro h4
 ·
  cases h4
 refine rn8 ?_
 refine zq ?_ ?_ <;> intro h5
 ·
  refine rn3 ?_; refine zQ ?_
  exact retI (by unfold Lib.compareInt; simp at *; split <;> (try split) <;> omega)
 refine rn8 ?_
 refine zq ?_ ?_ <;> intro h6
 ·
  refine rn3 ?_; refine zQ ?_
  exact retI (by unfold Lib.compareInt; simp at *; split <;> (try split) <;> omega)
 refine rn4 ?_; refine zQ ?_
 exact retI (by unfold Lib.compareInt; simp at *; split <;> (try split) <;> omega)
set_option maxRecDepth 100000 in
set_option maxHeartbeats 1000000 in
theorem cmp_str (x y : Nm) : FC Tryz.prog 126 [sv x, sv y] (i64 (Lib.compareBytes x y)) := by
 refine fc_of_awp [4] Tryz.func126 rfl rfl 20 Tryz.ntmps126 (Nat.le_of_ble_eq_true rfl) ?_
 intro E hN
 refine rn7 ?_; refine zP (q_call (nan_str _) rfl rfl rfl) ?_; refine rn5 ?_; refine zP (q_call (nan_str _) rfl rfl rfl) ?_; refine rn7 ?_
 refine zq ?_ ?_ <;> intro h3
 ·
  cases h3
 refine rn6 ?_
 refine zq ?_ ?_ <;> intro h4
 ·
  cases h4
 refine rn8 ?_
 refine zq ?_ ?_ <;> intro h5
 ·
  have h9 := h5
  refine rn3 ?_; refine zQ ?_
  exact retI (by rw [bytesLess_cmp, if_pos h9])
 have h9 := h5
 refine rn8 ?_
 refine zq ?_ ?_ <;> intro h6
 ·
  have h11 := h6
  refine rn3 ?_; refine zQ ?_
  exact retI (by rw [bytesLess_cmp, if_neg (by simp [h9]), if_pos h11])
 have h11 := h6
 refine rn4 ?_; refine zQ ?_
 exact retI (by rw [bytesLess_cmp, if_neg (by simp [h9]), if_neg (by simp [h11])])
set_option maxRecDepth 100000 in
set_option maxHeartbeats 1000000 in
theorem strcmp_fc (a b : Nm) : FC Tryz.prog 127 [sv a, sv b] (i64 (Lib.compareBytes a b)) := by
 refine fc_of_awp [4] Tryz.func127 rfl rfl 8 Tryz.ntmps127 (Nat.le_of_ble_eq_true rfl) ?_
 intro E hN
 refine rn8 ?_; refine zP (q_call (cmpstr_fc a b) rfl rfl rfl) ?_; refine zS ?_; refine zQ ?_
 rfl
set_option maxRecDepth 100000 in
set_option maxHeartbeats 1000000 in
theorem orI_fc (l : List Int) : FC Tryz.prog 81 [ivs l] (i64 (orE l)) := by
 refine fc_of_awp [2] Tryz.func81 rfl rfl 18 Tryz.ntmps81 (Nat.le_of_ble_eq_true rfl) ?_
 intro E hN
 refine a_lm 0 rfl (fun hl0 => ?_)
 refine rn16 ?_
 refine awp_loop (fun x : {k : Nat // k ≤ (l).length ∧ orE (l.drop k) = orE l} => ⟨[(3, i64 0), (6, ivs l), (7, i64 l.length), (8, i64 (x.1 : Nat))], [], 0⟩) (fun x => (l).length - x.1) (⟨0, Nat.zero_le _, by simp⟩) ?_ ?_
 ·
  exact weak_scrub' rfl (zz2 ⟨(cgI (by simp)), rfl, (zz1 trivial)⟩) trivial
 rintro ⟨k, hk, hg⟩
 dsimp only
 refine rn5 ?_
 refine zq ?_ ?_ <;> intro h6
 ·
  have hlt : k < (l).length := by simpa using h6
  obtain ⟨x, hx⟩ := get_lt hlt
  have hs : orE l = if x == 0 then orE (l.drop (k + 1)) else x := by rw [← hg, drop_get hx]; rfl
  refine rn5 ?_; refine zP (q_elem rfl rfl rfl k rfl _ (map_get hx) rfl) ?_; refine rn9 ?_
  refine zq ?_ ?_ <;> intro h9
  ·
   refine rn4 ?_; refine zQ ?_
   exact retI (by rw [hs, if_neg (by simp_all)])
  have hn : orE (l.drop (k + 1)) = orE l := by rw [hs, if_pos (by simpa using h9)]
  refine rn2 ?_; refine zP (q_addi rfl rfl rfl (by omega)) ?_; refine zM ?_; refine aops_nil ?_
  exact ⟨⟨k + 1, hlt, hn⟩, weak_scrub' rfl (zz3 ⟨(cgI (by dsimp only; omega)), rfl, trivial⟩) trivial, by dsimp only; omega⟩
 have hge : (l).length ≤ k := by simpa using h6
 refine rn5 ?_; refine zQ ?_
 exact retI (by rw [← hg, List.drop_of_length_le hge]; rfl)
set_option maxRecDepth 100000 in
set_option maxHeartbeats 1000000 in
theorem cmpNm_fc (a b : List Nm) : FC Tryz.prog 83 [svs a, svs b] (i64 (lexL Lib.compareBytes a b)) := by
 refine fc_of_awp [4] Tryz.func83 rfl rfl 36 Tryz.ntmps83 (Nat.le_of_ble_eq_true rfl) ?_
 intro E hN
 refine a_lm 0 rfl (fun hl0 => ?_)
 refine a_lm 1 rfl (fun hl1 => ?_)
 refine rn12 ?_
 refine awp_loop (fun x : {k : Nat // k ≤ (a).length ∧ k ≤ b.length ∧ lexL Lib.compareBytes (a.drop k) (b.drop k) = lexL Lib.compareBytes a b} => ⟨[(0, svs a), (1, svs b), (9, svs a), (10, i64 a.length), (11, i64 (x.1 : Nat))], [], 0⟩) (fun x => (a).length - x.1) (⟨0, Nat.zero_le _, by simp⟩) ?_ ?_
 ·
  exact weak_scrub' rfl (zz3 ⟨(cgI (by simp)), rfl, (zz1 trivial)⟩) trivial
 rintro ⟨k, hk, hg⟩
 dsimp only
 obtain ⟨hkb, hg⟩ := hg
 refine rn5 ?_
 refine zq ?_ ?_ <;> intro h7
 ·
  have hlt : k < (a).length := by simpa using h7
  obtain ⟨x, hx⟩ := get_lt hlt
  refine rn6 ?_; refine zP (q_elem rfl rfl rfl k rfl _ (map_get hx) rfl) ?_; refine rn12 ?_
  refine zq ?_ ?_ <;> intro h11
  ·
   have hgb : b.length ≤ k := by simpa using h11
   refine rn3 ?_; refine zQ ?_
   exact retI (lx_one hg hx hgb).symm
  have hlb : k < b.length := by simpa using h11
  obtain ⟨y, hy⟩ := get_lt hlb
  have hs := lx_step hg hx hy
  refine rn5 ?_; refine zP (q_elem rfl rfl rfl k rfl _ (map_get hy) rfl) ?_; refine rn7 ?_; refine zP (q_call (cmp_str x y) rfl rfl rfl) ?_
  refine rn7 ?_
  refine zq ?_ ?_ <;> intro h15
  ·
   have h8 : ¬ Lib.compareBytes x y = 0 := by simpa using h15
   refine rn4 ?_; refine zQ ?_
   exact retI (by rw [hs, if_neg h8])
  have h8 : Lib.compareBytes x y = 0 := by simpa using h15
  have hn : lexL Lib.compareBytes (a.drop (k + 1)) (b.drop (k + 1)) = lexL Lib.compareBytes a b := by rw [hs, if_pos h8]
  refine rn2 ?_; refine zP (q_addi rfl rfl rfl (by omega)) ?_; refine zM ?_; refine aops_nil ?_
  exact ⟨⟨k + 1, hlt, hlb, hn⟩, weak_scrub' rfl (zz4 ⟨(cgI (by dsimp only; omega)), rfl, trivial⟩) trivial, by dsimp only; omega⟩
 have hge : (a).length ≤ k := by simpa using h7
 refine rn10 ?_
 refine zq ?_ ?_ <;> intro h19
 ·
  have h11 := h19
  refine rn3 ?_; refine zQ ?_
  exact retI (lx_less hg hge (by simp at h11; omega)).symm
 have h11 := h19
 refine rn4 ?_; refine zQ ?_
 exact retI (lx_end hg hge (by simp at h11; omega)).symm
set_option maxRecDepth 100000 in
set_option maxHeartbeats 1000000 in
theorem cmpFT_fc {f : FuncId} [TFn Tryz.prog f] {c : Tk → Tk → Int} (a b : List Tk) (hc : ∀ x ∈ a, ∀ y, FC Tryz.prog f [.agg (tkC x), .agg (tkC y)] (i64 (c x y))) : FC Tryz.prog 128 [tks a, tks b, .fn f []] (i64 (lexL c a b)) := by
 refine fc_of_awp [6] Tryz.func128 rfl rfl 39 Tryz.ntmps128 (Nat.le_of_ble_eq_true rfl) ?_
 intro E hN
 refine a_lm 0 rfl (fun hl0 => ?_)
 refine a_lm 1 rfl (fun hl1 => ?_)
 refine rn12 ?_
 refine awp_loop (fun x : {k : Nat // k ≤ (a).length ∧ k ≤ b.length ∧ lexL c (a.drop k) (b.drop k) = lexL c a b} => ⟨[(0, tks a), (1, tks b), (2, .fn f []), (11, tks a), (12, i64 a.length), (13, i64 (x.1 : Nat))], [], 0⟩) (fun x => (a).length - x.1) (⟨0, Nat.zero_le _, by simp⟩) ?_ ?_
 ·
  exact weak_scrub' rfl (zz4 ⟨(cgI (by simp)), rfl, (zz1 trivial)⟩) trivial
 rintro ⟨k, hk, hg⟩
 dsimp only
 obtain ⟨hkb, hg⟩ := hg
 refine rn5 ?_
 refine zq ?_ ?_ <;> intro h8
 ·
  have hlt : k < (a).length := by simpa using h8
  obtain ⟨x, hx⟩ := get_lt hlt
  refine rn6 ?_; refine zP (q_elem rfl rfl rfl k rfl _ (map_get hx) rfl) ?_; refine rn13 ?_
  refine zq ?_ ?_ <;> intro h14
  ·
   have hgb : b.length ≤ k := by simpa using h14
   refine rn3 ?_; refine zQ ?_
   exact retI (lx_one hg hx hgb).symm
  have hlb : k < b.length := by simpa using h14
  obtain ⟨y, hy⟩ := get_lt hlb
  have hs := lx_step hg hx hy
  refine rn5 ?_; refine zP (q_elem rfl rfl rfl k rfl _ (map_get hy) rfl) ?_; refine rn9 ?_
  refine zP (q_callv (hc x (List.mem_of_getElem? hx) y) rfl rfl rfl rfl) ?_; refine rn7 ?_
  refine zq ?_ ?_ <;> intro h22
  ·
   have h8 : ¬ c x y = 0 := by simpa using h22
   refine rn4 ?_; refine zQ ?_
   exact retI (by rw [hs, if_neg h8])
  have h8 : c x y = 0 := by simpa using h22
  have hn : lexL c (a.drop (k + 1)) (b.drop (k + 1)) = lexL c a b := by rw [hs, if_pos h8]
  refine rn2 ?_; refine zP (q_addi rfl rfl rfl (by omega)) ?_; refine zM ?_; refine aops_nil ?_
  exact ⟨⟨k + 1, hlt, hlb, hn⟩, weak_scrub' rfl (zz4 (zz1 ⟨(cgI (by dsimp only; omega)), rfl, trivial⟩)) trivial, by dsimp only; omega⟩
 have hge : (a).length ≤ k := by simpa using h8
 refine rn10 ?_
 refine zq ?_ ?_ <;> intro h26
 ·
  have h11 := h26
  refine rn3 ?_; refine zQ ?_
  exact retI (lx_less hg hge (by simp at h11; omega)).symm
 have h11 := h26
 refine rn4 ?_; refine zQ ?_
 exact retI (lx_end hg hge (by simp at h11; omega)).symm
set_option maxRecDepth 100000 in
set_option maxHeartbeats 1000000 in
theorem cmpFE_fc {f : FuncId} [TFn Tryz.prog f] {c : En → En → Int} (a b : List En) (hc : ∀ x ∈ a, ∀ y, FC Tryz.prog f [.agg (enC x), .agg (enC y)] (i64 (c x y))) : FC Tryz.prog 85 [ens a, ens b, .fn f []] (i64 (lexL c a b)) := by
 refine fc_of_awp [6] Tryz.func85 rfl rfl 39 Tryz.ntmps85 (Nat.le_of_ble_eq_true rfl) ?_
 intro E hN
 refine a_lm 0 rfl (fun hl0 => ?_)
 refine a_lm 1 rfl (fun hl1 => ?_)
 refine rn12 ?_
 refine awp_loop (fun x : {k : Nat // k ≤ (a).length ∧ k ≤ b.length ∧ lexL c (a.drop k) (b.drop k) = lexL c a b} => ⟨[(0, ens a), (1, ens b), (2, .fn f []), (11, ens a), (12, i64 a.length), (13, i64 (x.1 : Nat))], [], 0⟩) (fun x => (a).length - x.1) (⟨0, Nat.zero_le _, by simp⟩) ?_ ?_
 ·
  exact weak_scrub' rfl (zz4 ⟨(cgI (by simp)), rfl, (zz1 trivial)⟩) trivial
 rintro ⟨k, hk, hg⟩
 dsimp only
 obtain ⟨hkb, hg⟩ := hg
 refine rn5 ?_
 refine zq ?_ ?_ <;> intro h8
 ·
  have hlt : k < (a).length := by simpa using h8
  obtain ⟨x, hx⟩ := get_lt hlt
  refine rn6 ?_; refine zP (q_elem rfl rfl rfl k rfl _ (map_get hx) rfl) ?_; refine rn13 ?_
  refine zq ?_ ?_ <;> intro h14
  ·
   have hgb : b.length ≤ k := by simpa using h14
   refine rn3 ?_; refine zQ ?_
   exact retI (lx_one hg hx hgb).symm
  have hlb : k < b.length := by simpa using h14
  obtain ⟨y, hy⟩ := get_lt hlb
  have hs := lx_step hg hx hy
  refine rn5 ?_; refine zP (q_elem rfl rfl rfl k rfl _ (map_get hy) rfl) ?_; refine rn9 ?_
  refine zP (q_callv (hc x (List.mem_of_getElem? hx) y) rfl rfl rfl rfl) ?_; refine rn7 ?_
  refine zq ?_ ?_ <;> intro h22
  ·
   have h8 : ¬ c x y = 0 := by simpa using h22
   refine rn4 ?_; refine zQ ?_
   exact retI (by rw [hs, if_neg h8])
  have h8 : c x y = 0 := by simpa using h22
  have hn : lexL c (a.drop (k + 1)) (b.drop (k + 1)) = lexL c a b := by rw [hs, if_pos h8]
  refine rn2 ?_; refine zP (q_addi rfl rfl rfl (by omega)) ?_; refine zM ?_; refine aops_nil ?_
  exact ⟨⟨k + 1, hlt, hlb, hn⟩, weak_scrub' rfl (zz4 (zz1 ⟨(cgI (by dsimp only; omega)), rfl, trivial⟩)) trivial, by dsimp only; omega⟩
 have hge : (a).length ≤ k := by simpa using h8
 refine rn10 ?_
 refine zq ?_ ?_ <;> intro h26
 ·
  have h11 := h26
  refine rn3 ?_; refine zQ ?_
  exact retI (lx_less hg hge (by simp at h11; omega)).symm
 have h11 := h26
 refine rn4 ?_; refine zQ ?_
 exact retI (lx_end hg hge (by simp at h11; omega)).symm
set_option maxRecDepth 100000 in
set_option maxHeartbeats 1000000 in
theorem cmpFV_fc {f : FuncId} [TFn Tryz.prog f] {c : Val → Val → Int} (a b : List Val) (hc : ∀ x ∈ a, ∀ y, FC Tryz.prog f [.agg (valL x), .agg (valL y)] (i64 (c x y))) : FC Tryz.prog 84 [vals a, vals b, .fn f []] (i64 (lexL c a b)) := by
 refine fc_of_awp [6] Tryz.func84 rfl rfl 39 Tryz.ntmps84 (Nat.le_of_ble_eq_true rfl) ?_
 intro E hN
 refine a_lm 0 rfl (fun hl0 => ?_)
 refine a_lm 1 rfl (fun hl1 => ?_)
 refine rn12 ?_
 refine awp_loop (fun x : {k : Nat // k ≤ (a).length ∧ k ≤ b.length ∧ lexL c (a.drop k) (b.drop k) = lexL c a b} => ⟨[(0, vals a), (1, vals b), (2, .fn f []), (11, vals a), (12, i64 a.length), (13, i64 (x.1 : Nat))], [], 0⟩) (fun x => (a).length - x.1) (⟨0, Nat.zero_le _, by simp⟩) ?_ ?_
 ·
  exact weak_scrub' rfl (zz4 ⟨(cgI (by simp)), rfl, (zz1 trivial)⟩) trivial
 rintro ⟨k, hk, hg⟩
 dsimp only
 obtain ⟨hkb, hg⟩ := hg
 refine rn5 ?_
 refine zq ?_ ?_ <;> intro h8
 ·
  have hlt : k < (a).length := by simpa using h8
  obtain ⟨x, hx⟩ := get_lt hlt
  refine rn6 ?_; refine zP (q_elem rfl rfl rfl k rfl _ (val_get hx) rfl) ?_; refine rn13 ?_
  refine zq ?_ ?_ <;> intro h14
  ·
   have hgb : b.length ≤ k := by simpa using h14
   refine rn3 ?_; refine zQ ?_
   exact retI (lx_one hg hx hgb).symm
  have hlb : k < b.length := by simpa using h14
  obtain ⟨y, hy⟩ := get_lt hlb
  have hs := lx_step hg hx hy
  refine rn5 ?_; refine zP (q_elem rfl rfl rfl k rfl _ (val_get hy) rfl) ?_; refine rn9 ?_
  refine zP (q_callv (hc x (List.mem_of_getElem? hx) y) rfl rfl rfl rfl) ?_; refine rn7 ?_
  refine zq ?_ ?_ <;> intro h22
  ·
   have h8 : ¬ c x y = 0 := by simpa using h22
   refine rn4 ?_; refine zQ ?_
   exact retI (by rw [hs, if_neg h8])
  have h8 : c x y = 0 := by simpa using h22
  have hn : lexL c (a.drop (k + 1)) (b.drop (k + 1)) = lexL c a b := by rw [hs, if_pos h8]
  refine rn2 ?_; refine zP (q_addi rfl rfl rfl (by omega)) ?_; refine zM ?_; refine aops_nil ?_
  exact ⟨⟨k + 1, hlt, hlb, hn⟩, weak_scrub' rfl (zz4 (zz1 ⟨(cgI (by dsimp only; omega)), rfl, trivial⟩)) trivial, by dsimp only; omega⟩
 have hge : (a).length ≤ k := by simpa using h8
 refine rn10 ?_
 refine zq ?_ ?_ <;> intro h26
 ·
  have h11 := h26
  refine rn3 ?_; refine zQ ?_
  exact retI (lx_less hg hge (by simp at h11; omega)).symm
 have h11 := h26
 refine rn4 ?_; refine zQ ?_
 exact retI (lx_end hg hge (by simp at h11; omega)).symm
set_option maxRecDepth 100000 in
set_option maxHeartbeats 1000000 in
theorem cmpTk_fc (x y : Tk) : FC Tryz.prog 129 [.agg (tkC x), .agg (tkC y)] (i64 (cmpTk x y)) := by
 refine fc_of_awp [4] Tryz.func129 rfl rfl 17 Tryz.ntmps129 (Nat.le_of_ble_eq_true rfl) ?_
 intro E hN
 refine rn7 ?_; refine awp_draw 12 (by kernel_rfl) (by kernel_rfl) ?_; refine rn4 ?_; refine zp (q_call (cmp_int _ _) rfl rfl rfl) ?_; refine rn4 ?_
 refine zp (q_call (cmp_int64 _ _) rfl rfl rfl) ?_; refine zp (q_bslice rfl rfl rfl rfl (by exact rfl) (by decide) (by decide)) ?_
 refine zp (q_call (orI_fc [Lib.compareInt x.1 y.1, Lib.compareInt x.2 y.2]) rfl rfl rfl) ?_; change AOps _ _ _ _ _ _; refine zS ?_; refine zQ ?_
 rfl
set_option maxRecDepth 100000 in
set_option maxHeartbeats 1000000 in
theorem cmpEn_fc (x y : En) : FC Tryz.prog 86 [.agg (enC x), .agg (enC y)] (i64 (cmpEn x y)) := by
 refine fc_of_awp [4] Tryz.func86 rfl rfl 17 Tryz.ntmps86 (Nat.le_of_ble_eq_true rfl) ?_
 intro E hN
 refine rn7 ?_; refine awp_draw 12 (by kernel_rfl) (by kernel_rfl) ?_; refine rn4 ?_; refine zp (q_call (strcmp_fc _ _) rfl rfl rfl) ?_; refine rn4 ?_
 refine zp (q_call (cmpFT_fc x.1 y.1 (fun u _ v => cmpTk_fc u v)) rfl rfl rfl) ?_
 refine zp (q_bslice rfl rfl rfl rfl (by exact rfl) (by decide) (by decide)) ?_
 refine zp (q_call (orI_fc [Lib.compareBytes x.2 y.2, lexL cmpTk x.1 y.1]) rfl rfl rfl) ?_; change AOps _ _ _ _ _ _; refine zS ?_; refine zQ ?_
 rfl
set_option maxRecDepth 100000 in
set_option maxHeartbeats 1000000 in
theorem cmpVal_s (x y : Val) (ih : ∀ u ∈ x.ps, ∀ v, FC Tryz.prog 50 [.agg (valL u), .agg (valL v)] (i64 (cmpVal u v))) : FC Tryz.prog 50 [.agg (valL x), .agg (valL y)] (i64 (cmpVal x y)) := by
 refine fc_of_awp [4] Tryz.func50 rfl rfl 35 Tryz.ntmps50 (Nat.le_of_ble_eq_true rfl) ?_
 intro E hN
 refine rn8 ?_; refine awp_draw 12 (by kernel_rfl) (by kernel_rfl) ?_; refine rn4 ?_; refine zp (q_call (cmp_int64 _ _) rfl rfl rfl) ?_; refine rn4 ?_
 refine zp (q_call (cmpNm_fc _ _) rfl rfl rfl) ?_; refine zp (q_bslice rfl rfl rfl rfl (by exact rfl) (by decide) (by decide)) ?_
 refine zp (q_call (orI_fc [Lib.compareInt x.N y.N, lexL Lib.compareBytes x.nm y.nm]) rfl rfl rfl) ?_; change AOps _ _ _ _ _ _; refine rn7 ?_
 refine zq ?_ ?_ <;> intro h17
 ·
  have h2 := h17
  refine rn4 ?_; refine zQ ?_
  exact retI (by rw [cmpVal_eq, if_pos (by simpa using h2)])
 have h2 := h17
 refine rn8 ?_; refine zP (q_call (cmpFV_fc x.ps y.ps ih) rfl rfl rfl) ?_; refine rn7 ?_
 refine zq ?_ ?_ <;> intro h23
 ·
  have h5 := h23
  refine rn4 ?_; refine zQ ?_
  exact retI (by rw [cmpVal_eq, if_neg (by simpa using h2), if_pos (by simpa using h5)])
 have h5 := h23
 refine rn7 ?_; refine zP (q_call (cmpFE_fc x.es y.es (fun u _ v => cmpEn_fc u v)) rfl rfl rfl) ?_; refine zS ?_; refine zQ ?_
 exact retI (by rw [cmpVal_eq, if_neg (by simpa using h2), if_neg (by simpa using h5)])
theorem cmpVal_fc (x y : Val) : FC Tryz.prog 50 [.agg (valL x), .agg (valL y)] (i64 (cmpVal x y)) := cmpVal_s x y (fun u _ v => cmpVal_fc u v)
termination_by x
decreasing_by exact Val.sizeOf_ps ‹_›
def eqV (x y : Val) : Bool := cmpVal x y == 0
set_option maxRecDepth 100000 in
set_option maxHeartbeats 1000000 in
theorem eqV_fc (x y : Val) : FC Tryz.prog 111 [.agg (valL x), .agg (valL y)] (bl (eqV x y)) := by
 refine fc_of_awp [4] Tryz.func111 rfl rfl 9 Tryz.ntmps111 (Nat.le_of_ble_eq_true rfl) ?_
 intro E hN
 refine rn10 ?_; refine zP (q_call (cmpVal_fc x y) rfl rfl rfl) ?_; refine rn2 ?_; refine zQ ?_
 rfl
end Go.Proofs.YtaecccdkjmipeaaGreat

namespace Go.Proofs.YtaecccdkjmipeaaGreat
open Go.RowKit

structure CmpOk {α : Type} (c : α → α → Int) : Prop where
 anti : ∀ x y, c x y ≤ 0 ↔ 0 ≤ c y x
 trans : ∀ x y z, c x y ≤ 0 → c y z ≤ 0 → c x z ≤ 0
 eq : ∀ x y, c x y = 0 → x = y
theorem CmpOk.refl {α : Type} {c : α → α → Int} (h : CmpOk c) (x : α) : c x x = 0 := by
 have := h.anti x x
 omega
theorem CmpOk.zero {α : Type} {c : α → α → Int} (h : CmpOk c) {x y : α} (e : c x y = 0) : c y x = 0 := by
 obtain rfl := h.eq _ _ e
 exact e
theorem CmpOk.swo {α β : Type} {c : α → α → Int} (h : CmpOk c) (f : β → α) : Sort.SWO (fun x y : β => decide (c (f x) (f y) < 0)) where
 irrefl x := by simp [h.refl]
 trans x y z h1 h2 := by
  simp only [decide_eq_true_eq] at *
  have a1 := h.anti (f x) (f z)
  have a2 := h.anti (f z) (f x)
  have a3 := h.anti (f y) (f z)
  have a4 := h.anti (f z) (f y)
  by_cases hz : c (f z) (f x) ≤ 0
  ·have := h.trans _ _ _ hz (show c (f x) (f y) ≤ 0 by omega)
   omega
  omega
 ntrans x y z h1 h2 := by
  simp only [decide_eq_false_iff_not] at *
  have a1 := h.anti (f y) (f x)
  have a2 := h.anti (f z) (f y)
  have a3 := h.anti (f z) (f x)
  have := h.trans (f z) (f y) (f x) (by omega) (by omega)
  omega
def lex2 {α : Type} (c1 c2 : α → α → Int) (x y : α) : Int := if c1 x y = 0 then c2 x y else c1 x y

theorem lexL_ok {α : Type} {c : α → α → Int} (h : CmpOk c) : CmpOk (lexL c) where
 anti x y := by
  induction x generalizing y with
  | nil => cases y <;> simp [lexL]
  | cons a ar ih =>
   cases y with
   | nil => simp [lexL]
   | cons b br =>
    simp only [lexL]
    have a1 := h.anti a b
    have a2 := h.anti b a
    by_cases e : c a b = 0
    ·rw [if_pos e, if_pos (h.zero e)]; exact ih br
    have e2 : c b a ≠ 0 := fun e2 => e (h.zero e2)
    rw [if_neg e, if_neg e2]; exact a1
 trans x y z h1 h2 := by
  induction x generalizing y z with
  | nil => cases z <;> simp [lexL]
  | cons a ar ih =>
   cases y with
   | nil => simp [lexL] at h1
   | cons b br =>
    cases z with
    | nil => simp [lexL] at h2
    | cons d dr =>
     simp only [lexL] at *
     have t := h.trans a b d
     have t2 := h.trans b d a
     have t3 := h.trans d a b
     have p1 := h.anti a b
     have p2 := h.anti b a
     have p3 := h.anti b d
     have p4 := h.anti d b
     have p5 := h.anti a d
     have p6 := h.anti d a
     by_cases e1 : c a b = 0
     ·obtain rfl := h.eq _ _ e1
      rw [if_pos e1] at h1
      by_cases e2 : c a d = 0
      ·rw [if_pos e2] at h2 ⊢; exact ih _ _ h1 h2
      rw [if_neg e2] at h2 ⊢; exact h2
     rw [if_neg e1] at h1
     by_cases e2 : c b d = 0
     ·obtain rfl := h.eq _ _ e2
      rw [if_neg e1]; exact h1
     rw [if_neg e2] at h2
     have e3 : c a d ≠ 0 := by
      intro e3
      obtain rfl := h.eq _ _ e3
      omega
     rw [if_neg e3]; exact t h1 h2
 eq x y e := by
  induction x generalizing y with
  | nil => cases y <;> simp [lexL] at *
  | cons a ar ih =>
   cases y with
   | nil => simp [lexL] at e
   | cons b br =>
    simp only [lexL] at e
    by_cases e1 : c a b = 0
    ·rw [if_pos e1] at e; rw [h.eq _ _ e1, ih _ e]
    rw [if_neg e1] at e; exact absurd e e1
theorem compareInt_ok : CmpOk Lib.compareInt where
 anti x y := by unfold Lib.compareInt; split <;> split <;> (try split) <;> omega
 trans x y z := by unfold Lib.compareInt; split <;> split <;> (try split) <;> (try split) <;> (try split) <;> omega
 eq x y := by unfold Lib.compareInt; split <;> (try split) <;> omega
theorem lex2_ok {α β γ : Type} {c1 : β → β → Int} {c2 : γ → γ → Int} (f : α → β) (g : α → γ) (h1 : CmpOk c1) (h2 : CmpOk c2) (inj : ∀ x y, f x = f y → g x = g y → x = y) :
  CmpOk (lex2 (fun x y => c1 (f x) (f y)) (fun x y => c2 (g x) (g y))) where
 anti x y := by
  simp only [lex2]
  have a1 := h1.anti (f x) (f y)
  have a2 := h1.anti (f y) (f x)
  by_cases e : c1 (f x) (f y) = 0
  ·rw [if_pos e, if_pos (h1.zero e)]; exact h2.anti _ _
  have e2 : c1 (f y) (f x) ≠ 0 := fun e2 => e (h1.zero e2)
  rw [if_neg e, if_neg e2]; exact a1
 trans x y z k1 k2 := by
  simp only [lex2] at *
  by_cases e1 : c1 (f x) (f y) = 0
  ·have q := h1.eq _ _ e1
   rw [if_pos e1] at k1
   rw [q]
   by_cases e2 : c1 (f y) (f z) = 0
   ·rw [if_pos e2] at k2 ⊢; exact h2.trans _ _ _ k1 k2
   rw [if_neg e2] at k2 ⊢; exact k2
  rw [if_neg e1] at k1
  by_cases e2 : c1 (f y) (f z) = 0
  ·have q := h1.eq _ _ e2
   rw [← q, if_neg e1]; exact k1
  rw [if_neg e2] at k2
  have e3 : c1 (f x) (f z) ≠ 0 := by
   intro e3
   have q := h1.eq _ _ e3
   rw [q] at k1 e1
   have := h1.anti (f y) (f z)
   have := h1.anti (f z) (f y)
   omega
  rw [if_neg e3]; exact h1.trans _ _ _ k1 k2
 eq x y e := by
  simp only [lex2] at e
  by_cases e1 : c1 (f x) (f y) = 0
  ·rw [if_pos e1] at e; exact inj _ _ (h1.eq _ _ e1) (h2.eq _ _ e)
  rw [if_neg e1] at e; exact absurd e e1
theorem orE2 (a b : Int) : orE [a, b] = if a = 0 then b else a := by
 simp only [orE]
 by_cases h : a = 0 <;> by_cases h2 : b = 0 <;> simp [h, h2]
theorem cmpTk_ok : CmpOk cmpTk := by
 have : cmpTk = lex2 (fun x y : Tk => Lib.compareInt x.1 y.1) (fun x y : Tk => Lib.compareInt x.2 y.2) := by
  funext x y; rw [cmpTk, orE2]; rfl
 rw [this]
 exact lex2_ok _ _ compareInt_ok compareInt_ok fun x y h1 h2 => Prod.ext h1 h2
def cmpU (a b : UInt8) : Int := if a < b then -1 else if b < a then 1 else 0
theorem cmpU_ok : CmpOk cmpU := by
 have e : ∀ a b : UInt8, cmpU a b = Lib.compareInt a.toNat b.toNat := fun a b => by
  have h1 : (a < b) = ((a.toNat : Int) < b.toNat) := by rw [UInt8.lt_iff_toNat_lt]; simp
  have h2 : (b < a) = ((b.toNat : Int) < a.toNat) := by rw [UInt8.lt_iff_toNat_lt]; simp
  unfold cmpU Lib.compareInt
  simp only [h1, h2, gt_iff_lt]
 exact ⟨fun x y => by rw [e, e]; exact compareInt_ok.anti _ _, fun x y z => by rw [e, e, e]; exact compareInt_ok.trans _ _ _, fun x y h => by
  rw [e] at h
  have := compareInt_ok.eq _ _ h
  exact UInt8.toNat_inj.1 (by omega)⟩
theorem compareBytes_ok : CmpOk Lib.compareBytes := by
 have : Lib.compareBytes = lexL cmpU := by
  funext x y
  induction x generalizing y with
  | nil => cases y <;> rfl
  | cons a ar ih => cases y with
   | nil => rfl
   | cons b br =>
    simp only [Lib.compareBytes, lexL]
    rw [ih]
    unfold cmpU
    by_cases h1 : a < b
    ·simp [h1]
    by_cases h2 : b < a
    ·simp [h1, h2]
    simp [h1, h2]
 rw [this]; exact lexL_ok cmpU_ok
theorem cmpEn_ok : CmpOk cmpEn := by
 have : cmpEn = lex2 (fun x y : En => Lib.compareBytes x.2 y.2) (fun x y : En => lexL cmpTk x.1 y.1) := by
  funext x y; rw [cmpEn, orE2]; rfl
 rw [this]
 exact lex2_ok _ _ compareBytes_ok (lexL_ok cmpTk_ok) fun x y h1 h2 => Prod.ext h2 h1
end Go.Proofs.YtaecccdkjmipeaaGreat
