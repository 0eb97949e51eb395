/-
  Contracts: the reference's comparison of values, their size; equal numbers.
  Contracts: the size of values; equal numbers; what the laws take for small and valid.
-/
import Derived.Test.YthldgioggjpnpaaGreatB11
import Derived.Test.YthldgioggjpnpaaGreatA4
namespace Go.Proofs.YthldgioggjpnpaaGreat
open Go.RowKit
def signI (b : Bool) : Int := if b then -1 else 1
def lenI (m n : Nat) : Int := if m = n then 0 else signI (decide (m < n))
theorem ci_ne {x y : Int} (h : x ≠ y) : Lib.compareInt x y = signI (decide (x < y)) := by
 unfold Lib.compareInt signI
 rcases Int.lt_trichotomy x y with h1 | h1 | h1
 ·simp [h1]
 ·exact absurd h1 h
 have h2 : ¬ x < y := by omega
 simp [h1, h2]
theorem ci_eq (x : Int) : Lib.compareInt x x = 0 := by unfold Lib.compareInt; simp
theorem cb_ne {x y : Nm} (h : x ≠ y) : Lib.compareBytes x y = signI (Op.bytesLess x y) := by
 rw [bytesLess_cmp]
 unfold signI
 cases h1 : Op.bytesLess x y <;> simp [h]
theorem sg_ne (b : Bool) : signI b ≠ 0 := by unfold signI; split <;> decide
theorem tk_1 {x y : Tk} (h : x.1 ≠ y.1) : cmpTk x y = signI (decide (x.1 < y.1)) := by
 rw [cmpTk, orE2, ci_ne h, if_neg (sg_ne _)]
theorem tk_2 {x y : Tk} (h1 : x.1 = y.1) (h : x.2 ≠ y.2) : cmpTk x y = signI (decide (x.2 < y.2)) := by
 rw [cmpTk, orE2, h1, ci_eq, if_pos rfl, ci_ne h]
theorem tk_0 {x y : Tk} (h1 : x.1 = y.1) (h : x.2 = y.2) : cmpTk x y = 0 := by
 rw [cmpTk, orE2, h1, h, ci_eq, ci_eq]; rfl
theorem en_1 {x y : En} (h : x.2 ≠ y.2) : cmpEn x y = signI (Op.bytesLess x.2 y.2) := by
 rw [cmpEn, orE2, cb_ne h, if_neg (sg_ne _)]
theorem en_2 {x y : En} (h : x.2 = y.2) : cmpEn x y = lexL cmpTk x.1 y.1 := by
 rw [cmpEn, orE2, h, compareBytes_ok.refl, if_pos rfl]
section
variable {α : Type} {c : α → α → Int} {a b : List α} {k : Nat}
theorem lx_len (e : lexL c (a.drop k) (b.drop k) = lexL c a b) (hk : k ≤ a.length) (hk2 : k ≤ b.length) (h : a.length ≤ k ∨ b.length ≤ k) : lexL c a b = lenI a.length b.length := by
 have one : ∀ (l : List α), l.length = k → l.drop k = [] := fun l h => List.drop_of_length_le (by omega)
 unfold lenI
 rcases Nat.lt_trichotomy a.length b.length with h1 | h1 | h1
 ·have := one a (by omega)
  obtain ⟨y, hy⟩ := get_lt (show k < b.length by omega)
  rw [← e, this, drop_get hy, if_neg (by omega)]
  simp [lexL, signI, h1]
 ·have := one a (by omega)
  have := one b (by omega)
  rw [← e, this, one a (by omega), if_pos h1]; rfl
 have := one b (by omega)
 obtain ⟨y, hy⟩ := get_lt (show k < a.length by omega)
 rw [← e, this, drop_get hy, if_neg (by omega)]
 have h2 : ¬ a.length < b.length := by omega
 simp [lexL, signI, h2]
end
theorem len0 {m n : Nat} (h : m = n) : lenI m n = 0 := by unfold lenI; rw [if_pos h]
theorem len1 {m n : Nat} (h : m ≠ n) : lenI m n ≠ 0 := by unfold lenI; rw [if_neg h]; exact sg_ne _
theorem cv_1 {x y : Val} (h : x.N ≠ y.N) : cmpVal x y = signI (decide (x.N < y.N)) := by
 rw [cmpVal_eq, orE2, ci_ne h, if_neg (sg_ne _), if_pos (sg_ne _)]
theorem cv_2 {x y : Val} (h : x.N = y.N) (h2 : lexL Lib.compareBytes x.nm y.nm ≠ 0) : cmpVal x y = lexL Lib.compareBytes x.nm y.nm := by
 rw [cmpVal_eq, orE2, h, ci_eq, if_pos rfl, if_pos h2]
theorem cv_3 {x y : Val} (h : x.N = y.N) (h2 : lexL Lib.compareBytes x.nm y.nm = 0) (h3 : lexL cmpVal x.ps y.ps ≠ 0) : cmpVal x y = lexL cmpVal x.ps y.ps := by
 rw [cmpVal_eq, orE2, h, ci_eq, if_pos rfl, if_neg (by rw [h2]; decide), if_pos h3]
theorem cv_4 {x y : Val} (h : x.N = y.N) (h2 : lexL Lib.compareBytes x.nm y.nm = 0) (h3 : lexL cmpVal x.ps y.ps = 0) : cmpVal x y = lexL cmpEn x.es y.es := by
 rw [cmpVal_eq, orE2, h, ci_eq, if_pos rfl, if_neg (by rw [h2]; decide), if_neg (by rw [h3]; decide)]
set_option maxRecDepth 100000 in
set_option maxHeartbeats 1000000 in
theorem sign_fc (b : Bool) : FC Tryz.prog 61 [bl b] (i64 (signI b)) := by
 refine fc_of_awp [2] Tryz.func61 rfl rfl 4 Tryz.ntmps61 (Nat.le_of_ble_eq_true rfl) ?_
 intro E hN
 refine zG ?_; refine zT ?_; refine zH ?_; refine zV ?_
 refine zq ?_ ?_ <;> intro h1
 ·
  refine zG ?_; refine zS ?_; refine zQ ?_
  exact retI (by simp_all [signI])
 refine zW ?_; refine zG ?_; refine zS ?_; refine zQ ?_
 exact retI (by simp_all [signI])
set_option maxRecDepth 100000 in
set_option maxHeartbeats 1000000 in
theorem lengths_fc (m n : Nat) : FC Tryz.prog 62 [i64 (m : Nat), i64 (n : Nat)] (i64 (lenI m n)) := by
 refine fc_of_awp [4] Tryz.func62 rfl rfl 12 Tryz.ntmps62 (Nat.le_of_ble_eq_true rfl) ?_
 intro E hN
 refine zG ?_; refine zT ?_; refine zH ?_; refine zM ?_; refine zM ?_; refine zB ?_; refine zN ?_
 refine zq ?_ ?_ <;> intro h3
 ·
  have h1 : m = n := by
   have : (m : Int) = n := by simpa using h3
   omega
  refine zG ?_; refine zS ?_; refine zQ ?_
  exact retI (len0 h1).symm
 have h1 : m ≠ n := by
  have : ¬ (m : Int) = n := by simpa using h3
  omega
 refine zW ?_; refine zG ?_; refine zM ?_; refine zM ?_; refine zB ?_; refine zP (q_call (sign_fc _) rfl rfl rfl) ?_; refine zS ?_; refine zQ ?_
 exact retI (by rw [lenI, if_neg h1]; simp)
set_option maxRecDepth 100000 in
set_option maxHeartbeats 1000000 in
theorem rcmpTk_fc (a b : List Tk) : FC Tryz.prog 90 [tks a, tks b] (i64 (lexL cmpTk a b)) := by
 refine fc_of_awp [4] Tryz.func90 rfl rfl 69 Tryz.ntmps90 (Nat.le_of_ble_eq_true rfl) ?_
 intro E hN
 refine a_lm 0 rfl (fun hl0 => ?_)
 refine zG ?_; refine zT ?_; refine zH ?_; refine zT ?_; refine awp_block ?_
 refine awp_loop (fun x : {k : Nat // k ≤ (a).length ∧ k ≤ b.length ∧ lexL cmpTk (a.drop k) (b.drop k) = lexL cmpTk a b} => ⟨[(0, tks a), (1, tks b), (5, i64 (x.1 : Nat))], [], 0⟩) (fun x => (a).length - x.1) (⟨0, Nat.zero_le _, by simp⟩) ?_ ?_
 ·
  exact weak_scrub' rfl (zz3 trivial) trivial
 rintro ⟨k, hk, hg⟩
 dsimp only
 refine zH ?_; refine zM ?_; refine zM ?_; refine zE ?_; refine zB ?_; refine zM ?_
 refine zc 10 ?_ ?_ <;> intro h7
 ·
  have hla : k < a.length := by simpa using h7
  refine uM (w11 h7) ?_; refine uM (w11 h7) ?_; refine uE (w11 h7) ?_; refine uP (w11 h7) (q_bin rfl rfl rfl) ?_; refine zh1 h7 ?_; refine zN ?_
  refine zq ?_ ?_ <;> intro h9
  ·
   have hlb : k < b.length := by simpa using h9
   obtain ⟨x, hx⟩ := get_lt hla
   obtain ⟨y, hy⟩ := get_lt hlb
   refine zW ?_; refine awp_seq ?_; refine awp_block ?_; refine awp_seq ?_; refine awp_seq ?_; refine awp_draw 10 (by kernel_rfl) (by kernel_rfl) ?_
   refine zm ?_; refine zm ?_; refine zp (q_elem rfl rfl rfl k rfl _ (map_get hx) rfl) ?_; refine zf ?_; refine zl ?_; refine zm ?_; refine zm ?_
   refine zp (q_elem rfl rfl rfl k rfl _ (map_get hy) rfl) ?_; refine zf ?_; refine zl ?_; change AOps _ _ _ _ _ _; refine zB ?_; refine zN ?_
   refine zq ?_ ?_ <;> intro h16
   ·
    have h4 : x.1 ≠ y.1 := by simpa using h16
    refine awp_seq ?_; refine awp_draw 12 (by kernel_rfl) (by kernel_rfl) ?_; refine zm ?_; refine zm ?_
    refine zp (q_elem rfl rfl rfl k rfl _ (map_get hx) rfl) ?_; refine zf ?_; refine zl ?_; refine zm ?_; refine zm ?_
    refine zp (q_elem rfl rfl rfl k rfl _ (map_get hy) rfl) ?_; refine zf ?_; refine zl ?_; refine zp (q_bin rfl rfl rfl) ?_
    refine zp (q_call (sign_fc _) rfl rfl rfl) ?_; change AOps _ _ _ _ _ _; refine zS ?_; refine zQ ?_
    exact retI (by rw [lx_step hg.2 hx hy, tk_1 h4, if_neg (sg_ne _)])
   have h4 : x.1 = y.1 := by simpa using h16
   refine zW ?_; refine awp_seq ?_; refine awp_draw 10 (by kernel_rfl) (by kernel_rfl) ?_; refine zm ?_; refine zm ?_
   refine zp (q_elem rfl rfl rfl k rfl _ (map_get hx) rfl) ?_; refine zf ?_; refine zl ?_; refine zm ?_; refine zm ?_
   refine zp (q_elem rfl rfl rfl k rfl _ (map_get hy) rfl) ?_; refine zf ?_; refine zl ?_; change AOps _ _ _ _ _ _; refine zB ?_; refine zN ?_
   refine zq ?_ ?_ <;> intro h31
   ·
    have h6 : x.2 ≠ y.2 := by simpa using h31
    refine awp_seq ?_; refine awp_draw 12 (by kernel_rfl) (by kernel_rfl) ?_; refine zm ?_; refine zm ?_
    refine zp (q_elem rfl rfl rfl k rfl _ (map_get hx) rfl) ?_; refine zf ?_; refine zl ?_; refine zm ?_; refine zm ?_
    refine zp (q_elem rfl rfl rfl k rfl _ (map_get hy) rfl) ?_; refine zf ?_; refine zl ?_; refine zp (q_bin rfl rfl rfl) ?_
    refine zp (q_call (sign_fc _) rfl rfl rfl) ?_; change AOps _ _ _ _ _ _; refine zS ?_; refine zQ ?_
    exact retI (by rw [lx_step hg.2 hx hy, tk_2 h4 h6, if_neg (sg_ne _)])
   have h6 : x.2 = y.2 := by simpa using h31
   refine awp_skip ?_; change AWP _ _ _ _  _; refine awp_region ?_; refine zM ?_; refine zP (q_addi rfl rfl rfl (by omega)) ?_; refine zS ?_
   refine aops_nil ?_
   exact ⟨⟨k + 1, hla, hlb, by rw [lx_step hg.2 hx hy, if_pos (tk_0 h4 h6)]⟩, weak_scrub' rfl (zz2 ⟨(cgI (by dsimp only; omega)), rfl, trivial⟩) trivial, by dsimp only; omega⟩
  have hge : a.length ≤ k ∨ b.length ≤ k := .inr (by simpa using h9)
  refine awp_exit ?_; change AWP _ _ _ _  _; refine zG ?_; refine zM ?_; refine zE ?_; refine zM ?_; refine zE ?_
  refine zP (q_call (lengths_fc _ _) rfl rfl rfl) ?_; refine zS ?_; refine zQ ?_
  exact retI (by rw [lx_len hg.2 hk hg.1 hge, List.length_map, List.length_map])
 have hge : a.length ≤ k ∨ b.length ≤ k := .inl (by simpa using h7)
 iterate 4 refine uK (w01 h7) ?_
 refine zh0 h7 ?_; refine zN ?_; refine c_false rfl rfl ?_; refine awp_exit ?_; change AWP _ _ _ _  _; refine zG ?_; refine zM ?_; refine zE ?_
 refine zM ?_; refine zE ?_; refine zP (q_call (lengths_fc _ _) rfl rfl rfl) ?_; refine zS ?_; refine zQ ?_
 exact retI (by rw [lx_len hg.2 hk hg.1 hge, List.length_map, List.length_map])
set_option maxRecDepth 100000 in
set_option maxHeartbeats 1000000 in
theorem rcmpEn_fc (x y : En) : FC Tryz.prog 63 [.agg (enC x), .agg (enC y)] (i64 (cmpEn x y)) := by
 refine fc_of_awp [4] Tryz.func63 rfl rfl 21 Tryz.ntmps63 (Nat.le_of_ble_eq_true rfl) ?_
 intro E hN
 refine zG ?_; refine zX ?_; refine zX ?_; refine zT ?_; refine zH ?_; refine zF ?_; refine zL ?_; refine zF ?_; refine zL ?_; refine zB ?_
 refine zN ?_
 refine zq ?_ ?_ <;> intro h9
 ·
  have h1 : x.2 ≠ y.2 := by simpa using h9
  refine zG ?_; refine zF ?_; refine zL ?_; refine zF ?_; refine zL ?_; refine zB ?_; refine zP (q_call (sign_fc _) rfl rfl rfl) ?_; refine zS ?_
  refine zQ ?_
  exact retI (en_1 h1).symm
 have h1 : x.2 = y.2 := by simpa using h9
 refine zW ?_; refine zG ?_; refine zF ?_; refine zL ?_; refine zF ?_; refine zL ?_; refine zP (q_call (rcmpTk_fc _ _) rfl rfl rfl) ?_; refine zS ?_
 refine zQ ?_
 exact retI (en_2 h1).symm
set_option maxRecDepth 100000 in
set_option maxHeartbeats 1000000 in
theorem rcmp_s (x0 y0 : Val) (ih : ∀ u ∈ x0.ps, ∀ v, FC Tryz.prog 42 [.agg (valL u), .agg (valL v)] (i64 (cmpVal u v))) : FC Tryz.prog 42 [.agg (valL x0), .agg (valL y0)] (i64 (cmpVal x0 y0)) := by
 refine fc_of_awp [4] Tryz.func42 rfl rfl 149 Tryz.ntmps42 (Nat.le_of_ble_eq_true rfl) ?_
 intro E hN
 refine zG ?_; refine zX ?_; refine zX ?_; refine zT ?_; refine zH ?_; refine zF ?_; refine zL ?_; refine zF ?_; refine zL ?_; refine zB ?_
 refine zN ?_
 refine zq ?_ ?_ <;> intro h9
 ·
  have hN' : x0.N ≠ y0.N := by simpa using h9
  refine zG ?_; refine zF ?_; refine zL ?_; refine zF ?_; refine zL ?_; refine zB ?_; refine zP (q_call (sign_fc _) rfl rfl rfl) ?_; refine zS ?_
  refine zQ ?_
  exact retI (cv_1 hN').symm
 have hNe : x0.N = y0.N := by simpa using h9
 refine zW ?_
 refine c_cutF (⟨[(2, .ptr 0 0), (3, .ptr 1 0)], [(0, .var 26 (valL x0)), (1, .var 26 (valL y0))], 2⟩) (lexL Lib.compareBytes x0.nm y0.nm = lenI x0.nm.length y0.nm.length) ?_ ?_
 ·
  refine zG ?_; refine zT ?_; refine awp_block ?_
  refine awp_loop (fun x : {k : Nat // k ≤ (x0.nm).length ∧ k ≤ y0.nm.length ∧ lexL Lib.compareBytes (x0.nm.drop k) (y0.nm.drop k) = lexL Lib.compareBytes x0.nm y0.nm} => ⟨[(2, .ptr 0 0), (3, .ptr 1 0), (5, i64 (x.1 : Nat))], [(0, .var 26 (valL x0)), (1, .var 26 (valL y0))], 2⟩) (fun x => (x0.nm).length - x.1) (⟨0, Nat.zero_le _, by simp⟩) ?_ ?_
  ·
   exact weak_scrub' rfl (zz3 trivial) ⟨rfl, rfl, rfl, rfl, rfl, rfl, trivial⟩
  rintro ⟨k, hk, hg⟩
  dsimp only
  refine zH ?_; refine zM ?_; refine zF ?_; refine zL ?_; refine zE ?_; refine zB ?_; refine zM ?_
  refine zc 26 ?_ ?_ <;> intro h22
  ·
   have hla : k < x0.nm.length := by simpa using h22
   refine uM (w11 h22) ?_; refine uF (w11 h22) ?_; refine uL (w11 h22) ?_; refine uE (w11 h22) ?_; refine uP (w11 h22) (q_bin rfl rfl rfl) ?_
   refine zh1 h22 ?_; refine zN ?_
   refine zq ?_ ?_ <;> intro h26
   ·
    have hlb : k < y0.nm.length := by simpa using h26
    obtain ⟨x, hx⟩ := get_lt hla
    obtain ⟨y, hy⟩ := get_lt hlb
    refine zW ?_; refine awp_seq ?_; refine awp_block ?_; refine awp_seq ?_; refine awp_draw 10 (by kernel_rfl) (by kernel_rfl) ?_; refine zf ?_
    refine zl ?_; refine zm ?_; refine zp (q_elem rfl rfl rfl k rfl _ (map_get hx) rfl) ?_; refine zl ?_; refine zf ?_; refine zl ?_; refine zm ?_
    refine zp (q_elem rfl rfl rfl k rfl _ (map_get hy) rfl) ?_; refine zl ?_; change AOps _ _ _ _ _ _; refine zB ?_; refine zN ?_
    refine zq ?_ ?_ <;> intro h35
    ·
     have h0 : x ≠ y := by simpa using h35
     refine awp_seq ?_; refine awp_draw 12 (by kernel_rfl) (by kernel_rfl) ?_; refine zf ?_; refine zl ?_; refine zm ?_
     refine zp (q_elem rfl rfl rfl k rfl _ (map_get hx) rfl) ?_; refine zl ?_; refine zf ?_; refine zl ?_; refine zm ?_
     refine zp (q_elem rfl rfl rfl k rfl _ (map_get hy) rfl) ?_; refine zl ?_; refine zp (q_bin rfl rfl rfl) ?_
     refine zp (q_call (sign_fc _) rfl rfl rfl) ?_; change AOps _ _ _ _ _ _; refine zS ?_; refine zQ ?_
     exact retI (by rw [cv_2 hNe (by rw [lx_step hg.2 hx hy, cb_ne h0, if_neg (sg_ne _)]; exact sg_ne _), lx_step hg.2 hx hy, cb_ne h0, if_neg (sg_ne _)])
    have h0 : Lib.compareBytes x y = 0 := by rw [show x = y by simpa using h35]; exact compareBytes_ok.refl y
    refine awp_skip ?_; change AWP _ _ _ _  _
    refine a_lm 23 rfl (fun hl23 => ?_)
    refine awp_region ?_; refine zM ?_; refine zP (q_addi rfl rfl rfl (by omega)) ?_; refine zS ?_; refine aops_nil ?_
    exact ⟨⟨k + 1, hla, hlb, by rw [lx_step hg.2 hx hy, if_pos h0]⟩, weak_scrub' rfl (zz2 ⟨(cgI (by dsimp only; omega)), rfl, trivial⟩) ⟨rfl, rfl, rfl, rfl, rfl, rfl, trivial⟩, by dsimp only; omega⟩
   have hge : x0.nm.length ≤ k ∨ y0.nm.length ≤ k := .inr (by simpa using h26)
   refine awp_exit ?_
   exact ⟨(by exact lx_len hg.2 hk hg.1 hge), weak_scrub' rfl (zz2 trivial) ⟨rfl, rfl, rfl, rfl, rfl, rfl, trivial⟩⟩
  have hge : x0.nm.length ≤ k ∨ y0.nm.length ≤ k := .inl (by simpa using h22)
  iterate 5 refine uK (w01 h22) ?_
  refine zh0 h22 ?_; refine zN ?_; refine c_false rfl rfl ?_; refine awp_exit ?_
  exact ⟨(by exact lx_len hg.2 hk hg.1 hge), weak_scrub' rfl (zz2 trivial) ⟨rfl, rfl, rfl, rfl, rfl, rfl, trivial⟩⟩
 intro hFnm
 refine zH ?_; refine zF ?_; refine zL ?_; refine zE ?_; refine zF ?_; refine zL ?_; refine zE ?_; refine zB ?_; refine zN ?_
 refine zq ?_ ?_ <;> intro h55
 ·
  have h8 : x0.nm.length ≠ y0.nm.length := by
   have : ¬ (x0.nm.length : Int) = y0.nm.length := by simpa using h55
   omega
  refine zG ?_; refine zF ?_; refine zL ?_; refine zE ?_; refine zF ?_; refine zL ?_; refine zE ?_; refine zP (q_call (lengths_fc _ _) rfl rfl rfl) ?_
  refine zS ?_; refine zQ ?_
  exact retI (by rw [cv_2 hNe (by rw [hFnm]; exact len1 h8), hFnm, List.length_map, List.length_map])
 have h8 : x0.nm.length = y0.nm.length := by
  have : (x0.nm.length : Int) = y0.nm.length := by simpa using h55
  omega
 have h8z := hFnm.trans (len0 h8)
 refine zW ?_
 refine c_cutF (⟨[(2, .ptr 0 0), (3, .ptr 1 0)], [(0, .var 26 (valL x0)), (1, .var 26 (valL y0))], 2⟩) (lexL cmpVal x0.ps y0.ps = lenI x0.ps.length y0.ps.length) ?_ ?_
 ·
  refine zG ?_; refine zT ?_; refine awp_block ?_
  refine awp_loop (fun x : {k : Nat // k ≤ (x0.ps).length ∧ k ≤ y0.ps.length ∧ lexL cmpVal (x0.ps.drop k) (y0.ps.drop k) = lexL cmpVal x0.ps y0.ps} => ⟨[(2, .ptr 0 0), (3, .ptr 1 0), (6, i64 (x.1 : Nat))], [(0, .var 26 (valL x0)), (1, .var 26 (valL y0))], 2⟩) (fun x => (x0.ps).length - x.1) (⟨0, Nat.zero_le _, by simp⟩) ?_ ?_
  ·
   exact weak_scrub' rfl (zz3 trivial) ⟨rfl, rfl, rfl, rfl, rfl, rfl, trivial⟩
  rintro ⟨k, hk, hg⟩
  dsimp only
  refine zH ?_; refine zM ?_; refine zF ?_; refine zL ?_; refine zE ?_; refine zB ?_; refine zM ?_
  refine zc 77 ?_ ?_ <;> intro h69
  ·
   have hla : k < x0.ps.length := by simpa using h69
   refine uM (w11 h69) ?_; refine uF (w11 h69) ?_; refine uL (w11 h69) ?_; refine uE (w11 h69) ?_; refine uP (w11 h69) (q_bin rfl rfl rfl) ?_
   refine zh1 h69 ?_; refine zN ?_
   refine zq ?_ ?_ <;> intro h73
   ·
    have hlb : k < y0.ps.length := by simpa using h73
    obtain ⟨x, hx⟩ := get_lt hla
    obtain ⟨y, hy⟩ := get_lt hlb
    refine zW ?_; refine awp_seq ?_; refine awp_block ?_; refine awp_seq ?_; refine awp_draw 11 (by kernel_rfl) (by kernel_rfl) ?_; refine zf ?_
    refine zl ?_; refine zm ?_; refine zp (q_elem rfl rfl rfl k rfl _ (val_get hx) rfl) ?_; refine zl ?_; refine zf ?_; refine zl ?_; refine zm ?_
    refine zp (q_elem rfl rfl rfl k rfl _ (val_get hy) rfl) ?_; refine zl ?_; refine zp (q_call (ih x (List.mem_of_getElem? hx) y) rfl rfl rfl) ?_
    change AOps _ _ _ _ _ _; refine zS ?_; refine zA ?_; refine zM ?_; refine zB ?_; refine zN ?_
    refine zq ?_ ?_ <;> intro h83
    ·
     have h0 : cmpVal x y ≠ 0 := by simpa using h83
     refine zG ?_; refine zM ?_; refine zS ?_; refine zQ ?_
     exact retI (by rw [cv_3 hNe h8z (by rw [lx_step hg.2 hx hy, if_neg h0]; exact h0), lx_step hg.2 hx hy, if_neg h0])
    have h0 : cmpVal x y = 0 := by simpa using h83
    refine awp_skip ?_; change AWP _ _ _ _  _
    refine a_lm 74 rfl (fun hl74 => ?_)
    refine awp_region ?_; refine zM ?_; refine zP (q_addi rfl rfl rfl (by omega)) ?_; refine zS ?_; refine aops_nil ?_
    exact ⟨⟨k + 1, hla, hlb, by rw [lx_step hg.2 hx hy, if_pos h0]⟩, weak_scrub' rfl (zz2 ⟨(cgI (by dsimp only; omega)), rfl, trivial⟩) ⟨rfl, rfl, rfl, rfl, rfl, rfl, trivial⟩, by dsimp only; omega⟩
   have hge : x0.ps.length ≤ k ∨ y0.ps.length ≤ k := .inr (by simpa using h73)
   refine awp_exit ?_
   exact ⟨(by exact lx_len hg.2 hk hg.1 hge), weak_scrub' rfl (zz2 trivial) ⟨rfl, rfl, rfl, rfl, rfl, rfl, trivial⟩⟩
  have hge : x0.ps.length ≤ k ∨ y0.ps.length ≤ k := .inl (by simpa using h69)
  iterate 5 refine uK (w01 h69) ?_
  refine zh0 h69 ?_; refine zN ?_; refine c_false rfl rfl ?_; refine awp_exit ?_
  exact ⟨(by exact lx_len hg.2 hk hg.1 hge), weak_scrub' rfl (zz2 trivial) ⟨rfl, rfl, rfl, rfl, rfl, rfl, trivial⟩⟩
 intro hFps
 refine zH ?_; refine zF ?_; refine zL ?_; refine zE ?_; refine zF ?_; refine zL ?_; refine zE ?_; refine zB ?_; refine zN ?_
 refine zq ?_ ?_ <;> intro h93
 ·
  have h16 : x0.ps.length ≠ y0.ps.length := by
   have : ¬ (x0.ps.length : Int) = y0.ps.length := by simpa using h93
   omega
  refine zG ?_; refine zF ?_; refine zL ?_; refine zE ?_; refine zF ?_; refine zL ?_; refine zE ?_; refine zP (q_call (lengths_fc _ _) rfl rfl rfl) ?_
  refine zS ?_; refine zQ ?_
  exact retI (by rw [cv_3 hNe h8z (by rw [hFps]; exact len1 h16), hFps, List.length_map, List.length_map])
 have h16 : x0.ps.length = y0.ps.length := by
  have : (x0.ps.length : Int) = y0.ps.length := by simpa using h93
  omega
 have h16z := hFps.trans (len0 h16)
 refine zW ?_
 refine c_cutF (⟨[(2, .ptr 0 0), (3, .ptr 1 0)], [(0, .var 26 (valL x0)), (1, .var 26 (valL y0))], 2⟩) (lexL cmpEn x0.es y0.es = lenI x0.es.length y0.es.length) ?_ ?_
 ·
  refine zG ?_; refine zT ?_; refine awp_block ?_
  refine awp_loop (fun x : {k : Nat // k ≤ (x0.es).length ∧ k ≤ y0.es.length ∧ lexL cmpEn (x0.es.drop k) (y0.es.drop k) = lexL cmpEn x0.es y0.es} => ⟨[(2, .ptr 0 0), (3, .ptr 1 0), (8, i64 (x.1 : Nat))], [(0, .var 26 (valL x0)), (1, .var 26 (valL y0))], 2⟩) (fun x => (x0.es).length - x.1) (⟨0, Nat.zero_le _, by simp⟩) ?_ ?_
  ·
   exact weak_scrub' rfl (zz3 trivial) ⟨rfl, rfl, rfl, rfl, rfl, rfl, trivial⟩
  rintro ⟨k, hk, hg⟩
  dsimp only
  refine zH ?_; refine zM ?_; refine zF ?_; refine zL ?_; refine zE ?_; refine zB ?_; refine zM ?_
  refine zc 119 ?_ ?_ <;> intro h107
  ·
   have hla : k < x0.es.length := by simpa using h107
   refine uM (w11 h107) ?_; refine uF (w11 h107) ?_; refine uL (w11 h107) ?_; refine uE (w11 h107) ?_; refine uP (w11 h107) (q_bin rfl rfl rfl) ?_
   refine zh1 h107 ?_; refine zN ?_
   refine zq ?_ ?_ <;> intro h111
   ·
    have hlb : k < y0.es.length := by simpa using h111
    obtain ⟨x, hx⟩ := get_lt hla
    obtain ⟨y, hy⟩ := get_lt hlb
    refine zW ?_; refine awp_seq ?_; refine awp_block ?_; refine awp_seq ?_; refine awp_draw 11 (by kernel_rfl) (by kernel_rfl) ?_; refine zf ?_
    refine zl ?_; refine zm ?_; refine zp (q_elem rfl rfl rfl k rfl _ (map_get hx) rfl) ?_; refine zl ?_; refine zf ?_; refine zl ?_; refine zm ?_
    refine zp (q_elem rfl rfl rfl k rfl _ (map_get hy) rfl) ?_; refine zl ?_; refine zp (q_call (rcmpEn_fc x y) rfl rfl rfl) ?_
    change AOps _ _ _ _ _ _; refine zS ?_; refine zA ?_; refine zM ?_; refine zB ?_; refine zN ?_
    refine zq ?_ ?_ <;> intro h121
    ·
     have h0 : cmpEn x y ≠ 0 := by simpa using h121
     refine zG ?_; refine zM ?_; refine zS ?_; refine zQ ?_
     exact retI (by rw [cv_4 hNe h8z h16z, lx_step hg.2 hx hy, if_neg h0])
    have h0 : cmpEn x y = 0 := by simpa using h121
    refine awp_skip ?_; change AWP _ _ _ _  _
    refine a_lm 116 rfl (fun hl116 => ?_)
    refine awp_region ?_; refine zM ?_; refine zP (q_addi rfl rfl rfl (by omega)) ?_; refine zS ?_; refine aops_nil ?_
    exact ⟨⟨k + 1, hla, hlb, by rw [lx_step hg.2 hx hy, if_pos h0]⟩, weak_scrub' rfl (zz2 ⟨(cgI (by dsimp only; omega)), rfl, trivial⟩) ⟨rfl, rfl, rfl, rfl, rfl, rfl, trivial⟩, by dsimp only; omega⟩
   have hge : x0.es.length ≤ k ∨ y0.es.length ≤ k := .inr (by simpa using h111)
   refine awp_exit ?_
   exact ⟨(by exact lx_len hg.2 hk hg.1 hge), weak_scrub' rfl (zz2 trivial) ⟨rfl, rfl, rfl, rfl, rfl, rfl, trivial⟩⟩
  have hge : x0.es.length ≤ k ∨ y0.es.length ≤ k := .inl (by simpa using h107)
  iterate 5 refine uK (w01 h107) ?_
  refine zh0 h107 ?_; refine zN ?_; refine c_false rfl rfl ?_; refine awp_exit ?_
  exact ⟨(by exact lx_len hg.2 hk hg.1 hge), weak_scrub' rfl (zz2 trivial) ⟨rfl, rfl, rfl, rfl, rfl, rfl, trivial⟩⟩
 intro hFes
 refine zG ?_; refine zF ?_; refine zL ?_; refine zE ?_; refine zF ?_; refine zL ?_; refine zE ?_; refine zP (q_call (lengths_fc _ _) rfl rfl rfl) ?_
 refine zS ?_; refine zQ ?_
 exact retI (by rw [cv_4 hNe h8z h16z, hFes, List.length_map, List.length_map])
theorem rcmp_fc (x y : Val) : FC Tryz.prog 42 [.agg (valL x), .agg (valL y)] (i64 (cmpVal x y)) := rcmp_s x y (fun u hu v => rcmp_fc u v)
termination_by x
decreasing_by exact Val.sizeOf_ps ‹_›
set_option maxRecDepth 100000 in
set_option maxHeartbeats 1000000 in
theorem rEqual_fc (x y : Val) : FC Tryz.prog 16 [.agg (valL x), .agg (valL y)] (bl (eqV x y)) := by
 refine fc_of_awp [4] Tryz.func16 rfl rfl 9 Tryz.ntmps16 (Nat.le_of_ble_eq_true rfl) ?_
 intro E hN
 refine zG ?_; refine zX ?_; refine zX ?_; refine zS ?_; refine zA ?_; refine zL ?_; refine zL ?_; refine zP (q_call (rcmp_fc x y) rfl rfl rfl) ?_
 refine zB ?_; refine zS ?_; refine zQ ?_
 rfl
end Go.Proofs.YthldgioggjpnpaaGreat

namespace Go.Proofs.YthldgioggjpnpaaGreat
open Go.RowKit
end Go.Proofs.YthldgioggjpnpaaGreat
