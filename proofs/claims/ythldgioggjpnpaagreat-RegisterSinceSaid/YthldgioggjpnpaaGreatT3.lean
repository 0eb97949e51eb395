/-
  Contracts: register.covered, Covers; ref13.Kind, Is; law13.small (seat r2).
  Contract: register.Since (seat r2).
-/
import Derived.Test.YthldgioggjpnpaaGreatB15
import Derived.Test.YthldgioggjpnpaaGreatB8
import Derived.Test.YthldgioggjpnpaaGreatC6
import Derived.Test.YthldgioggjpnpaaGreatT5
import Derived.Test.YthldgioggjpnpaaGreatB12
import Derived.Test.YthldgioggjpnpaaGreatB9
namespace Go.Proofs.YthldgioggjpnpaaGreat
open Go.RowKit
def regL : Lat := .mk 9 0 0 [] [] []
/-- is the value a register of at most 12 entries? -/
def smallR (v : Val) : Bool := decide (v.es.length ≤ 12) && validV regL v
/-- the entries of v that old does not cover -/
def sinceE (v old : List En) : List En := v.filter fun x => !coveredB old x
set_option maxRecDepth 100000 in
set_option maxHeartbeats 1000000 in
theorem rcov1_fc (x y : En) : FC Tryz.prog 69 [.agg (enC y), .el (enC x)] (bl (underB x y)) := by
 refine fc_of_awp [3] Tryz.func69 rfl rfl 23 Tryz.ntmps69 (Nat.le_of_ble_eq_true rfl) ?_
 intro E hN
 refine zG ?_; refine zX ?_; refine zS ?_; refine zA ?_; refine zF ?_; refine zL ?_; refine zF ?_; refine zL ?_
 refine zP (q_call (cmpC_fc _ _) rfl rfl rfl) ?_; refine zS ?_; refine zA ?_; refine zM ?_; refine zB ?_; refine zM ?_
 refine zc 12 ?_ ?_ <;> intro h8
 ·
  iterate 3 refine uK (w10 h8) ?_
  iterate 5 refine zK ?_
  refine uK (w10 h8) ?_; refine zh1 h8 ?_; refine zS ?_; refine zQ ?_
  exact retB (by simp_all [underB])
 refine uM (w00 h8) ?_; refine uP (w00 h8) (q_bin rfl rfl rfl) ?_; refine uM (w00 h8) ?_
 refine zc 15 ?_ ?_ <;> intro h9
 ·
  refine uF (w11 h9) ?_; refine uL (w11 h9) ?_; refine uF (w11 h9) ?_; refine uL (w11 h9) ?_; refine uP (w11 h9) (q_bin rfl rfl rfl) ?_
  refine uP (w00 h8) (q_pick1 rfl rfl h9 rfl) ?_; refine zh0 h8 ?_; refine zS ?_; refine zQ ?_
  exact retB (by simp_all [underB])
 iterate 5 refine uK (w01 h9) ?_
 refine uP (w00 h8) (q_pick0 rfl rfl h9 rfl) ?_; refine zh0 h8 ?_; refine zS ?_; refine zQ ?_
 exact retB (by simp_all [underB])
set_option maxRecDepth 100000 in
set_option maxHeartbeats 1000000 in
theorem rcov_fc (w : Val) (x : En) : FC Tryz.prog 46 [.agg (valL w), .agg (enC x)] (bl (coveredB w.es x)) := by
 refine fc_of_awp [4] Tryz.func46 rfl rfl 9 Tryz.ntmps46 (Nat.le_of_ble_eq_true rfl) ?_
 intro E hN
 refine zG ?_; refine zX ?_; refine zX ?_; refine zT ?_; refine awp_seq ?_; refine awp_weak (weak_freeze 3 1 rfl rfl rfl rfl) ?_; refine awp_region ?_
 refine zF ?_; refine zL ?_; refine zP (q_func rfl rfl) ?_; refine zP (q_call (anyFE_fc w.es (fun y _ => rcov1_fc x y)) rfl rfl rfl) ?_; refine zS ?_
 refine zQ ?_
 rfl
set_option maxRecDepth 100000 in
set_option maxHeartbeats 1000000 in
theorem rcovers_fc (w v : Val) : FC Tryz.prog 25 [.agg (valL w), .agg (valL v)] (bl (v.es.all (coveredB w.es))) := by
 refine fc_of_awp [4] Tryz.func25 rfl rfl 19 Tryz.ntmps25 (Nat.le_of_ble_eq_true rfl) ?_
 intro E hN
 refine zG ?_; refine zX ?_; refine zX ?_; refine zT ?_; refine zH ?_; refine zF ?_; refine zL ?_; refine zE ?_; refine zV ?_; refine awp_block ?_
 refine a_lm 8 rfl (fun hl0 => ?_)
 refine awp_loop (fun x : {k : Nat // k ≤ (v.es).length ∧ (v.es.drop k).all (coveredB w.es) = v.es.all (coveredB w.es)} => ⟨[(2, .ptr 0 0), (8, ens v.es), (9, i64 v.es.length), (10, i64 (x.1 : Nat))], [(0, .var 26 (valL w))], 1⟩) (fun x => (v.es).length - x.1) (⟨0, Nat.zero_le _, by simp⟩) ?_ ?_
 ·
  exact weak_scrub' rfl (zz2 ⟨(cgI (by simp)), rfl, (zz1 trivial)⟩) ⟨rfl, rfl, rfl, trivial⟩
 rintro ⟨k, hk, hg⟩
 dsimp only
 refine zG ?_; refine zB ?_; refine zN ?_; refine awp_seq ?_
 refine zq ?_ ?_ <;> intro h12
 ·
  have hlt : k < (v.es).length := by simpa using h12
  obtain ⟨x, hx⟩ := get_lt hlt
  refine zW ?_; refine awp_seq ?_; refine awp_block ?_; refine zG ?_; refine zP (q_elem rfl rfl rfl k rfl _ (map_get hx) rfl) ?_; refine zL ?_
  refine zO ?_; refine zC ?_; refine zA ?_; refine zL ?_; refine zL ?_; refine zP (q_call (rcov_fc w x) rfl rfl rfl) ?_; refine zP (q_not rfl rfl) ?_
  refine zN ?_
  refine zq ?_ ?_ <;> intro h19
  ·
   refine zG ?_; refine zS ?_; refine zQ ?_
   exact retB (by rw [all_no hg hx (by simp_all)])
  refine awp_skip ?_; change AWP _ _ _ _  _; refine awp_region ?_; refine zP (q_addi rfl rfl rfl (by omega)) ?_; refine zM ?_; refine aops_nil ?_
  exact ⟨⟨k + 1, hlt, all_go hg hx (by simp_all)⟩, weak_scrub' rfl (zz3 ⟨(cgI (by dsimp only; omega)), rfl, trivial⟩) ⟨rfl, rfl, rfl, trivial⟩, by dsimp only; omega⟩
 have hge : (v.es).length ≤ k := by simpa using h12
 refine awp_exit ?_; change AWP _ _ _ _  _; refine zG ?_; refine zS ?_; refine zQ ?_
 exact retB (by rw [all_end hg hge])
set_option maxRecDepth 100000 in
set_option maxHeartbeats 1000000 in
theorem rkind_fc : FC Tryz.prog 28 [] (.agg (latL regL)) := by
 refine fc_of_awpR [.c 0 46 6 true] ⟨⟨inferInstance, rfl⟩, trivial⟩ Tryz.func28 rfl rfl 2 Tryz.ntmps28 (Nat.le_of_ble_eq_true rfl) ?_
 intro E hN
 refine zG ?_; refine zO ?_; refine zA ?_; refine zP (q_build rfl rfl rfl) ?_; refine zC ?_; refine zN ?_; refine awp_ret ?_
 change (resY _ _).bind AV.fzt = some _
 refine ret_r rfl ?_
 rfl
set_option maxRecDepth 100000 in
set_option maxHeartbeats 1000000 in
theorem ris_fc (v : Val) : FC Tryz.prog 39 [.agg (valL v)] (bl (validV regL v)) := by
 refine fc_of_awp [2] Tryz.func39 rfl rfl 6 Tryz.ntmps39 (Nat.le_of_ble_eq_true rfl) ?_
 intro E hN
 refine zG ?_; refine zX ?_; refine zT ?_; refine awp_seq ?_; refine awp_draw 3 (by kernel_rfl) (by kernel_rfl) ?_
 refine zp (q_call rkind_fc rfl rfl rfl) ?_; refine zl ?_; refine zp (q_call (rValidV_fc regL v) rfl rfl rfl) ?_; change AOps _ _ _ _ _ _; refine zS ?_
 refine zQ ?_
 rfl
set_option maxRecDepth 100000 in
set_option maxHeartbeats 1000000 in
theorem smallR_fc (v : Val) : FC Tryz.prog 17 [.agg (valL v)] (bl (smallR v)) := by
 refine fc_of_awp [2] Tryz.func17 rfl rfl 11 Tryz.ntmps17 (Nat.le_of_ble_eq_true rfl) ?_
 intro E hN
 refine zG ?_; refine zX ?_; refine zS ?_; refine zA ?_; refine zF ?_; refine zL ?_; refine zE ?_; refine zB ?_; refine zM ?_
 refine zc 7 ?_ ?_ <;> intro h6
 ·
  refine uL (w11 h6) ?_; refine uP (w11 h6) (q_call (ris_fc v) rfl rfl rfl) ?_; refine zh1 h6 ?_; refine zS ?_; refine zQ ?_
  exact retB (by simp_all [smallR]; intro _; omega)
 iterate 2 refine uK (w01 h6) ?_
 refine zh0 h6 ?_; refine zS ?_; refine zQ ?_
 exact retB (by simp_all [smallR]; intro _; omega)
end Go.Proofs.YthldgioggjpnpaaGreat

namespace Go.Proofs.YthldgioggjpnpaaGreat
open Go.RowKit
theorem since_take_yes {v old : List En} {k : Nat} {x : En} (h : v[k]? = some x) (hc : coveredB old x = true) : sinceE (v.take (k + 1)) old = sinceE (v.take k) old := by
 unfold sinceE; rw [List.take_add_one, h]; simp [hc]
theorem since_take_no {v old : List En} {k : Nat} {x : En} (h : v[k]? = some x) (hc : coveredB old x = false) : (sinceE (v.take k) old).map enC ++ chunkA 2 1 (enC x) = (sinceE (v.take (k + 1)) old).map enC := by
 rw [chunk_en]; unfold sinceE; rw [List.take_add_one, h]; simp [hc]
theorem since_len (v old : List En) : (sinceE v old).length ≤ v.length := List.length_filter_le _ _
theorem fzs_tk (l : List Tk) : ∀ e ∈ l.map tkC, fzs e = some e := fun e he => by obtain ⟨y, -, rfl⟩ := List.mem_map.1 he; rfl
set_option maxRecDepth 100000 in
set_option maxHeartbeats 1000000 in
theorem rsince_fc (v old : Val) (h3 : v.es.length ≤ 1000000) (h4 : ∀ e ∈ v.es, e.1.length ≤ 1000000) : FC Tryz.prog 23 [.agg (valL v), .agg (valL old)] (.agg (valL (.mk 0 [] [] (sinceE v.es old.es)))) := by
 refine fc_of_awpR [.c 4 26 4 true] ⟨⟨inferInstance, rfl⟩, trivial⟩ Tryz.func23 rfl rfl 40 Tryz.ntmps23 (Nat.le_of_ble_eq_true rfl) ?_
 intro E hN
 refine zG ?_; refine zX ?_; refine zX ?_; refine zO ?_; refine zA ?_; refine zP (q_build rfl rfl rfl) ?_; refine zO ?_; refine zC ?_; refine zN ?_
 refine zH ?_; refine zF ?_; refine zL ?_; refine zE ?_; refine zV ?_; refine awp_block ?_
 refine awp_weak (weak_tokc rfl 3 3 64 2 rfl rfl rfl) ?_
 refine awp_loop (fun x : {k : Nat // k ≤ (v.es).length ∧ True} => ⟨[(3, .ptr 1 0), (4, .ptr 2 0), (5, .ptr 3 0), (11, ens v.es), (12, i64 v.es.length), (13, i64 (x.1 : Nat))], [(1, .var 26 (valL old)), (2, .var 26 [i64 0, .p (.slice none 0 0), .p (.slice none 0 0), .p (.slice none 0 0)]), (3, .var 26 [i64 0, .p (.slice none 0 0), .p (.slice none 0 0), .sl ((sinceE (v.es.take x.1) old.es).map enC) (some 4)]), (4, .tok 64 2 ((sinceE (v.es.take x.1) old.es).map enC).length)], 5⟩) (fun x => (v.es).length - x.1) (⟨0, Nat.zero_le _, by simp⟩) ?_ ?_
 ·
  exact weak_scrub' rfl (zz4 ⟨(cgI (by simp)), rfl, (zz1 trivial)⟩) ⟨rfl, rfl, rfl, rfl, rfl, rfl, rfl, rfl, rfl, rfl, rfl, rfl, trivial⟩
 rintro ⟨k, hk, hg⟩
 dsimp only
 refine zG ?_; refine zB ?_; refine zN ?_; refine awp_seq ?_
 refine zq ?_ ?_ <;> intro h18
 ·
  have hlt : k < (v.es).length := by simpa using h18
  obtain ⟨x, hx⟩ := get_lt hlt
  have hx4 := h4 x (List.mem_of_getElem? hx)
  have hsl := since_len (v.es.take k) old.es
  have htl := List.length_take_le k v.es
  refine zW ?_; refine awp_seq ?_; refine awp_block ?_; refine zG ?_; refine zP (q_elem rfl rfl rfl k rfl _ (map_get hx) rfl) ?_; refine zL ?_
  refine zO ?_; refine zC ?_; refine zA ?_; refine zL ?_; refine zL ?_; refine zP (q_call (rcov_fc old x) rfl rfl rfl) ?_; refine zP (q_not rfl rfl) ?_
  refine zN ?_
  refine zq ?_ ?_ <;> intro h25
  ·
   have hcc : coveredB old.es x = false := by simpa using h25
   refine zG ?_; refine zF ?_; refine zL ?_; refine zE ?_
   refine s_makeN hN rfl (k := 2) (zs := [.int .i64 0, .int .i64 0]) rfl (y := 16) (by kernel_rfl) rfl rfl (n := (x.1.map tkC).length) rfl rfl (by rw [List.length_map]; exact hx4) rfl rfl rfl rfl ?_
   refine zS ?_; refine zA ?_; refine zM ?_; refine zF ?_; refine zL ?_
   refine s_copyN hN rfl rfl rfl (by simp) rfl (by simp) (all_okE okE_tk _) rfl rfl rfl rfl ?_; refine zN ?_
   refine awp_weak (weak_frow 8 6 rfl rfl (by simp) (all_okE okE_tk _) (fzs_tk _) rfl) ?_; refine awp_region ?_; refine zF ?_; refine zL ?_
   refine zM ?_; refine zF ?_; refine zL ?_; refine zP (q_build rfl rfl rfl) ?_
   refine zP (q_bslice rfl rfl rfl rfl (by exact rfl) (by decide) (by decide)) ?_
   refine s_append_tok hN rfl rfl rfl (by simp) rfl rfl (all_okE okE_en _) rfl (by simp [chunk_tk]; omega) rfl rfl rfl rfl ?_
   refine zF ?_; refine zC ?_; refine aops_nil ?_; change AWP _ _ _ _  _; refine awp_region ?_; refine zP (q_addi rfl rfl rfl (by omega)) ?_
   refine zM ?_; refine aops_nil ?_
   exact ⟨⟨k + 1, hlt, trivial⟩, weak_scrub' rfl (zz4 (zz1 ⟨(cgI (by dsimp only; omega)), rfl, trivial⟩)) ⟨rfl, rfl, rfl, rfl, rfl, rfl, (cgE (by first | exact since_take_no hx hcc | (dsimp only; rw [since_take_yes hx hcc]))), rfl, rfl, (cgT (by first | exact congrArg List.length (since_take_no hx hcc) | (dsimp only; rw [since_take_yes hx hcc]))), rfl, rfl, trivial⟩, by dsimp only; omega⟩
  have hcc : coveredB old.es x = true := by simpa using h25
  refine awp_skip ?_; change AWP _ _ _ _  _; refine awp_region ?_; refine zP (q_addi rfl rfl rfl (by omega)) ?_; refine zM ?_; refine aops_nil ?_
  exact ⟨⟨k + 1, hlt, trivial⟩, weak_scrub' rfl (zz4 (zz1 ⟨(cgI (by dsimp only; omega)), rfl, trivial⟩)) ⟨rfl, rfl, rfl, rfl, rfl, rfl, (cgE (by first | exact since_take_no hx hcc | (dsimp only; rw [since_take_yes hx hcc]))), rfl, rfl, (cgT (by first | exact congrArg List.length (since_take_no hx hcc) | (dsimp only; rw [since_take_yes hx hcc]))), rfl, rfl, trivial⟩, by dsimp only; omega⟩
 have hge : (v.es).length ≤ k := by simpa using h18
 rw [List.take_of_length_le hge]
 refine awp_exit ?_; change AWP _ _ _ _  _; refine zG ?_; refine zL ?_; refine zC ?_; refine zN ?_; refine awp_ret ?_
 change (resY _ _).bind AV.fzt = some _
 refine ret_r rfl ?_
 rfl
end Go.Proofs.YthldgioggjpnpaaGreat
