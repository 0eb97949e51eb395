/-
  Contracts: clock.Merge, Inc, register.Clock, single, lattice, Write (seat r2).
  Contracts: register.Write (seat r2).
  Contracts: register.Conflict, Resolve, without a word on draws (seat r2).
  The chapter's example (seat r2).
-/
import Derived.Test.YthldgioggjpnpaaGreatT3
import Derived.Test.YthldgioggjpnpaaGreatT5
import Derived.Test.YthldgioggjpnpaaGreatB5
import Derived.Test.YthldgioggjpnpaaGreatB7
import Derived.Test.YthldgioggjpnpaaGreatT11
import Derived.Test.YthldgioggjpnpaaGreatB18
import Derived.Test.YthldgioggjpnpaaGreatT6
namespace Go.Proofs.YthldgioggjpnpaaGreat
open Go.RowKit
def chMerge (m n : Int) : Int := if n > m then n else m
def mergeT (a b : List Tk) : List Tk := walkC chMerge a b
/-- one more tick of a process -/
def incC (l : List Tk) (q : Int) : List Tk × Int := if validC (-1) l = false ∨ q < 0 ∨ 63 < q then ([], 1) else if getC l q = 1000000000000000 then ([], 6) else (mergeT l [(q, getC l q + 1)], 0)
def clockR (es : List En) : List Tk := es.foldl (fun c x => mergeT c x.1) []
/-- the register that a write makes -/
def writeR (v : Val) (q : Int) (s : Nm) : Val × Int := if validV regL v = false then (Val.zero, 4) else if q < 0 ∨ 63 < q then (Val.zero, 1) else if validB s = false then (Val.zero, 3) else if (incC (clockR v.es) q).2 = 0 then (.mk 0 [] [] [((incC (clockR v.es) q).1, s)], 0) else (Val.zero, (incC (clockR v.es) q).2)
set_option maxRecDepth 100000 in
set_option maxHeartbeats 1000000 in
theorem chMerge_fc (m n : Int) : FC Tryz.prog 67 [i64 m, i64 n] (i64 (chMerge m n)) := by
 refine fc_of_awp [4] Tryz.func67 rfl rfl 8 Tryz.ntmps67 (Nat.le_of_ble_eq_true rfl) ?_
 intro E hN
 refine zG ?_; refine zS ?_; refine zA ?_; refine zM ?_; refine zM ?_; refine zP (q_max rfl rfl rfl) ?_; refine zS ?_; refine zQ ?_
 rfl
set_option maxRecDepth 100000 in
set_option maxHeartbeats 1000000 in
theorem merge_fcT (a b : List Tk) : FC Tryz.prog 44 [tks a, tks b] (tks (mergeT a b)) := by
 refine fc_of_awp [4] Tryz.func44 rfl rfl 8 Tryz.ntmps44 (Nat.le_of_ble_eq_true rfl) ?_
 intro E hN
 refine zG ?_; refine zS ?_; refine zA ?_; refine zM ?_; refine zM ?_; refine zP (q_call (walk_fc chMerge_fc a b) rfl rfl rfl) ?_; refine zS ?_
 refine zQ ?_
 rfl
set_option maxRecDepth 100000 in
set_option maxHeartbeats 1000000 in
theorem inc_fcT (l : List Tk) (q : Int) (hg : getC l q ≤ 1000000000000000) (h0 : 0 ≤ getC l q) : FC Tryz.prog 37 [tks l, i64 q] (.tup [tks (incC l q).1, i64 (incC l q).2]) := by
 refine fc_of_awp [4, 5] Tryz.func37 rfl rfl 30 Tryz.ntmps37 (Nat.le_of_ble_eq_true rfl) ?_
 intro E hN
 refine zG ?_; refine zS ?_; refine zT ?_; refine zH ?_; refine zM ?_; refine zP (q_call (validC_fc l) rfl rfl rfl) ?_; refine zP (q_not rfl rfl) ?_
 refine zM ?_
 refine zc 10 ?_ ?_ <;> intro h3
 ·
  iterate 2 refine uK (w10 (m0 (n1 h3))) ?_
  refine zh1 (m0 (n1 h3)) ?_; refine zM ?_
  iterate 2 refine zK ?_
  refine zh1 rfl ?_; refine zN ?_; refine c_true rfl rfl ?_; refine zG ?_; refine zS ?_; refine zS ?_; refine zQ ?_
  all_goals rw [incC, if_pos (by simp_all)]
  all_goals rfl
 refine uM (w00 (m1 (n0 h3))) ?_; refine uP (w00 (m1 (n0 h3))) (q_bin rfl rfl rfl) ?_; refine zh0 (m1 (n0 h3)) ?_; refine zM ?_
 refine zc 14 ?_ ?_ <;> intro h4
 ·
  iterate 2 refine uK (w10 h4) ?_
  refine zh1 h4 ?_; refine zN ?_; refine c_true rfl rfl ?_; refine zG ?_; refine zS ?_; refine zS ?_; refine zQ ?_
  all_goals rw [incC, if_pos (by simp_all)]
  all_goals rfl
 refine uM (w00 h4) ?_; refine uP (w00 h4) (q_bin rfl rfl rfl) ?_; refine zh0 h4 ?_; refine zN ?_
 refine zq ?_ ?_ <;> intro h5
 ·
  have h1 := h5
  refine zG ?_; refine zS ?_; refine zS ?_; refine zQ ?_
  all_goals rw [incC, if_pos (by simp_all)]
  all_goals rfl
 have h1 := h5
 refine zW ?_; refine zG ?_; refine zM ?_; refine zM ?_; refine zP (q_call (get_fc l q) rfl rfl rfl) ?_; refine zT ?_; refine zH ?_; refine zM ?_
 refine zB ?_; refine zN ?_
 refine zq ?_ ?_ <;> intro h7
 ·
  have h4 : getC l q = 1000000000000000 := by simpa using h7
  refine zG ?_; refine zS ?_; refine zS ?_; refine zQ ?_
  all_goals rw [incC, if_neg (by simp_all <;> omega), if_pos h4]
  all_goals rfl
 have h4 : ¬ getC l q = 1000000000000000 := by simpa using h7
 refine zW ?_; refine zG ?_; refine zM ?_; refine zM ?_; refine zM ?_; refine zP (q_addi rfl rfl rfl (by omega)) ?_; refine zP (q_build rfl rfl rfl) ?_
 refine zP (q_bslice rfl rfl rfl rfl (by exact rfl) (by decide) (by decide)) ?_; refine zP (q_call (merge_fcT l [(q, getC l q + 1)]) rfl rfl rfl) ?_
 refine zS ?_; refine zS ?_; refine zQ ?_
 all_goals rw [incC, if_neg (by simp_all <;> omega), if_neg h4]
 all_goals rfl
set_option maxRecDepth 100000 in
set_option maxHeartbeats 1000000 in
theorem single_fc (c : List Tk) (s : Nm) : FC Tryz.prog 38 [tks c, sv s] (.agg (valL (.mk 0 [] [] [(c, s)]))) := by
 refine fc_of_awpR [.c 4 26 4 true] ⟨⟨inferInstance, rfl⟩, trivial⟩ Tryz.func38 rfl rfl 10 Tryz.ntmps38 (Nat.le_of_ble_eq_true rfl) ?_
 intro E hN
 refine zG ?_; refine zO ?_; refine zA ?_; refine zM ?_; refine zM ?_; refine zP (q_build rfl rfl rfl) ?_
 refine zP (q_bslice rfl rfl rfl rfl (by exact rfl) (by decide) (by decide)) ?_; refine zP (q_build rfl rfl rfl) ?_; refine zC ?_; refine zN ?_
 refine awp_ret ?_
 change (resY _ _).bind AV.fzt = some _
 refine ret_r rfl ?_
 rfl
set_option maxRecDepth 100000 in
set_option maxHeartbeats 1000000 in
theorem rlat_fc : FC Tryz.prog 35 [] (.agg (latL regL)) := by
 refine fc_of_awpR [.c 0 46 6 true] ⟨⟨inferInstance, rfl⟩, trivial⟩ Tryz.func35 rfl rfl 2 Tryz.ntmps35 (Nat.le_of_ble_eq_true rfl) ?_
 intro E hN
 refine zG ?_; refine zO ?_; refine zA ?_; refine zP (q_build rfl rfl rfl) ?_; refine zC ?_; refine zN ?_; refine awp_ret ?_
 change (resY _ _).bind AV.fzt = some _
 refine ret_r rfl ?_
 rfl
set_option maxRecDepth 100000 in
set_option maxHeartbeats 1000000 in
theorem rclock_fc (v : Val) : FC Tryz.prog 20 [.agg (valL v)] (tks (clockR v.es)) := by
 refine fc_of_awp [2] Tryz.func20 rfl rfl 19 Tryz.ntmps20 (Nat.le_of_ble_eq_true rfl) ?_
 intro E hN
 refine zG ?_; refine zX ?_; refine zS ?_; refine zA ?_; refine zT ?_; refine zH ?_; refine zF ?_; refine zL ?_; refine zE ?_; refine zV ?_
 refine awp_block ?_
 refine a_lm 7 rfl (fun hl0 => ?_)
 refine awp_weak (weak_nil 3 rfl) ?_
 refine awp_loop (fun x : {k : Nat // k ≤ (v.es).length ∧ True} => ⟨[(3, tks (clockR (v.es.take x.1))), (7, ens v.es), (8, i64 v.es.length), (9, i64 (x.1 : Nat))], [], 1⟩) (fun x => (v.es).length - x.1) (⟨0, Nat.zero_le _, by simp⟩) ?_ ?_
 ·
  exact weak_scrub' rfl (zz2 ⟨(cgI (by simp)), rfl, (zz1 trivial)⟩) trivial
 rintro ⟨k, hk, hg⟩
 dsimp only
 refine zG ?_; refine zB ?_; refine zN ?_; refine awp_seq ?_
 refine zq ?_ ?_ <;> intro h10
 ·
  have hlt : k < (v.es).length := by simpa using h10
  obtain ⟨x, hx⟩ := get_lt hlt
  have hst : clockR (v.es.take (k + 1)) = mergeT (clockR (v.es.take k)) x.1 := by unfold clockR; rw [List.take_add_one, hx]; simp [List.foldl_append]
  refine zW ?_; refine awp_seq ?_; refine awp_block ?_; refine zG ?_; refine zP (q_elem rfl rfl rfl k rfl _ (map_get hx) rfl) ?_; refine zL ?_
  refine zO ?_; refine zC ?_; refine zN ?_; refine awp_region ?_; refine zM ?_; refine zF ?_; refine zL ?_
  refine zP (q_call (merge_fcT (clockR (v.es.take k)) x.1) rfl rfl rfl) ?_; refine zS ?_; refine aops_nil ?_; change AWP _ _ _ _  _
  refine awp_region ?_; refine zP (q_addi rfl rfl rfl (by omega)) ?_; refine zM ?_; refine aops_nil ?_
  exact ⟨⟨k + 1, hlt, trivial⟩, weak_scrub' rfl ⟨(cgL (by dsimp only; rw [hst])), rfl, (zz2 ⟨(cgI (by dsimp only; omega)), rfl, trivial⟩)⟩ trivial, by dsimp only; omega⟩
 have hge : (v.es).length ≤ k := by simpa using h10
 refine awp_exit ?_; change AWP _ _ _ _  _; refine zG ?_; refine zM ?_; refine zS ?_; refine zQ ?_
 rw [List.take_of_length_le hge]
end Go.Proofs.YthldgioggjpnpaaGreat

namespace Go.Proofs.YthldgioggjpnpaaGreat
open Go.RowKit
set_option maxRecDepth 100000 in
set_option maxHeartbeats 1000000 in
theorem write_fcR (v : Val) (q : Int) (s : Nm) (hg : getC (clockR v.es) q ≤ 1000000000000000) (h0 : 0 ≤ getC (clockR v.es) q) : FC Tryz.prog 12 [.agg (valL v), i64 q, sv s] (.tup [.agg (valL (writeR v q s).1), i64 (writeR v q s).2]) := by
 refine fc_of_awpR [.c 6 26 4 true, .t 7] ⟨⟨inferInstance, rfl⟩, trivial⟩ Tryz.func12 rfl rfl 43 Tryz.ntmps12 (Nat.le_of_ble_eq_true rfl) ?_
 intro E hN
 refine zG ?_; refine zX ?_; refine zO ?_; refine zT ?_; refine awp_seq ?_; refine awp_block ?_; refine awp_seq ?_
 refine awp_draw 4 (by kernel_rfl) (by kernel_rfl) ?_; refine zp (q_call rlat_fc rfl rfl rfl) ?_; refine zl ?_
 refine zp (q_call (validV_fc regL v) rfl rfl rfl) ?_; refine zp (q_not rfl rfl) ?_; change AOps _ _ _ _ _ _; refine zT ?_
 refine zq ?_ ?_ <;> intro h8
 ·
  have h1 := h8
  refine zG ?_; refine zP (q_build rfl rfl rfl) ?_; refine zC ?_; refine zT ?_; refine awp_ret ?_
  change (resY _ _).bind AV.fzt = some _
  refine ret_r rfl ?_
  all_goals rw [writeR, if_pos (by simp_all)]
  all_goals rfl
 have h1 := h8
 refine zG ?_; refine zM ?_; refine zB ?_; refine zM ?_
 refine zc 19 ?_ ?_ <;> intro h11
 ·
  iterate 2 refine uK (w10 h11) ?_
  refine zh1 h11 ?_; refine zT ?_; refine c_true rfl rfl ?_; refine zG ?_; refine zP (q_build rfl rfl rfl) ?_; refine zC ?_; refine zT ?_
  refine awp_ret ?_
  change (resY _ _).bind AV.fzt = some _
  refine ret_r rfl ?_
  all_goals rw [writeR, if_neg (by simp_all), if_pos (by simp_all)]
  all_goals rfl
 refine uM (w00 h11) ?_; refine uP (w00 h11) (q_bin rfl rfl rfl) ?_; refine zh0 h11 ?_; refine zT ?_
 refine zq ?_ ?_ <;> intro h14
 ·
  have h3 := h14
  refine zG ?_; refine zP (q_build rfl rfl rfl) ?_; refine zC ?_; refine zT ?_; refine awp_ret ?_
  change (resY _ _).bind AV.fzt = some _
  refine ret_r rfl ?_
  all_goals rw [writeR, if_neg (by simp_all), if_pos (by simp_all)]
  all_goals rfl
 have h3 := h14
 refine zG ?_; refine zM ?_; refine zP (q_call (valid_fc s) rfl rfl rfl) ?_; refine zP (q_not rfl rfl) ?_; refine zT ?_
 refine zq ?_ ?_ <;> intro h17
 ·
  have h5 := h17
  refine zG ?_; refine zP (q_build rfl rfl rfl) ?_; refine zC ?_; refine zT ?_; refine awp_ret ?_
  change (resY _ _).bind AV.fzt = some _
  refine ret_r rfl ?_
  all_goals rw [writeR, if_neg (by simp_all), if_neg (by simp_all <;> omega), if_pos (by simp_all)]
  all_goals rfl
 have h5 := h17
 refine awp_skip ?_; change AWP _ _ _ _  _; refine zG ?_; refine zL ?_; refine zP (q_call (rclock_fc v) rfl rfl rfl) ?_; refine zM ?_
 refine zP (q_call (inc_fcT (clockR v.es) q hg h0) rfl rfl rfl) ?_; refine zM ?_; refine zP (q_extract rfl rfl rfl) ?_
 refine zP (q_extract rfl rfl rfl) ?_; refine zS ?_; refine zT ?_; refine zH ?_; refine zM ?_; refine zB ?_; refine zN ?_
 refine zq ?_ ?_ <;> intro h25
 ·
  have h8 : ¬ (incC (clockR v.es) q).2 = 0 := by simpa using h25
  refine zG ?_; refine zP (q_build rfl rfl rfl) ?_; refine zM ?_; refine zC ?_; refine zT ?_; refine awp_ret ?_
  change (resY _ _).bind AV.fzt = some _
  refine ret_r rfl ?_
  all_goals rw [writeR, if_neg (by simp_all), if_neg (by simp_all <;> omega), if_neg (by simp_all), if_neg h8]
  all_goals rfl
 have h8 : (incC (clockR v.es) q).2 = 0 := by simpa using h25
 refine zW ?_; refine zG ?_; refine zM ?_; refine zM ?_; refine zP (q_call (single_fc (incC (clockR v.es) q).1 s) rfl rfl rfl) ?_; refine zC ?_
 refine zT ?_; refine awp_ret ?_
 change (resY _ _).bind AV.fzt = some _
 refine ret_r rfl ?_
 all_goals rw [writeR, if_neg (by simp_all), if_neg (by simp_all <;> omega), if_neg (by simp_all), if_pos h8]
 all_goals rfl
end Go.Proofs.YthldgioggjpnpaaGreat

namespace Go.Proofs.YthldgioggjpnpaaGreat
open Go.RowKit
set_option maxRecDepth 100000 in
set_option maxHeartbeats 1000000 in
theorem conflict_fcb (v : Val) (ns : List Nm) (hn : FCb Tryz.prog 18 [.agg (valL v)] (svs ns)) : FCb Tryz.prog 22 [.agg (valL v)] (bl (decide ((ns.length : Int) > 1))) := by
 refine fcb_of_awp [2] Tryz.func22 rfl rfl 7 Tryz.ntmps22 (Nat.le_of_ble_eq_true rfl) ?_
 intro E hN
 intro hz
 refine zG ?_; refine zX ?_; refine zS ?_; refine zA ?_; refine zL ?_; refine zP (q_callb hz hn rfl rfl rfl) ?_; refine zE ?_; refine zB ?_
 refine zS ?_; refine zQ ?_
 simp
set_option maxRecDepth 100000 in
set_option maxHeartbeats 1000000 in
theorem resolve_fcb (v : Val) (q : Int) (s : Nm) (ns : List Nm) (hn : FCb Tryz.prog 18 [.agg (valL v)] (svs (s :: ns))) (hv : validV regL v = true) (h1 : 0 ≤ q) (h2 : q ≤ 63) (h3 : 0 < v.es.length) (hg : getC (clockR v.es) q ≤ 1000000000000000) (h0 : 0 ≤ getC (clockR v.es) q) : FCb Tryz.prog 14 [.agg (valL v), i64 q] (.tup [.agg (valL (writeR v q s).1), i64 (writeR v q s).2]) := by
 refine fcb_of_awpR [.c 4 26 4 true, .t 5] ⟨⟨inferInstance, rfl⟩, trivial⟩ Tryz.func14 rfl rfl 35 Tryz.ntmps14 (Nat.le_of_ble_eq_true rfl) ?_
 intro E hN
 intro hz
 refine zG ?_; refine zX ?_; refine zO ?_; refine zT ?_; refine awp_seq ?_; refine awp_block ?_; refine awp_seq ?_
 refine awp_draw 4 (by kernel_rfl) (by kernel_rfl) ?_; refine zp (q_call rlat_fc rfl rfl rfl) ?_; refine zl ?_
 refine zp (q_call (fcb (c := true) (validV_fc regL v) hv) rfl rfl rfl) ?_; refine zp (q_not rfl rfl) ?_; change AOps _ _ _ _ _ _; refine zT ?_
 refine c_false rfl rfl ?_; refine zG ?_; refine zM ?_
 refine zP (q_binb (b := false) rfl rfl rfl (by simp; omega)) ?_
 refine zM ?_; refine zM ?_
 refine zP (q_binb (b := false) rfl rfl rfl (by simp; omega)) ?_
 refine zh0 rfl ?_; refine zT ?_; refine c_false rfl rfl ?_; refine zG ?_; refine zF ?_; refine zL ?_; refine zE ?_
 refine zP (q_binb (b := false) rfl rfl rfl (by simp; intro e; simp [e] at h3)) ?_
 refine zT ?_; refine c_false rfl rfl ?_; refine awp_skip ?_; change AWP _ _ _ _  _; refine awp_seq ?_
 refine awp_draw 9 (by kernel_rfl) (by kernel_rfl) ?_; refine zl ?_; refine zm ?_; refine zl ?_; refine zp (q_callb hz hn rfl rfl rfl) ?_
 refine zp (q_elem rfl rfl rfl 0 rfl (sv1 s) rfl (by exact rfl)) ?_; refine zl ?_; refine zp (q_call (write_fcR v q s hg h0) rfl rfl rfl) ?_
 refine zp (q_extract rfl rfl rfl) ?_; refine zp (q_extract rfl rfl rfl) ?_; change AOps _ _ _ _ _ _; refine zC ?_; refine zT ?_; refine awp_ret ?_
 change (resY _ _).bind AV.fzt = some _
 refine ret_r rfl ?_
 all_goals rfl
end Go.Proofs.YthldgioggjpnpaaGreat

namespace Go.Proofs.YthldgioggjpnpaaGreat
open Go.RowKit
def enX4 : En := ([(1, 1)], [120])
def enY4 : En := ([(1, 1), (2, 1)], [121])
def enZ4 : En := ([(0, 1)], [122])
def enR4 : En := ([(0, 2), (1, 1), (2, 1)], [121])
theorem aw_wx : writeR Val.zero 1 [120] = (regV [enX4], 0) := by rfl
theorem aw_wy : writeR (regV [enX4]) 2 [121] = (regV [enY4], 0) := by rfl
theorem aw_wz : writeR Val.zero 0 [122] = (regV [enZ4], 0) := by rfl
theorem aw_wr : writeR (regV [enY4, enZ4]) 0 [121] = (regV [enR4], 0) := by rfl
theorem wx_fc : FC Tryz.prog 12 [.agg (valL Val.zero), i64 1, sv [120]] (.tup [.agg (valL (regV [enX4])), i64 0]) := by
 have h := write_fcR Val.zero 1 [120] (by decide) (by decide)
 rw [aw_wx] at h; exact h
theorem wy_fc : FC Tryz.prog 12 [.agg (valL (regV [enX4])), i64 2, sv [121]] (.tup [.agg (valL (regV [enY4])), i64 0]) := by
 have h := write_fcR (regV [enX4]) 2 [121] (by decide) (by decide)
 rw [aw_wy] at h; exact h
theorem wz_fc : FC Tryz.prog 12 [.agg (valL Val.zero), i64 0, sv [122]] (.tup [.agg (valL (regV [enZ4])), i64 0]) := by
 have h := write_fcR Val.zero 0 [122] (by decide) (by decide)
 rw [aw_wz] at h; exact h
theorem aw_oky : RegOk [enY4] := (reg_parts (v := regV [enY4]) (by decide)).2.2
theorem aw_okz : RegOk [enZ4] := (reg_parts (v := regV [enZ4]) (by decide)).2.2
theorem aw_mj : mergedE [enY4] [enZ4] = [enY4, enZ4] := by
 have h1 : [enY4].filter (keepB [enZ4]) = [enY4] := by decide
 have h2 : [enZ4].filter (keepA [enY4]) = [enZ4] := by decide
 unfold mergedE
 rw [h1, h2]
 exact List.mergeSort_of_pairwise (by decide)
theorem jj_fc : FC Tryz.prog 27 [.agg (latL regL), .agg (valL (regV [enY4])), .agg (valL (regV [enZ4]))] (.tup [.agg (valL (regV [enY4, enZ4])), i64 0]) := by
 have h := joinReg_fc [enY4] [enZ4] aw_oky aw_okz (by decide) (by decide)
 rw [aw_mj] at h; exact h
theorem names_u {es : List En} {l1 l2 : List Nm} (h1 : Old.NamesOf es l1) (h2 : Old.NamesOf es l2) : l1 = l2 := by
 have hm : ∀ x, x ∈ l1 ↔ x ∈ l2 := fun x => by rw [h1.2, h2.2]
 have n1 : l1.Nodup := h1.1.imp (fun {a b} h e => by subst e; rw [Old.compareBytes_ok.refl] at h; exact absurd h (by decide))
 have n2 : l2.Nodup := h2.1.imp (fun {a b} h e => by subst e; rw [Old.compareBytes_ok.refl] at h; exact absurd h (by decide))
 have hp : l1.Perm l2 := (List.perm_ext_iff_of_nodup n1 n2).2 hm
 exact hp.eq_of_pairwise (fun a b _ _ e1 e2 => by
  have := Old.compareBytes_ok.anti a b
  omega) h1.1 h2.1
theorem nj_fcb : FCb Tryz.prog 18 [.agg (valL (regV [enY4, enZ4]))] (svs [[121], [122]]) := rnames_fcb _ _ (by decide) (by decide) fun l' h => names_u h ⟨by decide, fun x => by
 simp only [List.mem_cons, List.not_mem_nil, or_false]
 constructor
 ·rintro (rfl | rfl)
  ·exact ⟨enY4, .head _, rfl⟩
  exact ⟨enZ4, .tail _ (.head _), rfl⟩
 rintro ⟨e, he, rfl⟩
 have he2 : e ∈ [enY4, enZ4] := he
 simp only [List.mem_cons, List.not_mem_nil, or_false] at he2
 rcases he2 with rfl | rfl
 ·exact .inl rfl
 exact .inr rfl⟩
theorem ny_fcb : FCb Tryz.prog 18 [.agg (valL (regV [enY4]))] (svs [[121]]) := rnames_fcb _ _ (by decide) (by decide) fun l' h => names_u h ⟨by decide, fun x => by
 simp only [List.mem_cons, List.not_mem_nil, or_false]
 constructor
 ·rintro rfl
  exact ⟨enY4, .head _, rfl⟩
 rintro ⟨e, he, rfl⟩
 have he2 : e ∈ [enY4] := he
 simp only [List.mem_cons, List.not_mem_nil, or_false] at he2
 rw [he2]; rfl⟩
theorem rj_fcb : FCb Tryz.prog 14 [.agg (valL (regV [enY4, enZ4])), i64 0] (.tup [.agg (valL (regV [enR4])), i64 0]) := by
 have h := resolve_fcb (regV [enY4, enZ4]) 0 [121] [[122]] nj_fcb (by decide) (by decide) (by decide) (by decide) (by decide) (by decide)
 rw [aw_wr] at h; exact h
theorem sj_fc : FC Tryz.prog 23 [.agg (valL (regV [enY4, enZ4])), .agg (valL (regV [enY4]))] (.agg (valL (regV [enZ4]))) := rsince_fc (regV [enY4, enZ4]) (regV [enY4]) (by decide) (by decide)
set_option maxRecDepth 100000 in
set_option maxHeartbeats 1000000 in
theorem awake13_fcb : FCb Tryz.prog 10 [] (bl true) := by
 refine fcb_of_awp [0] Tryz.func10 rfl rfl 160 Tryz.ntmps10 (Nat.le_of_ble_eq_true rfl) ?_
 intro E hN
 intro hz
 refine zG ?_; refine zS ?_; refine zA ?_; refine zP (q_build rfl rfl rfl) ?_; refine zP (q_call wx_fc rfl rfl rfl) ?_; refine zM ?_
 refine zP (q_extract rfl rfl rfl) ?_; refine zP (q_extract rfl rfl rfl) ?_; refine zO ?_; refine zC ?_; refine zS ?_; refine zA ?_; refine zL ?_
 refine zP (q_call wy_fc rfl rfl rfl) ?_; refine zM ?_; refine zP (q_extract rfl rfl rfl) ?_; refine zP (q_extract rfl rfl rfl) ?_; refine zO ?_
 refine zC ?_; refine zS ?_; refine zA ?_; refine zP (q_build rfl rfl rfl) ?_; refine zP (q_call wz_fc rfl rfl rfl) ?_; refine zM ?_
 refine zP (q_extract rfl rfl rfl) ?_; refine zP (q_extract rfl rfl rfl) ?_; refine zO ?_; refine zC ?_; refine zT ?_
 refine c_cut (⟨[(1, .ptr 0 0), (2, i64 0), (3, .ptr 1 0), (4, i64 0), (5, .ptr 2 0), (6, i64 0), (7, .ptr 3 0), (8, i64 0)], [(0, .var 26 (valL (regV [enX4]))), (1, .var 26 (valL (regV [enY4]))), (2, .var 26 (valL (regV [enZ4]))), (3, .var 26 (valL (regV [enY4, enZ4])))], 4⟩) ?_ ?_
 ·
  refine awp_takeN 10 rfl (by kernel_rfl) (by kernel_rfl) (fun _ _ h => h) ?_
  refine au_all [0, 1, 2, 7] (by kernel_rfl) rfl ⟨.inl (ao_py rfl ?_), .inl (ao_py rfl ?_), .inl (ao_py rfl ?_), .inr (.inr (nw_alloc hN rfl rfl rfl rfl rfl rfl rfl ?_)), trivial⟩
  ·
   refine zp (q_call rkind_fc rfl rfl rfl) ?_
   change AU _ _ _ _ _ _ _ _
   refine au_all [1, 2, 7] (by kernel_rfl) rfl ⟨.inl (ao_py rfl ?_), .inl (ao_py rfl ?_), .inr (.inr (nw_alloc hN rfl rfl rfl rfl rfl rfl rfl ?_)), trivial⟩
   ·
    refine zl ?_
    change AU _ _ _ _ _ _ _ _
    refine au_all [2, 7] (by kernel_rfl) rfl ⟨.inl (ao_py rfl ?_), .inr (.inr (nw_alloc hN rfl rfl rfl rfl rfl rfl rfl ?_)), trivial⟩
    ·
     refine zl ?_
     change AU _ _ _ _ _ _ _ _
     refine au_all [3, 7] (by kernel_rfl) rfl ⟨.inl (ao_py rfl ?_), .inr (.inr (nw_alloc hN rfl rfl rfl rfl rfl rfl rfl ?_)), trivial⟩
     ·
      refine zp (q_call jj_fc rfl rfl rfl) ?_
      change AU _ _ _ _ _ _ _ _
      refine yM 4 ?_; refine yX 5 ?_; refine yX 6 ?_
      refine au_all [7] (by kernel_rfl) rfl ⟨.inr (.inr (nw_alloc hN rfl rfl rfl rfl rfl rfl rfl ?_)), trivial⟩
      change AU _ _ _ _ _ _ _ _
      refine yS 8 ?_; refine yA 9 ?_; refine yD ?_
      exact weak_scrub' rfl (zz4 (zz4 trivial)) ⟨rfl, rfl, rfl, rfl, rfl, rfl, rfl, rfl, rfl, rfl, rfl, rfl, trivial⟩
     change AU _ _ _ _ _ _ _ _
     refine yP 3 rfl (q_call jj_fc rfl rfl rfl) ?_; refine yM 4 ?_; refine yX 5 ?_; refine yX 6 ?_; refine yS 8 ?_; refine yA 9 ?_; refine yD ?_
     exact weak_scrub' rfl (zz4 (zz4 trivial)) ⟨rfl, rfl, rfl, rfl, rfl, rfl, rfl, rfl, rfl, rfl, rfl, rfl, trivial⟩
    change AU _ _ _ _ _ _ _ _
    refine yL 2 ?_; refine yP 3 rfl (q_call jj_fc rfl rfl rfl) ?_; refine yM 4 ?_; refine yX 5 ?_; refine yX 6 ?_; refine yS 8 ?_; refine yA 9 ?_
    refine yD ?_
    exact weak_scrub' rfl (zz4 (zz4 trivial)) ⟨rfl, rfl, rfl, rfl, rfl, rfl, rfl, rfl, rfl, rfl, rfl, rfl, trivial⟩
   ·
    refine zl ?_
    change AU _ _ _ _ _ _ _ _
    refine au_all [1, 7] (by kernel_rfl) rfl ⟨.inl (ao_py rfl ?_), .inr (.inr (nw_alloc hN rfl rfl rfl rfl rfl rfl rfl ?_)), trivial⟩
    ·
     refine zl ?_
     change AU _ _ _ _ _ _ _ _
     refine au_all [3, 7] (by kernel_rfl) rfl ⟨.inl (ao_py rfl ?_), .inr (.inr (nw_alloc hN rfl rfl rfl rfl rfl rfl rfl ?_)), trivial⟩
     ·
      refine zp (q_call jj_fc rfl rfl rfl) ?_
      change AU _ _ _ _ _ _ _ _
      refine yM 4 ?_; refine yX 5 ?_; refine yX 6 ?_
      refine au_all [7] (by kernel_rfl) rfl ⟨.inr (.inr (nw_alloc hN rfl rfl rfl rfl rfl rfl rfl ?_)), trivial⟩
      change AU _ _ _ _ _ _ _ _
      refine yS 8 ?_; refine yA 9 ?_; refine yD ?_
      exact weak_scrub' rfl (zz4 (zz4 trivial)) ⟨rfl, rfl, rfl, rfl, rfl, rfl, rfl, rfl, rfl, rfl, rfl, rfl, trivial⟩
     change AU _ _ _ _ _ _ _ _
     refine yP 3 rfl (q_call jj_fc rfl rfl rfl) ?_; refine yM 4 ?_; refine yX 5 ?_; refine yX 6 ?_; refine yS 8 ?_; refine yA 9 ?_; refine yD ?_
     exact weak_scrub' rfl (zz4 (zz4 trivial)) ⟨rfl, rfl, rfl, rfl, rfl, rfl, rfl, rfl, rfl, rfl, rfl, rfl, trivial⟩
    change AU _ _ _ _ _ _ _ _
    refine yL 1 ?_; refine yP 3 rfl (q_call jj_fc rfl rfl rfl) ?_; refine yM 4 ?_; refine yX 5 ?_; refine yX 6 ?_; refine yS 8 ?_; refine yA 9 ?_
    refine yD ?_
    exact weak_scrub' rfl (zz4 (zz4 trivial)) ⟨rfl, rfl, rfl, rfl, rfl, rfl, rfl, rfl, rfl, rfl, rfl, rfl, trivial⟩
   change AU _ _ _ _ _ _ _ _
   refine au_all [1, 2] (by kernel_rfl) rfl ⟨.inl (ao_py rfl ?_), .inl (ao_py rfl ?_), trivial⟩
   ·
    refine zl ?_
    change AU _ _ _ _ _ _ _ _
    refine yL 2 ?_; refine yP 3 rfl (q_call jj_fc rfl rfl rfl) ?_; refine yM 4 ?_; refine yX 5 ?_; refine yX 6 ?_; refine yS 8 ?_; refine yA 9 ?_
    refine yD ?_
    exact weak_scrub' rfl (zz4 (zz4 trivial)) ⟨rfl, rfl, rfl, rfl, rfl, rfl, rfl, rfl, rfl, rfl, rfl, rfl, trivial⟩
   refine zl ?_
   change AU _ _ _ _ _ _ _ _
   refine yL 1 ?_; refine yP 3 rfl (q_call jj_fc rfl rfl rfl) ?_; refine yM 4 ?_; refine yX 5 ?_; refine yX 6 ?_; refine yS 8 ?_; refine yA 9 ?_
   refine yD ?_
   exact weak_scrub' rfl (zz4 (zz4 trivial)) ⟨rfl, rfl, rfl, rfl, rfl, rfl, rfl, rfl, rfl, rfl, rfl, rfl, trivial⟩
  ·
   refine zl ?_
   change AU _ _ _ _ _ _ _ _
   refine au_all [0, 2, 7] (by kernel_rfl) rfl ⟨.inl (ao_py rfl ?_), .inl (ao_py rfl ?_), .inr (.inr (nw_alloc hN rfl rfl rfl rfl rfl rfl rfl ?_)), trivial⟩
   ·
    refine zp (q_call rkind_fc rfl rfl rfl) ?_
    change AU _ _ _ _ _ _ _ _
    refine au_all [2, 7] (by kernel_rfl) rfl ⟨.inl (ao_py rfl ?_), .inr (.inr (nw_alloc hN rfl rfl rfl rfl rfl rfl rfl ?_)), trivial⟩
    ·
     refine zl ?_
     change AU _ _ _ _ _ _ _ _
     refine au_all [3, 7] (by kernel_rfl) rfl ⟨.inl (ao_py rfl ?_), .inr (.inr (nw_alloc hN rfl rfl rfl rfl rfl rfl rfl ?_)), trivial⟩
     ·
      refine zp (q_call jj_fc rfl rfl rfl) ?_
      change AU _ _ _ _ _ _ _ _
      refine yM 4 ?_; refine yX 5 ?_; refine yX 6 ?_
      refine au_all [7] (by kernel_rfl) rfl ⟨.inr (.inr (nw_alloc hN rfl rfl rfl rfl rfl rfl rfl ?_)), trivial⟩
      change AU _ _ _ _ _ _ _ _
      refine yS 8 ?_; refine yA 9 ?_; refine yD ?_
      exact weak_scrub' rfl (zz4 (zz4 trivial)) ⟨rfl, rfl, rfl, rfl, rfl, rfl, rfl, rfl, rfl, rfl, rfl, rfl, trivial⟩
     change AU _ _ _ _ _ _ _ _
     refine yP 3 rfl (q_call jj_fc rfl rfl rfl) ?_; refine yM 4 ?_; refine yX 5 ?_; refine yX 6 ?_; refine yS 8 ?_; refine yA 9 ?_; refine yD ?_
     exact weak_scrub' rfl (zz4 (zz4 trivial)) ⟨rfl, rfl, rfl, rfl, rfl, rfl, rfl, rfl, rfl, rfl, rfl, rfl, trivial⟩
    change AU _ _ _ _ _ _ _ _
    refine yL 2 ?_; refine yP 3 rfl (q_call jj_fc rfl rfl rfl) ?_; refine yM 4 ?_; refine yX 5 ?_; refine yX 6 ?_; refine yS 8 ?_; refine yA 9 ?_
    refine yD ?_
    exact weak_scrub' rfl (zz4 (zz4 trivial)) ⟨rfl, rfl, rfl, rfl, rfl, rfl, rfl, rfl, rfl, rfl, rfl, rfl, trivial⟩
   ·
    refine zl ?_
    change AU _ _ _ _ _ _ _ _
    refine au_all [0, 7] (by kernel_rfl) rfl ⟨.inl (ao_py rfl ?_), .inr (.inr (nw_alloc hN rfl rfl rfl rfl rfl rfl rfl ?_)), trivial⟩
    ·
     refine zp (q_call rkind_fc rfl rfl rfl) ?_
     change AU _ _ _ _ _ _ _ _
     refine au_all [3, 7] (by kernel_rfl) rfl ⟨.inl (ao_py rfl ?_), .inr (.inr (nw_alloc hN rfl rfl rfl rfl rfl rfl rfl ?_)), trivial⟩
     ·
      refine zp (q_call jj_fc rfl rfl rfl) ?_
      change AU _ _ _ _ _ _ _ _
      refine yM 4 ?_; refine yX 5 ?_; refine yX 6 ?_
      refine au_all [7] (by kernel_rfl) rfl ⟨.inr (.inr (nw_alloc hN rfl rfl rfl rfl rfl rfl rfl ?_)), trivial⟩
      change AU _ _ _ _ _ _ _ _
      refine yS 8 ?_; refine yA 9 ?_; refine yD ?_
      exact weak_scrub' rfl (zz4 (zz4 trivial)) ⟨rfl, rfl, rfl, rfl, rfl, rfl, rfl, rfl, rfl, rfl, rfl, rfl, trivial⟩
     change AU _ _ _ _ _ _ _ _
     refine yP 3 rfl (q_call jj_fc rfl rfl rfl) ?_; refine yM 4 ?_; refine yX 5 ?_; refine yX 6 ?_; refine yS 8 ?_; refine yA 9 ?_; refine yD ?_
     exact weak_scrub' rfl (zz4 (zz4 trivial)) ⟨rfl, rfl, rfl, rfl, rfl, rfl, rfl, rfl, rfl, rfl, rfl, rfl, trivial⟩
    change AU _ _ _ _ _ _ _ _
    refine yP 0 rfl (q_call rkind_fc rfl rfl rfl) ?_; refine yP 3 rfl (q_call jj_fc rfl rfl rfl) ?_; refine yM 4 ?_; refine yX 5 ?_; refine yX 6 ?_
    refine yS 8 ?_; refine yA 9 ?_; refine yD ?_
    exact weak_scrub' rfl (zz4 (zz4 trivial)) ⟨rfl, rfl, rfl, rfl, rfl, rfl, rfl, rfl, rfl, rfl, rfl, rfl, trivial⟩
   change AU _ _ _ _ _ _ _ _
   refine au_all [0, 2] (by kernel_rfl) rfl ⟨.inl (ao_py rfl ?_), .inl (ao_py rfl ?_), trivial⟩
   ·
    refine zp (q_call rkind_fc rfl rfl rfl) ?_
    change AU _ _ _ _ _ _ _ _
    refine yL 2 ?_; refine yP 3 rfl (q_call jj_fc rfl rfl rfl) ?_; refine yM 4 ?_; refine yX 5 ?_; refine yX 6 ?_; refine yS 8 ?_; refine yA 9 ?_
    refine yD ?_
    exact weak_scrub' rfl (zz4 (zz4 trivial)) ⟨rfl, rfl, rfl, rfl, rfl, rfl, rfl, rfl, rfl, rfl, rfl, rfl, trivial⟩
   refine zl ?_
   change AU _ _ _ _ _ _ _ _
   refine yP 0 rfl (q_call rkind_fc rfl rfl rfl) ?_; refine yP 3 rfl (q_call jj_fc rfl rfl rfl) ?_; refine yM 4 ?_; refine yX 5 ?_; refine yX 6 ?_
   refine yS 8 ?_; refine yA 9 ?_; refine yD ?_
   exact weak_scrub' rfl (zz4 (zz4 trivial)) ⟨rfl, rfl, rfl, rfl, rfl, rfl, rfl, rfl, rfl, rfl, rfl, rfl, trivial⟩
  ·
   refine zl ?_
   change AU _ _ _ _ _ _ _ _
   refine au_all [0, 1, 7] (by kernel_rfl) rfl ⟨.inl (ao_py rfl ?_), .inl (ao_py rfl ?_), .inr (.inr (nw_alloc hN rfl rfl rfl rfl rfl rfl rfl ?_)), trivial⟩
   ·
    refine zp (q_call rkind_fc rfl rfl rfl) ?_
    change AU _ _ _ _ _ _ _ _
    refine au_all [1, 7] (by kernel_rfl) rfl ⟨.inl (ao_py rfl ?_), .inr (.inr (nw_alloc hN rfl rfl rfl rfl rfl rfl rfl ?_)), trivial⟩
    ·
     refine zl ?_
     change AU _ _ _ _ _ _ _ _
     refine au_all [3, 7] (by kernel_rfl) rfl ⟨.inl (ao_py rfl ?_), .inr (.inr (nw_alloc hN rfl rfl rfl rfl rfl rfl rfl ?_)), trivial⟩
     ·
      refine zp (q_call jj_fc rfl rfl rfl) ?_
      change AU _ _ _ _ _ _ _ _
      refine yM 4 ?_; refine yX 5 ?_; refine yX 6 ?_
      refine au_all [7] (by kernel_rfl) rfl ⟨.inr (.inr (nw_alloc hN rfl rfl rfl rfl rfl rfl rfl ?_)), trivial⟩
      change AU _ _ _ _ _ _ _ _
      refine yS 8 ?_; refine yA 9 ?_; refine yD ?_
      exact weak_scrub' rfl (zz4 (zz4 trivial)) ⟨rfl, rfl, rfl, rfl, rfl, rfl, rfl, rfl, rfl, rfl, rfl, rfl, trivial⟩
     change AU _ _ _ _ _ _ _ _
     refine yP 3 rfl (q_call jj_fc rfl rfl rfl) ?_; refine yM 4 ?_; refine yX 5 ?_; refine yX 6 ?_; refine yS 8 ?_; refine yA 9 ?_; refine yD ?_
     exact weak_scrub' rfl (zz4 (zz4 trivial)) ⟨rfl, rfl, rfl, rfl, rfl, rfl, rfl, rfl, rfl, rfl, rfl, rfl, trivial⟩
    change AU _ _ _ _ _ _ _ _
    refine yL 1 ?_; refine yP 3 rfl (q_call jj_fc rfl rfl rfl) ?_; refine yM 4 ?_; refine yX 5 ?_; refine yX 6 ?_; refine yS 8 ?_; refine yA 9 ?_
    refine yD ?_
    exact weak_scrub' rfl (zz4 (zz4 trivial)) ⟨rfl, rfl, rfl, rfl, rfl, rfl, rfl, rfl, rfl, rfl, rfl, rfl, trivial⟩
   ·
    refine zl ?_
    change AU _ _ _ _ _ _ _ _
    refine au_all [0, 7] (by kernel_rfl) rfl ⟨.inl (ao_py rfl ?_), .inr (.inr (nw_alloc hN rfl rfl rfl rfl rfl rfl rfl ?_)), trivial⟩
    ·
     refine zp (q_call rkind_fc rfl rfl rfl) ?_
     change AU _ _ _ _ _ _ _ _
     refine au_all [3, 7] (by kernel_rfl) rfl ⟨.inl (ao_py rfl ?_), .inr (.inr (nw_alloc hN rfl rfl rfl rfl rfl rfl rfl ?_)), trivial⟩
     ·
      refine zp (q_call jj_fc rfl rfl rfl) ?_
      change AU _ _ _ _ _ _ _ _
      refine yM 4 ?_; refine yX 5 ?_; refine yX 6 ?_
      refine au_all [7] (by kernel_rfl) rfl ⟨.inr (.inr (nw_alloc hN rfl rfl rfl rfl rfl rfl rfl ?_)), trivial⟩
      change AU _ _ _ _ _ _ _ _
      refine yS 8 ?_; refine yA 9 ?_; refine yD ?_
      exact weak_scrub' rfl (zz4 (zz4 trivial)) ⟨rfl, rfl, rfl, rfl, rfl, rfl, rfl, rfl, rfl, rfl, rfl, rfl, trivial⟩
     change AU _ _ _ _ _ _ _ _
     refine yP 3 rfl (q_call jj_fc rfl rfl rfl) ?_; refine yM 4 ?_; refine yX 5 ?_; refine yX 6 ?_; refine yS 8 ?_; refine yA 9 ?_; refine yD ?_
     exact weak_scrub' rfl (zz4 (zz4 trivial)) ⟨rfl, rfl, rfl, rfl, rfl, rfl, rfl, rfl, rfl, rfl, rfl, rfl, trivial⟩
    change AU _ _ _ _ _ _ _ _
    refine yP 0 rfl (q_call rkind_fc rfl rfl rfl) ?_; refine yP 3 rfl (q_call jj_fc rfl rfl rfl) ?_; refine yM 4 ?_; refine yX 5 ?_; refine yX 6 ?_
    refine yS 8 ?_; refine yA 9 ?_; refine yD ?_
    exact weak_scrub' rfl (zz4 (zz4 trivial)) ⟨rfl, rfl, rfl, rfl, rfl, rfl, rfl, rfl, rfl, rfl, rfl, rfl, trivial⟩
   change AU _ _ _ _ _ _ _ _
   refine au_all [0, 1] (by kernel_rfl) rfl ⟨.inl (ao_py rfl ?_), .inl (ao_py rfl ?_), trivial⟩
   ·
    refine zp (q_call rkind_fc rfl rfl rfl) ?_
    change AU _ _ _ _ _ _ _ _
    refine yL 1 ?_; refine yP 3 rfl (q_call jj_fc rfl rfl rfl) ?_; refine yM 4 ?_; refine yX 5 ?_; refine yX 6 ?_; refine yS 8 ?_; refine yA 9 ?_
    refine yD ?_
    exact weak_scrub' rfl (zz4 (zz4 trivial)) ⟨rfl, rfl, rfl, rfl, rfl, rfl, rfl, rfl, rfl, rfl, rfl, rfl, trivial⟩
   refine zl ?_
   change AU _ _ _ _ _ _ _ _
   refine yP 0 rfl (q_call rkind_fc rfl rfl rfl) ?_; refine yP 3 rfl (q_call jj_fc rfl rfl rfl) ?_; refine yM 4 ?_; refine yX 5 ?_; refine yX 6 ?_
   refine yS 8 ?_; refine yA 9 ?_; refine yD ?_
   exact weak_scrub' rfl (zz4 (zz4 trivial)) ⟨rfl, rfl, rfl, rfl, rfl, rfl, rfl, rfl, rfl, rfl, rfl, rfl, trivial⟩
  change AU _ _ _ _ _ _ _ _
  refine au_all [0, 1, 2] (by kernel_rfl) rfl ⟨.inl (ao_py rfl ?_), .inl (ao_py rfl ?_), .inl (ao_py rfl ?_), trivial⟩
  ·
   refine zp (q_call rkind_fc rfl rfl rfl) ?_
   change AU _ _ _ _ _ _ _ _
   refine au_all [1, 2] (by kernel_rfl) rfl ⟨.inl (ao_py rfl ?_), .inl (ao_py rfl ?_), trivial⟩
   ·
    refine zl ?_
    change AU _ _ _ _ _ _ _ _
    refine yL 2 ?_; refine yP 3 rfl (q_call jj_fc rfl rfl rfl) ?_; refine yM 4 ?_; refine yX 5 ?_; refine yX 6 ?_; refine yS 8 ?_; refine yA 9 ?_
    refine yD ?_
    exact weak_scrub' rfl (zz4 (zz4 trivial)) ⟨rfl, rfl, rfl, rfl, rfl, rfl, rfl, rfl, rfl, rfl, rfl, rfl, trivial⟩
   refine zl ?_
   change AU _ _ _ _ _ _ _ _
   refine yL 1 ?_; refine yP 3 rfl (q_call jj_fc rfl rfl rfl) ?_; refine yM 4 ?_; refine yX 5 ?_; refine yX 6 ?_; refine yS 8 ?_; refine yA 9 ?_
   refine yD ?_
   exact weak_scrub' rfl (zz4 (zz4 trivial)) ⟨rfl, rfl, rfl, rfl, rfl, rfl, rfl, rfl, rfl, rfl, rfl, rfl, trivial⟩
  ·
   refine zl ?_
   change AU _ _ _ _ _ _ _ _
   refine au_all [0, 2] (by kernel_rfl) rfl ⟨.inl (ao_py rfl ?_), .inl (ao_py rfl ?_), trivial⟩
   ·
    refine zp (q_call rkind_fc rfl rfl rfl) ?_
    change AU _ _ _ _ _ _ _ _
    refine yL 2 ?_; refine yP 3 rfl (q_call jj_fc rfl rfl rfl) ?_; refine yM 4 ?_; refine yX 5 ?_; refine yX 6 ?_; refine yS 8 ?_; refine yA 9 ?_
    refine yD ?_
    exact weak_scrub' rfl (zz4 (zz4 trivial)) ⟨rfl, rfl, rfl, rfl, rfl, rfl, rfl, rfl, rfl, rfl, rfl, rfl, trivial⟩
   refine zl ?_
   change AU _ _ _ _ _ _ _ _
   refine yP 0 rfl (q_call rkind_fc rfl rfl rfl) ?_; refine yP 3 rfl (q_call jj_fc rfl rfl rfl) ?_; refine yM 4 ?_; refine yX 5 ?_; refine yX 6 ?_
   refine yS 8 ?_; refine yA 9 ?_; refine yD ?_
   exact weak_scrub' rfl (zz4 (zz4 trivial)) ⟨rfl, rfl, rfl, rfl, rfl, rfl, rfl, rfl, rfl, rfl, rfl, rfl, trivial⟩
  refine zl ?_
  change AU _ _ _ _ _ _ _ _
  refine au_all [0, 1] (by kernel_rfl) rfl ⟨.inl (ao_py rfl ?_), .inl (ao_py rfl ?_), trivial⟩
  ·
   refine zp (q_call rkind_fc rfl rfl rfl) ?_
   change AU _ _ _ _ _ _ _ _
   refine yL 1 ?_; refine yP 3 rfl (q_call jj_fc rfl rfl rfl) ?_; refine yM 4 ?_; refine yX 5 ?_; refine yX 6 ?_; refine yS 8 ?_; refine yA 9 ?_
   refine yD ?_
   exact weak_scrub' rfl (zz4 (zz4 trivial)) ⟨rfl, rfl, rfl, rfl, rfl, rfl, rfl, rfl, rfl, rfl, rfl, rfl, trivial⟩
  refine zl ?_
  change AU _ _ _ _ _ _ _ _
  refine yP 0 rfl (q_call rkind_fc rfl rfl rfl) ?_; refine yP 3 rfl (q_call jj_fc rfl rfl rfl) ?_; refine yM 4 ?_; refine yX 5 ?_; refine yX 6 ?_
  refine yS 8 ?_; refine yA 9 ?_; refine yD ?_
  exact weak_scrub' rfl (zz4 (zz4 trivial)) ⟨rfl, rfl, rfl, rfl, rfl, rfl, rfl, rfl, rfl, rfl, rfl, rfl, trivial⟩
 refine zH ?_; refine zM ?_; refine zB ?_; refine zM ?_; refine zM ?_; refine zB ?_; refine zh0 rfl ?_; refine zM ?_; refine zM ?_; refine zB ?_
 refine zh0 rfl ?_; refine zM ?_; refine zM ?_; refine zB ?_; refine zh0 rfl ?_; refine zM ?_; refine zF ?_; refine zL ?_; refine zE ?_; refine zB ?_
 refine zh0 rfl ?_; refine zM ?_; refine zF ?_; refine zL ?_; refine zP (q_elem rfl rfl rfl 0 rfl (enC enY4) rfl (by exact rfl)) ?_; refine zF ?_
 refine zL ?_; refine zE ?_; refine zB ?_; refine zh0 rfl ?_; refine zM ?_; refine zF ?_; refine zL ?_; refine zE ?_; refine zB ?_; refine zh0 rfl ?_
 refine zN ?_; refine c_false rfl rfl ?_; refine zW ?_; refine awp_seq ?_; refine awp_draw 5 (by kernel_rfl) (by kernel_rfl) ?_; refine zl ?_
 refine zp (q_callb hz nj_fcb rfl rfl rfl) ?_; refine zl ?_; refine zp (q_call (rclock_fc (regV [enY4, enZ4])) rfl rfl rfl) ?_
 refine zp (q_assign rfl rfl) ?_; change AOps _ _ _ _ _ _; refine zS ?_; refine zA ?_; refine zL ?_; refine zP (q_callb hz rj_fcb rfl rfl rfl) ?_
 refine zM ?_; refine zP (q_extract rfl rfl rfl) ?_; refine zP (q_extract rfl rfl rfl) ?_; refine zO ?_; refine zC ?_; refine zS ?_; refine zA ?_
 refine zL ?_; refine zL ?_; refine zP (q_call sj_fc rfl rfl rfl) ?_; refine zO ?_; refine zC ?_; refine zA ?_; refine zM ?_; refine zE ?_
 refine zB ?_; refine zM ?_; refine zM ?_; refine zP (q_elem rfl rfl rfl 0 rfl (sv1 [121]) rfl (by exact rfl)) ?_; refine zL ?_; refine zB ?_
 refine zh1 rfl ?_; refine zM ?_; refine zM ?_; refine zE ?_; refine zB ?_; refine zh1 rfl ?_; refine zM ?_; refine zL ?_
 refine zP (q_callb hz (conflict_fcb (regV [enY4, enZ4]) [[121], [122]] nj_fcb) rfl rfl rfl) ?_; refine zh1 rfl ?_; refine zM ?_; refine zL ?_
 refine zP (q_callb hz (conflict_fcb (regV [enY4]) [[121]] ny_fcb) rfl rfl rfl) ?_; refine zP (q_not rfl rfl) ?_; refine zh1 rfl ?_; refine zM ?_
 refine zM ?_; refine zB ?_; refine zh1 rfl ?_; refine zM ?_; refine zF ?_; refine zL ?_; refine zE ?_; refine zB ?_; refine zh1 rfl ?_; refine zM ?_
 refine zF ?_; refine zL ?_; refine zP (q_elem rfl rfl rfl 0 rfl (enC enR4) rfl (by exact rfl)) ?_; refine zF ?_; refine zL ?_; refine zB ?_
 refine zh1 rfl ?_; refine zM ?_; refine zF ?_; refine zL ?_; refine zP (q_elem rfl rfl rfl 0 rfl (enC enR4) rfl (by exact rfl)) ?_; refine zF ?_
 refine zL ?_; refine zP (q_elem rfl rfl rfl 0 rfl (tkC (0, 2)) rfl (by exact rfl)) ?_; refine zF ?_; refine zL ?_; refine zB ?_; refine zh1 rfl ?_
 refine zM ?_; refine zF ?_; refine zL ?_; refine zE ?_; refine zB ?_; refine zh1 rfl ?_; refine zM ?_; refine zF ?_; refine zL ?_
 refine zP (q_elem rfl rfl rfl 0 rfl (enC enZ4) rfl (by exact rfl)) ?_; refine zF ?_; refine zL ?_; refine zB ?_; refine zh1 rfl ?_; refine zM ?_
 refine zL ?_; refine zL ?_; refine zP (q_call (fcb (c := true) (rcovers_fc (regV [enY4, enZ4]) (regV [enX4])) (by decide)) rfl rfl rfl) ?_
 refine zh1 rfl ?_; refine zM ?_; refine zL ?_; refine zL ?_
 refine zP (q_call (fcb (c := false) (rcovers_fc (regV [enX4]) (regV [enY4, enZ4])) (by decide)) rfl rfl rfl) ?_; refine zP (q_not rfl rfl) ?_
 refine zh1 rfl ?_; refine zS ?_; refine zQ ?_
 rfl
theorem awake_b (w : World) : Calls Tryz.prog 10 #[] w fun e w' => e = .returned (.bool true) ∧ Below w.heap.size w w' :=
 (awake13_fcb w (fun _ _ => False) [] (fun _ _ h => h.elim) ⟨rfl, by simp⟩).mono fun e w' ⟨v, S', h1, h2, h3, h4, h5⟩ => ⟨by rw [h1, fr_p h5], h2⟩
end Go.Proofs.YthldgioggjpnpaaGreat
