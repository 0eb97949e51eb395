/-
  Contracts: the proposer, at the states of the chapter's example.
-/
import Derived.Test.YtnjmbgnaplomaaaGreatS2
import Derived.Test.YtnjmbgnaplomaaaGreatS1
namespace Go.Proofs.YtnjmbgnaplomaaaGreat
open Go.RowKit
def sL : Lat := .mk 4 0 0 [] [] []
def sA : Val := .mk 0 [[97]] [] []
def sB : Val := .mk 0 [[98]] [] []
def sAB : Val := .mk 0 [[97], [98]] [] []
theorem sCk : checkX sL = 0 := by decide
theorem sSm {v : Val} (h : smallV v 40 = true) : SmV 1000 v := (sm_small h).up (by decide)
abbrev PR (v : Val) (k : Int) (r1 r2 : Bool) (a : Int) (ns : AV) (d : Bool) : List AV := [i64 4, i64 0, i64 0, svs [], lats [], rus [], i64 1, i64 3, i64 2, i64 v.N, svs v.nm, vals v.ps, ens v.es, i64 k, bl false, bl r1, bl r2, bl false, bl false, bl false, bl false, bl false, bl false, bl false, bl false, bl false, i64 a, ns, bl d]
theorem plusBB : FC Tryz.prog 46 [.agg (latL sL), .agg (valL sB), .agg (valL sB)] (.agg (valL sB)) := plus_fc sL sB sB sCk (by decide) (by decide) (sSm (by kernel_rfl)) (sSm (by kernel_rfl))
theorem plusBAB : FC Tryz.prog 46 [.agg (latL sL), .agg (valL sB), .agg (valL sAB)] (.agg (valL sAB)) := plus_fc sL sB sAB sCk (by decide) (by decide) (sSm (by kernel_rfl)) (sSm (by kernel_rfl))
theorem plusABAB : FC Tryz.prog 46 [.agg (latL sL), .agg (valL sAB), .agg (valL sAB)] (.agg (valL sAB)) := plus_fc sL sAB sAB sCk (by decide) (by decide) (sSm (by kernel_rfl)) (sSm (by kernel_rfl))
def bl3 (k : Int) (v : Val) : List Bal := [⟨1, 1, 0, k, v⟩, ⟨1, 1, 1, k, v⟩, ⟨1, 1, 2, k, v⟩]
set_option maxRecDepth 100000 in
set_option maxHeartbeats 1000000 in
theorem newP_fn : FN Tryz.prog 20 [.agg (latL sL), i64 1, i64 3, i64 2, .agg (valL sB)] 98 (PR sB 1 false false 0 (.p (.slice none 0 0)) false) (i64 0) := by
 refine fn_of_awp 10 11 Tryz.func20 rfl rfl 47 Tryz.ntmps20 (Nat.le_of_ble_eq_true rfl) ?_
 intro E hN
 refine zG ?_; refine zX ?_; refine zX ?_; refine zS ?_; refine zT ?_; refine zH ?_; refine zM ?_; refine zB ?_; refine zM ?_; refine zM ?_
 refine zB ?_; refine zh0 rfl ?_; refine zM ?_; refine zM ?_; refine zB ?_; refine zh0 rfl ?_; refine zM ?_; refine zM ?_; refine zB ?_
 refine zh0 rfl ?_; refine zM ?_; refine zM ?_; refine zM ?_; refine zB ?_; refine zh0 rfl ?_; refine zM ?_; refine zL ?_; refine zL ?_
 refine zP (q_call (fcb (c := true) (validV_fc sL sB) (by decide)) rfl rfl rfl) ?_; refine zP (q_not rfl rfl) ?_; refine zh0 rfl ?_; refine zN ?_
 refine c_false rfl rfl ?_; refine zW ?_; refine awp_seq ?_; refine awp_draw 9 (by kernel_rfl) (by kernel_rfl) ?_; refine zl ?_; refine zm ?_
 refine zm ?_; refine zm ?_; refine zl ?_; refine zl ?_; refine zl ?_; refine zp (q_call plusBB rfl rfl rfl) ?_; refine zp (q_build rfl rfl rfl) ?_
 change AOps _ _ _ _ _ _; refine zX ?_; refine zS ?_; refine zT ?_; refine awp_ret ?_
 exact ⟨2, _, _, rfl, rfl, rfl, rfl, rfl⟩
set_option maxRecDepth 100000 in
set_option maxHeartbeats 1000000 in
theorem valueP_gc {v : Val} {k a : Int} {r1 r2 d : Bool} (hp : FC Tryz.prog 46 [.agg (latL sL), .agg (valL v), .agg (valL v)] (.agg (valL v))) : GC Tryz.prog 24 [.ptr idB 0] [(idB, .var 98 (PR v k r1 r2 a (.p (.slice none 0 0)) d))] (.agg (valL v)) [(idB, .var 98 (PR v k r1 r2 a (.p (.slice none 0 0)) d))] := by
 refine gc_of_awpR [.c 2 41 4 true] ⟨⟨inferInstance, rfl⟩, trivial⟩ Tryz.func24 rfl rfl 16 Tryz.ntmps24 (Nat.le_of_ble_eq_true rfl) ?_
 intro E hN
 refine zG ?_; refine zO ?_; refine zN ?_; refine awp_seq ?_; refine awp_draw 13 (by kernel_rfl) (by kernel_rfl) ?_; refine zm ?_
 refine zp (q_nil rfl rfl rfl) ?_; refine zf ?_; refine zl ?_; refine zm ?_; refine zp (q_nil rfl rfl rfl) ?_; refine zf ?_; refine zl ?_; refine zm ?_
 refine zp (q_nil rfl rfl rfl) ?_; refine zf ?_; refine zl ?_; refine zp (q_call hp rfl rfl rfl) ?_; change AOps _ _ _ _ _ _; refine zC ?_
 refine zN ?_; refine awp_ret ?_
 change (resY _ _).bind AV.fzt = some _ ∧ _
 refine ret_g1r rfl ?_ rfl ?_ rfl
 all_goals rfl
set_option maxRecDepth 100000 in
set_option maxHeartbeats 1000000 in
theorem numP_gc : GC Tryz.prog 25 [.ptr idB 0] [(idB, .var 98 (PR sAB 2 true true 2 (.p (.slice none 0 0)) true))] (i64 2) [(idB, .var 98 (PR sAB 2 true true 2 (.p (.slice none 0 0)) true))] := by
 refine gc_of_awp [2] Tryz.func25 rfl rfl 7 Tryz.ntmps25 (Nat.le_of_ble_eq_true rfl) ?_
 intro E hN
 refine zG ?_; refine zS ?_; refine zA ?_; refine zM ?_; refine zP (q_nil rfl rfl rfl) ?_; refine zF ?_; refine zL ?_; refine zT ?_; refine awp_ret ?_
 change (resX _ _).fzt = some _ ∧ _
 refine ret_g1 rfl ?_ rfl ?_ rfl
 all_goals rfl
set_option maxRecDepth 100000 in
set_option maxHeartbeats 1000000 in
theorem balP1 : GC Tryz.prog 27 [.ptr idB 0] [(idB, .var 98 (PR sB 1 false false 0 (.p (.slice none 0 0)) false))] (bals (bl3 1 sB)) [(idB, .var 98 (PR sB 1 false false 0 (.p (.slice none 0 0)) false))] := by
 refine gc_of_awp [2] Tryz.func27 rfl rfl 43 Tryz.ntmps27 (Nat.le_of_ble_eq_true rfl) ?_
 intro E hN
 refine zG ?_; refine zS ?_; refine zA ?_; refine zT ?_; refine zH ?_; refine zM ?_; refine zP (q_nil rfl rfl rfl) ?_; refine zF ?_; refine zL ?_
 refine zV ?_; refine awp_block ?_; refine awp_weak (weak_tok rfl 3 46 8 rfl) ?_
 refine awp_loop (fun x : {i : Nat // i ≤ 3} => ⟨[(0, .ptr idB 0), (3, .sl (((bl3 1 sB).take x.1).map fun b => balC b) (some 0)), (8, i64 3), (9, i64 (x.1 : Nat))], [(idB, .var 98 (PR sB 1 false false 0 (.p (.slice none 0 0)) false)), (0, .tok 46 8 ((bl3 1 sB).take x.1).length)], 1⟩) (fun x => 3 - x.1) (⟨0, by decide⟩) ?_ ?_
 ·
  exact weak_scrub' rfl (zz4 trivial) ⟨rfl, rfl, rfl, rfl, rfl, rfl, trivial⟩
 rintro ⟨i, hi⟩
 dsimp only
 rcases (show i = 0 ∨ i = 1 ∨ i = 2 ∨ i = 3 by omega) with rfl | rfl | rfl | rfl
 ·
  skip
  refine zG ?_; refine zB ?_; refine zN ?_; refine awp_seq ?_; refine c_true rfl rfl ?_; refine zW ?_; refine awp_seq ?_; refine awp_block ?_
  refine zG ?_; refine zM ?_; refine zS ?_; refine zA ?_; refine zM ?_; refine zP (q_nil rfl rfl rfl) ?_; refine zF ?_; refine zL ?_
  refine zP (q_not rfl rfl) ?_; refine zM ?_; refine zM ?_; refine zM ?_; refine zP (q_nil rfl rfl rfl) ?_; refine zF ?_
  refine zP (q_arr rfl rfl rfl 0 rfl (by decide) rfl rfl) ?_; refine zL ?_; refine zP (q_not rfl rfl) ?_; refine zh1 rfl ?_; refine zN ?_
  refine c_true rfl rfl ?_; refine awp_draw 14 (by kernel_rfl) (by kernel_rfl) ?_; refine zm ?_; refine zm ?_; refine zp (q_nil rfl rfl rfl) ?_
  refine zf ?_; refine zl ?_; refine zm ?_; refine zm ?_; refine zp (q_nil rfl rfl rfl) ?_; refine zf ?_; refine zl ?_; refine zm ?_
  refine zp (q_gread1 idB (valueP_gc plusBB) rfl rfl rfl rfl rfl rfl rfl rfl rfl) ?_; refine zp (q_build rfl rfl rfl) ?_
  refine zp (q_bslice rfl rfl rfl rfl (by exact rfl) (by decide) (by decide)) ?_; change AOps _ _ _ _ _ _
  refine s_append_tok hN rfl rfl rfl rfl rfl rfl rfl rfl (by decide) rfl rfl rfl rfl ?_; refine zS ?_; refine aops_nil ?_; change AWP _ _ _ _  _
  refine awp_region ?_; refine zP (q_addi rfl rfl rfl (by decide)) ?_; refine zM ?_; refine aops_nil ?_
  exact ⟨⟨1, by decide⟩, weak_scrub' rfl (zz4 trivial) ⟨rfl, rfl, rfl, rfl, rfl, rfl, trivial⟩, by decide⟩
 ·
  skip
  refine zG ?_; refine zB ?_; refine zN ?_; refine awp_seq ?_; refine c_true rfl rfl ?_; refine zW ?_; refine awp_seq ?_; refine awp_block ?_
  refine zG ?_; refine zM ?_; refine zS ?_; refine zA ?_; refine zM ?_; refine zP (q_nil rfl rfl rfl) ?_; refine zF ?_; refine zL ?_
  refine zP (q_not rfl rfl) ?_; refine zM ?_; refine zM ?_; refine zM ?_; refine zP (q_nil rfl rfl rfl) ?_; refine zF ?_
  refine zP (q_arr rfl rfl rfl 1 rfl (by decide) rfl rfl) ?_; refine zL ?_; refine zP (q_not rfl rfl) ?_; refine zh1 rfl ?_; refine zN ?_
  refine c_true rfl rfl ?_; refine awp_draw 14 (by kernel_rfl) (by kernel_rfl) ?_; refine zm ?_; refine zm ?_; refine zp (q_nil rfl rfl rfl) ?_
  refine zf ?_; refine zl ?_; refine zm ?_; refine zm ?_; refine zp (q_nil rfl rfl rfl) ?_; refine zf ?_; refine zl ?_; refine zm ?_
  refine zp (q_gread1 idB (valueP_gc plusBB) rfl rfl rfl rfl rfl rfl rfl rfl rfl) ?_; refine zp (q_build rfl rfl rfl) ?_
  refine zp (q_bslice rfl rfl rfl rfl (by exact rfl) (by decide) (by decide)) ?_; change AOps _ _ _ _ _ _
  refine s_append_tok hN rfl rfl rfl rfl rfl rfl rfl rfl (by decide) rfl rfl rfl rfl ?_; refine zS ?_; refine aops_nil ?_; change AWP _ _ _ _  _
  refine awp_region ?_; refine zP (q_addi rfl rfl rfl (by decide)) ?_; refine zM ?_; refine aops_nil ?_
  exact ⟨⟨2, by decide⟩, weak_scrub' rfl (zz4 trivial) ⟨rfl, rfl, rfl, rfl, rfl, rfl, trivial⟩, by decide⟩
 ·
  skip
  refine zG ?_; refine zB ?_; refine zN ?_; refine awp_seq ?_; refine c_true rfl rfl ?_; refine zW ?_; refine awp_seq ?_; refine awp_block ?_
  refine zG ?_; refine zM ?_; refine zS ?_; refine zA ?_; refine zM ?_; refine zP (q_nil rfl rfl rfl) ?_; refine zF ?_; refine zL ?_
  refine zP (q_not rfl rfl) ?_; refine zM ?_; refine zM ?_; refine zM ?_; refine zP (q_nil rfl rfl rfl) ?_; refine zF ?_
  refine zP (q_arr rfl rfl rfl 2 rfl (by decide) rfl rfl) ?_; refine zL ?_; refine zP (q_not rfl rfl) ?_; refine zh1 rfl ?_; refine zN ?_
  refine c_true rfl rfl ?_; refine awp_draw 14 (by kernel_rfl) (by kernel_rfl) ?_; refine zm ?_; refine zm ?_; refine zp (q_nil rfl rfl rfl) ?_
  refine zf ?_; refine zl ?_; refine zm ?_; refine zm ?_; refine zp (q_nil rfl rfl rfl) ?_; refine zf ?_; refine zl ?_; refine zm ?_
  refine zp (q_gread1 idB (valueP_gc plusBB) rfl rfl rfl rfl rfl rfl rfl rfl rfl) ?_; refine zp (q_build rfl rfl rfl) ?_
  refine zp (q_bslice rfl rfl rfl rfl (by exact rfl) (by decide) (by decide)) ?_; change AOps _ _ _ _ _ _
  refine s_append_tok hN rfl rfl rfl rfl rfl rfl rfl rfl (by decide) rfl rfl rfl rfl ?_; refine zS ?_; refine aops_nil ?_; change AWP _ _ _ _  _
  refine awp_region ?_; refine zP (q_addi rfl rfl rfl (by decide)) ?_; refine zM ?_; refine aops_nil ?_
  exact ⟨⟨3, by decide⟩, weak_scrub' rfl (zz4 trivial) ⟨rfl, rfl, rfl, rfl, rfl, rfl, trivial⟩, by decide⟩
 skip
 refine zG ?_; refine zB ?_; refine zN ?_; refine awp_seq ?_; refine c_false rfl rfl ?_; refine awp_exit ?_; change AWP _ _ _ _  _; refine zG ?_
 refine zM ?_; refine zT ?_; refine awp_ret ?_
 change (resX _ _).fzt = some _ ∧ _
 refine ret_g1 rfl ?_ rfl ?_ rfl
 all_goals rfl
set_option maxRecDepth 100000 in
set_option maxHeartbeats 1000000 in
theorem balP3 : GC Tryz.prog 27 [.ptr idB 0] [(idB, .var 98 (PR sAB 2 false false 0 (.p (.slice none 0 0)) false))] (bals (bl3 2 sAB)) [(idB, .var 98 (PR sAB 2 false false 0 (.p (.slice none 0 0)) false))] := by
 refine gc_of_awp [2] Tryz.func27 rfl rfl 43 Tryz.ntmps27 (Nat.le_of_ble_eq_true rfl) ?_
 intro E hN
 refine zG ?_; refine zS ?_; refine zA ?_; refine zT ?_; refine zH ?_; refine zM ?_; refine zP (q_nil rfl rfl rfl) ?_; refine zF ?_; refine zL ?_
 refine zV ?_; refine awp_block ?_; refine awp_weak (weak_tok rfl 3 46 8 rfl) ?_
 refine awp_loop (fun x : {i : Nat // i ≤ 3} => ⟨[(0, .ptr idB 0), (3, .sl (((bl3 2 sAB).take x.1).map fun b => balC b) (some 0)), (8, i64 3), (9, i64 (x.1 : Nat))], [(idB, .var 98 (PR sAB 2 false false 0 (.p (.slice none 0 0)) false)), (0, .tok 46 8 ((bl3 2 sAB).take x.1).length)], 1⟩) (fun x => 3 - x.1) (⟨0, by decide⟩) ?_ ?_
 ·
  exact weak_scrub' rfl (zz4 trivial) ⟨rfl, rfl, rfl, rfl, rfl, rfl, trivial⟩
 rintro ⟨i, hi⟩
 dsimp only
 rcases (show i = 0 ∨ i = 1 ∨ i = 2 ∨ i = 3 by omega) with rfl | rfl | rfl | rfl
 ·
  skip
  refine zG ?_; refine zB ?_; refine zN ?_; refine awp_seq ?_; refine c_true rfl rfl ?_; refine zW ?_; refine awp_seq ?_; refine awp_block ?_
  refine zG ?_; refine zM ?_; refine zS ?_; refine zA ?_; refine zM ?_; refine zP (q_nil rfl rfl rfl) ?_; refine zF ?_; refine zL ?_
  refine zP (q_not rfl rfl) ?_; refine zM ?_; refine zM ?_; refine zM ?_; refine zP (q_nil rfl rfl rfl) ?_; refine zF ?_
  refine zP (q_arr rfl rfl rfl 0 rfl (by decide) rfl rfl) ?_; refine zL ?_; refine zP (q_not rfl rfl) ?_; refine zh1 rfl ?_; refine zN ?_
  refine c_true rfl rfl ?_; refine awp_draw 14 (by kernel_rfl) (by kernel_rfl) ?_; refine zm ?_; refine zm ?_; refine zp (q_nil rfl rfl rfl) ?_
  refine zf ?_; refine zl ?_; refine zm ?_; refine zm ?_; refine zp (q_nil rfl rfl rfl) ?_; refine zf ?_; refine zl ?_; refine zm ?_
  refine zp (q_gread1 idB (valueP_gc plusABAB) rfl rfl rfl rfl rfl rfl rfl rfl rfl) ?_; refine zp (q_build rfl rfl rfl) ?_
  refine zp (q_bslice rfl rfl rfl rfl (by exact rfl) (by decide) (by decide)) ?_; change AOps _ _ _ _ _ _
  refine s_append_tok hN rfl rfl rfl rfl rfl rfl rfl rfl (by decide) rfl rfl rfl rfl ?_; refine zS ?_; refine aops_nil ?_; change AWP _ _ _ _  _
  refine awp_region ?_; refine zP (q_addi rfl rfl rfl (by decide)) ?_; refine zM ?_; refine aops_nil ?_
  exact ⟨⟨1, by decide⟩, weak_scrub' rfl (zz4 trivial) ⟨rfl, rfl, rfl, rfl, rfl, rfl, trivial⟩, by decide⟩
 ·
  skip
  refine zG ?_; refine zB ?_; refine zN ?_; refine awp_seq ?_; refine c_true rfl rfl ?_; refine zW ?_; refine awp_seq ?_; refine awp_block ?_
  refine zG ?_; refine zM ?_; refine zS ?_; refine zA ?_; refine zM ?_; refine zP (q_nil rfl rfl rfl) ?_; refine zF ?_; refine zL ?_
  refine zP (q_not rfl rfl) ?_; refine zM ?_; refine zM ?_; refine zM ?_; refine zP (q_nil rfl rfl rfl) ?_; refine zF ?_
  refine zP (q_arr rfl rfl rfl 1 rfl (by decide) rfl rfl) ?_; refine zL ?_; refine zP (q_not rfl rfl) ?_; refine zh1 rfl ?_; refine zN ?_
  refine c_true rfl rfl ?_; refine awp_draw 14 (by kernel_rfl) (by kernel_rfl) ?_; refine zm ?_; refine zm ?_; refine zp (q_nil rfl rfl rfl) ?_
  refine zf ?_; refine zl ?_; refine zm ?_; refine zm ?_; refine zp (q_nil rfl rfl rfl) ?_; refine zf ?_; refine zl ?_; refine zm ?_
  refine zp (q_gread1 idB (valueP_gc plusABAB) rfl rfl rfl rfl rfl rfl rfl rfl rfl) ?_; refine zp (q_build rfl rfl rfl) ?_
  refine zp (q_bslice rfl rfl rfl rfl (by exact rfl) (by decide) (by decide)) ?_; change AOps _ _ _ _ _ _
  refine s_append_tok hN rfl rfl rfl rfl rfl rfl rfl rfl (by decide) rfl rfl rfl rfl ?_; refine zS ?_; refine aops_nil ?_; change AWP _ _ _ _  _
  refine awp_region ?_; refine zP (q_addi rfl rfl rfl (by decide)) ?_; refine zM ?_; refine aops_nil ?_
  exact ⟨⟨2, by decide⟩, weak_scrub' rfl (zz4 trivial) ⟨rfl, rfl, rfl, rfl, rfl, rfl, trivial⟩, by decide⟩
 ·
  skip
  refine zG ?_; refine zB ?_; refine zN ?_; refine awp_seq ?_; refine c_true rfl rfl ?_; refine zW ?_; refine awp_seq ?_; refine awp_block ?_
  refine zG ?_; refine zM ?_; refine zS ?_; refine zA ?_; refine zM ?_; refine zP (q_nil rfl rfl rfl) ?_; refine zF ?_; refine zL ?_
  refine zP (q_not rfl rfl) ?_; refine zM ?_; refine zM ?_; refine zM ?_; refine zP (q_nil rfl rfl rfl) ?_; refine zF ?_
  refine zP (q_arr rfl rfl rfl 2 rfl (by decide) rfl rfl) ?_; refine zL ?_; refine zP (q_not rfl rfl) ?_; refine zh1 rfl ?_; refine zN ?_
  refine c_true rfl rfl ?_; refine awp_draw 14 (by kernel_rfl) (by kernel_rfl) ?_; refine zm ?_; refine zm ?_; refine zp (q_nil rfl rfl rfl) ?_
  refine zf ?_; refine zl ?_; refine zm ?_; refine zm ?_; refine zp (q_nil rfl rfl rfl) ?_; refine zf ?_; refine zl ?_; refine zm ?_
  refine zp (q_gread1 idB (valueP_gc plusABAB) rfl rfl rfl rfl rfl rfl rfl rfl rfl) ?_; refine zp (q_build rfl rfl rfl) ?_
  refine zp (q_bslice rfl rfl rfl rfl (by exact rfl) (by decide) (by decide)) ?_; change AOps _ _ _ _ _ _
  refine s_append_tok hN rfl rfl rfl rfl rfl rfl rfl rfl (by decide) rfl rfl rfl rfl ?_; refine zS ?_; refine aops_nil ?_; change AWP _ _ _ _  _
  refine awp_region ?_; refine zP (q_addi rfl rfl rfl (by decide)) ?_; refine zM ?_; refine aops_nil ?_
  exact ⟨⟨3, by decide⟩, weak_scrub' rfl (zz4 trivial) ⟨rfl, rfl, rfl, rfl, rfl, rfl, trivial⟩, by decide⟩
 skip
 refine zG ?_; refine zB ?_; refine zN ?_; refine awp_seq ?_; refine c_false rfl rfl ?_; refine awp_exit ?_; change AWP _ _ _ _  _; refine zG ?_
 refine zM ?_; refine zT ?_; refine awp_ret ?_
 change (resX _ _).fzt = some _ ∧ _
 refine ret_g1 rfl ?_ rfl ?_ rfl
 all_goals rfl
set_option maxRecDepth 100000 in
set_option maxHeartbeats 1000000 in
theorem balP5 : GC Tryz.prog 27 [.ptr idB 0] [(idB, .var 98 (PR sAB 2 true true 2 (.p (.slice none 0 0)) true))] (.sl [] none) [(idB, .var 98 (PR sAB 2 true true 2 (.p (.slice none 0 0)) true))] := by
 refine gc_of_awp [2] Tryz.func27 rfl rfl 43 Tryz.ntmps27 (Nat.le_of_ble_eq_true rfl) ?_
 intro E hN
 refine zG ?_; refine zS ?_; refine zA ?_; refine zT ?_; refine zH ?_; refine zM ?_; refine zP (q_nil rfl rfl rfl) ?_; refine zF ?_; refine zL ?_
 refine zV ?_; refine awp_block ?_
 refine awp_loop (fun x : {i : Nat // i ≤ 3} => ⟨[(0, .ptr idB 0), (3, .p (.slice none 0 0)), (8, i64 3), (9, i64 (x.1 : Nat))], [(idB, .var 98 (PR sAB 2 true true 2 (.p (.slice none 0 0)) true))], 0⟩) (fun x => 3 - x.1) (⟨0, by decide⟩) ?_ ?_
 ·
  exact weak_scrub' rfl (zz4 trivial) ⟨rfl, rfl, rfl, trivial⟩
 rintro ⟨i, hi⟩
 dsimp only
 refine zG ?_; refine zB ?_; refine zN ?_; refine awp_seq ?_
 refine zq ?_ ?_ <;> intro h8
 ·
  have hlt : i < 3 := by have := of_decide_eq_true h8; omega
  refine zW ?_; refine awp_seq ?_; refine awp_block ?_; refine zG ?_; refine zM ?_; refine zS ?_; refine zA ?_; refine zM ?_
  refine zP (q_nil rfl rfl rfl) ?_; refine zF ?_; refine zL ?_; refine zP (q_not rfl rfl) ?_; refine zM ?_
  iterate 7 refine zK ?_
  refine zh0 rfl ?_; refine zN ?_; refine c_false rfl rfl ?_; refine awp_skip ?_; change AWP _ _ _ _  _; refine awp_region ?_
  refine zP (q_addi rfl rfl rfl (by omega)) ?_; refine zM ?_; refine aops_nil ?_
  exact ⟨⟨i + 1, by omega⟩, weak_scrub' rfl (zz3 ⟨(cgI (by dsimp only; omega)), rfl, trivial⟩) ⟨rfl, rfl, rfl, trivial⟩, by dsimp only; omega⟩
 refine awp_exit ?_; change AWP _ _ _ _  _; refine zG ?_; refine zM ?_; refine zT ?_; refine awp_ret ?_
 change (resX _ _).fzt = some _ ∧ _
 refine ret_g1 rfl ?_ rfl ?_ rfl
 all_goals rfl
set_option maxRecDepth 100000 in
set_option maxHeartbeats 1000000 in
theorem decP_gc : GC Tryz.prog 22 [.ptr idB 0] [(idB, .var 98 (PR sAB 2 true true 2 (.p (.slice none 0 0)) true))] (.tup [.agg (valL sAB), bl true]) [(idB, .var 98 (PR sAB 2 true true 2 (.p (.slice none 0 0)) true))] := by
 refine gc_of_awpR [.c 2 41 4 true, .t 3] ⟨⟨inferInstance, rfl⟩, trivial⟩ Tryz.func22 rfl rfl 12 Tryz.ntmps22 (Nat.le_of_ble_eq_true rfl) ?_
 intro E hN
 refine zG ?_; refine zO ?_; refine zT ?_; refine zH ?_; refine zM ?_; refine zP (q_nil rfl rfl rfl) ?_; refine zF ?_; refine zL ?_
 refine zP (q_not rfl rfl) ?_; refine zN ?_; refine c_false rfl rfl ?_; refine zW ?_; refine zG ?_; refine zM ?_
 refine s_gcall1 hN idB (valueP_gc plusABAB) (.fn _ _ _ _ rfl rfl) rfl rfl rfl rfl rfl rfl rfl rfl rfl rfl rfl ?_; refine zC ?_; refine zT ?_
 refine awp_ret ?_
 change (resY _ _).bind AV.fzt = some _ ∧ _
 refine ret_g1r rfl ?_ rfl ?_ rfl
 all_goals rfl
set_option maxRecDepth 100000 in
set_option maxHeartbeats 1000000 in
theorem chk1 : GC Tryz.prog 51 [.ptr idB 0, .agg (balC (⟨3, 1, 1, 1, sAB⟩ : Bal))] [(idB, .var 98 (PR sB 1 false false 0 (.p (.slice none 0 0)) false))] (i64 0) [(idB, .var 98 (PR sB 1 false false 0 (.p (.slice none 0 0)) false))] := by
 refine gc_of_awp [4] Tryz.func51 rfl rfl 72 Tryz.ntmps51 (Nat.le_of_ble_eq_true rfl) ?_
 intro E hN
 refine zG ?_; refine zX ?_; refine zT ?_; refine awp_seq ?_; refine awp_seq ?_; refine awp_draw 25 (by kernel_rfl) (by kernel_rfl) ?_; refine zf ?_
 refine zl ?_; refine zm ?_; refine zp (q_nil rfl rfl rfl) ?_; refine zf ?_; refine zl ?_; refine zp (q_bin rfl rfl rfl) ?_; refine zm ?_; refine zf ?_
 refine zl ?_; refine zp (q_bin rfl rfl rfl) ?_; refine zp (q_pick0 rfl rfl rfl rfl) ?_; refine zm ?_; refine zf ?_; refine zl ?_; refine zm ?_
 refine zp (q_nil rfl rfl rfl) ?_; refine zf ?_; refine zl ?_; refine zp (q_bin rfl rfl rfl) ?_; refine zp (q_pick0 rfl rfl rfl rfl) ?_; refine zm ?_
 refine zf ?_; refine zl ?_; refine zp (q_bin rfl rfl rfl) ?_; change AOps _ _ _ _ _ _; refine zh0 rfl ?_; refine zN ?_; refine c_false rfl rfl ?_
 refine zW ?_; refine zH ?_; refine zF ?_; refine zL ?_; refine zN ?_; refine awp_block ?_; refine zG ?_; refine zB ?_; refine zT ?_
 refine c_false rfl rfl ?_; refine zG ?_; refine zB ?_; refine zT ?_; refine c_true rfl rfl ?_; refine awp_seq ?_
 refine awp_draw 7 (by kernel_rfl) (by kernel_rfl) ?_; refine zm ?_; refine zp (q_nil rfl rfl rfl) ?_; refine zf ?_; refine zl ?_; refine zf ?_
 refine zl ?_; refine zp (q_call (fcb (c := true) (validV_fc sL sAB) (by decide)) rfl rfl rfl) ?_; change AOps _ _ _ _ _ _
 refine zP (q_not rfl rfl) ?_; refine zN ?_; refine c_false rfl rfl ?_; refine awp_skip ?_; change AWP _ _ _ _  _; refine awp_seq ?_; refine awp_seq ?_
 refine awp_draw 21 (by kernel_rfl) (by kernel_rfl) ?_; refine zm ?_; refine zp (q_nil rfl rfl rfl) ?_; refine zf ?_; refine zl ?_; refine zm ?_
 refine zf ?_; refine zl ?_; refine zm ?_; refine zp (q_nil rfl rfl rfl) ?_; refine zf ?_; refine zl ?_; refine zp (q_bin rfl rfl rfl) ?_
 refine zp (q_pick0 rfl rfl rfl rfl) ?_; refine zm ?_; refine zm ?_; refine zf ?_; refine zl ?_; refine zp (q_nil rfl rfl rfl) ?_; refine zf ?_
 refine zp (q_arr rfl rfl rfl 1 rfl (by decide) rfl rfl) ?_; refine zl ?_; change AOps _ _ _ _ _ _; refine zh0 rfl ?_; refine zN ?_
 refine c_false rfl rfl ?_; refine zW ?_; refine zG ?_; refine zT ?_; refine awp_ret ?_
 change (resX _ _).fzt = some _ ∧ _
 refine ret_g1 rfl ?_ rfl ?_ rfl
 all_goals rfl
set_option maxRecDepth 100000 in
set_option maxHeartbeats 1000000 in
theorem chk2 : GC Tryz.prog 51 [.ptr idB 0, .agg (balC (⟨3, 1, 1, 1, sAB⟩ : Bal))] [(idB, .var 98 (PR sB 1 true false 0 (.sl [valL sAB] none) false))] (i64 11) [(idB, .var 98 (PR sB 1 true false 0 (.sl [valL sAB] none) false))] := by
 refine gc_of_awp [4] Tryz.func51 rfl rfl 72 Tryz.ntmps51 (Nat.le_of_ble_eq_true rfl) ?_
 intro E hN
 refine zG ?_; refine zX ?_; refine zT ?_; refine awp_seq ?_; refine awp_seq ?_; refine awp_draw 25 (by kernel_rfl) (by kernel_rfl) ?_; refine zf ?_
 refine zl ?_; refine zm ?_; refine zp (q_nil rfl rfl rfl) ?_; refine zf ?_; refine zl ?_; refine zp (q_bin rfl rfl rfl) ?_; refine zm ?_; refine zf ?_
 refine zl ?_; refine zp (q_bin rfl rfl rfl) ?_; refine zp (q_pick0 rfl rfl rfl rfl) ?_; refine zm ?_; refine zf ?_; refine zl ?_; refine zm ?_
 refine zp (q_nil rfl rfl rfl) ?_; refine zf ?_; refine zl ?_; refine zp (q_bin rfl rfl rfl) ?_; refine zp (q_pick0 rfl rfl rfl rfl) ?_; refine zm ?_
 refine zf ?_; refine zl ?_; refine zp (q_bin rfl rfl rfl) ?_; change AOps _ _ _ _ _ _; refine zh0 rfl ?_; refine zN ?_; refine c_false rfl rfl ?_
 refine zW ?_; refine zH ?_; refine zF ?_; refine zL ?_; refine zN ?_; refine awp_block ?_; refine zG ?_; refine zB ?_; refine zT ?_
 refine c_false rfl rfl ?_; refine zG ?_; refine zB ?_; refine zT ?_; refine c_true rfl rfl ?_; refine awp_seq ?_
 refine awp_draw 7 (by kernel_rfl) (by kernel_rfl) ?_; refine zm ?_; refine zp (q_nil rfl rfl rfl) ?_; refine zf ?_; refine zl ?_; refine zf ?_
 refine zl ?_; refine zp (q_call (fcb (c := true) (validV_fc sL sAB) (by decide)) rfl rfl rfl) ?_; change AOps _ _ _ _ _ _
 refine zP (q_not rfl rfl) ?_; refine zN ?_; refine c_false rfl rfl ?_; refine awp_skip ?_; change AWP _ _ _ _  _; refine awp_seq ?_; refine awp_seq ?_
 refine awp_draw 21 (by kernel_rfl) (by kernel_rfl) ?_; refine zm ?_; refine zp (q_nil rfl rfl rfl) ?_; refine zf ?_; refine zl ?_; refine zm ?_
 refine zf ?_; refine zl ?_; refine zm ?_; refine zp (q_nil rfl rfl rfl) ?_; refine zf ?_; refine zl ?_; refine zp (q_bin rfl rfl rfl) ?_
 refine zp (q_pick0 rfl rfl rfl rfl) ?_; refine zm ?_; refine zm ?_; refine zf ?_; refine zl ?_; refine zp (q_nil rfl rfl rfl) ?_; refine zf ?_
 refine zp (q_arr rfl rfl rfl 1 rfl (by decide) rfl rfl) ?_; refine zl ?_; change AOps _ _ _ _ _ _; refine zh0 rfl ?_; refine zN ?_
 refine c_true rfl rfl ?_; refine zG ?_; refine zT ?_; refine awp_ret ?_
 change (resX _ _).fzt = some _ ∧ _
 refine ret_g1 rfl ?_ rfl ?_ rfl
 all_goals rfl
set_option maxRecDepth 100000 in
set_option maxHeartbeats 1000000 in
theorem chk3 : GC Tryz.prog 51 [.ptr idB 0, .agg (balC (⟨2, 2, 1, 1, Val.zero⟩ : Bal))] [(idB, .var 98 (PR sB 1 true false 0 (.sl [valL sAB] none) false))] (i64 0) [(idB, .var 98 (PR sB 1 true false 0 (.sl [valL sAB] none) false))] := by
 refine gc_of_awp [4] Tryz.func51 rfl rfl 72 Tryz.ntmps51 (Nat.le_of_ble_eq_true rfl) ?_
 intro E hN
 refine zG ?_; refine zX ?_; refine zT ?_; refine awp_seq ?_; refine awp_seq ?_; refine awp_draw 25 (by kernel_rfl) (by kernel_rfl) ?_; refine zf ?_
 refine zl ?_; refine zm ?_; refine zp (q_nil rfl rfl rfl) ?_; refine zf ?_; refine zl ?_; refine zp (q_bin rfl rfl rfl) ?_; refine zm ?_; refine zf ?_
 refine zl ?_; refine zp (q_bin rfl rfl rfl) ?_; refine zp (q_pick0 rfl rfl rfl rfl) ?_; refine zm ?_; refine zf ?_; refine zl ?_; refine zm ?_
 refine zp (q_nil rfl rfl rfl) ?_; refine zf ?_; refine zl ?_; refine zp (q_bin rfl rfl rfl) ?_; refine zp (q_pick0 rfl rfl rfl rfl) ?_; refine zm ?_
 refine zf ?_; refine zl ?_; refine zp (q_bin rfl rfl rfl) ?_; change AOps _ _ _ _ _ _; refine zh0 rfl ?_; refine zN ?_; refine c_false rfl rfl ?_
 refine zW ?_; refine zH ?_; refine zF ?_; refine zL ?_; refine zN ?_; refine awp_block ?_; refine zG ?_; refine zB ?_; refine zT ?_
 refine c_true rfl rfl ?_; refine zG ?_; refine zF ?_; refine zL ?_; refine zP (q_build rfl rfl rfl) ?_
 refine zP (q_call (fcb (c := true) (eqV_fc Val.zero Val.zero) (by decide)) rfl rfl rfl) ?_; refine zP (q_not rfl rfl) ?_; refine zN ?_
 refine c_false rfl rfl ?_; refine awp_skip ?_; change AWP _ _ _ _  _; refine awp_seq ?_; refine awp_seq ?_
 refine awp_draw 21 (by kernel_rfl) (by kernel_rfl) ?_; refine zm ?_; refine zp (q_nil rfl rfl rfl) ?_; refine zf ?_; refine zl ?_; refine zm ?_
 refine zf ?_; refine zl ?_; refine zm ?_; refine zp (q_nil rfl rfl rfl) ?_; refine zf ?_; refine zl ?_; refine zp (q_bin rfl rfl rfl) ?_
 refine zp (q_pick0 rfl rfl rfl rfl) ?_; refine zm ?_; refine zm ?_; refine zf ?_; refine zl ?_; refine zp (q_nil rfl rfl rfl) ?_; refine zf ?_
 refine zp (q_arr rfl rfl rfl 2 rfl (by decide) rfl rfl) ?_; refine zl ?_; change AOps _ _ _ _ _ _; refine zh0 rfl ?_; refine zN ?_
 refine c_false rfl rfl ?_; refine zW ?_; refine zG ?_; refine zT ?_; refine awp_ret ?_
 change (resX _ _).fzt = some _ ∧ _
 refine ret_g1 rfl ?_ rfl ?_ rfl
 all_goals rfl
set_option maxRecDepth 100000 in
set_option maxHeartbeats 1000000 in
theorem chk4 : GC Tryz.prog 51 [.ptr idB 0, .agg (balC (⟨2, 1, 1, 2, Val.zero⟩ : Bal))] [(idB, .var 98 (PR sAB 2 false false 0 (.p (.slice none 0 0)) false))] (i64 0) [(idB, .var 98 (PR sAB 2 false false 0 (.p (.slice none 0 0)) false))] := by
 refine gc_of_awp [4] Tryz.func51 rfl rfl 72 Tryz.ntmps51 (Nat.le_of_ble_eq_true rfl) ?_
 intro E hN
 refine zG ?_; refine zX ?_; refine zT ?_; refine awp_seq ?_; refine awp_seq ?_; refine awp_draw 25 (by kernel_rfl) (by kernel_rfl) ?_; refine zf ?_
 refine zl ?_; refine zm ?_; refine zp (q_nil rfl rfl rfl) ?_; refine zf ?_; refine zl ?_; refine zp (q_bin rfl rfl rfl) ?_; refine zm ?_; refine zf ?_
 refine zl ?_; refine zp (q_bin rfl rfl rfl) ?_; refine zp (q_pick0 rfl rfl rfl rfl) ?_; refine zm ?_; refine zf ?_; refine zl ?_; refine zm ?_
 refine zp (q_nil rfl rfl rfl) ?_; refine zf ?_; refine zl ?_; refine zp (q_bin rfl rfl rfl) ?_; refine zp (q_pick0 rfl rfl rfl rfl) ?_; refine zm ?_
 refine zf ?_; refine zl ?_; refine zp (q_bin rfl rfl rfl) ?_; change AOps _ _ _ _ _ _; refine zh0 rfl ?_; refine zN ?_; refine c_false rfl rfl ?_
 refine zW ?_; refine zH ?_; refine zF ?_; refine zL ?_; refine zN ?_; refine awp_block ?_; refine zG ?_; refine zB ?_; refine zT ?_
 refine c_true rfl rfl ?_; refine zG ?_; refine zF ?_; refine zL ?_; refine zP (q_build rfl rfl rfl) ?_
 refine zP (q_call (fcb (c := true) (eqV_fc Val.zero Val.zero) (by decide)) rfl rfl rfl) ?_; refine zP (q_not rfl rfl) ?_; refine zN ?_
 refine c_false rfl rfl ?_; refine awp_skip ?_; change AWP _ _ _ _  _; refine awp_seq ?_; refine awp_seq ?_
 refine awp_draw 21 (by kernel_rfl) (by kernel_rfl) ?_; refine zm ?_; refine zp (q_nil rfl rfl rfl) ?_; refine zf ?_; refine zl ?_; refine zm ?_
 refine zf ?_; refine zl ?_; refine zm ?_; refine zp (q_nil rfl rfl rfl) ?_; refine zf ?_; refine zl ?_; refine zp (q_bin rfl rfl rfl) ?_
 refine zp (q_pick0 rfl rfl rfl rfl) ?_; refine zm ?_; refine zm ?_; refine zf ?_; refine zl ?_; refine zp (q_nil rfl rfl rfl) ?_; refine zf ?_
 refine zp (q_arr rfl rfl rfl 1 rfl (by decide) rfl rfl) ?_; refine zl ?_; change AOps _ _ _ _ _ _; refine zh0 rfl ?_; refine zN ?_
 refine c_false rfl rfl ?_; refine zW ?_; refine zG ?_; refine zT ?_; refine awp_ret ?_
 change (resX _ _).fzt = some _ ∧ _
 refine ret_g1 rfl ?_ rfl ?_ rfl
 all_goals rfl
set_option maxRecDepth 100000 in
set_option maxHeartbeats 1000000 in
theorem chk5 : GC Tryz.prog 51 [.ptr idB 0, .agg (balC (⟨2, 1, 1, 2, Val.zero⟩ : Bal))] [(idB, .var 98 (PR sAB 2 true false 1 (.p (.slice none 0 0)) false))] (i64 11) [(idB, .var 98 (PR sAB 2 true false 1 (.p (.slice none 0 0)) false))] := by
 refine gc_of_awp [4] Tryz.func51 rfl rfl 72 Tryz.ntmps51 (Nat.le_of_ble_eq_true rfl) ?_
 intro E hN
 refine zG ?_; refine zX ?_; refine zT ?_; refine awp_seq ?_; refine awp_seq ?_; refine awp_draw 25 (by kernel_rfl) (by kernel_rfl) ?_; refine zf ?_
 refine zl ?_; refine zm ?_; refine zp (q_nil rfl rfl rfl) ?_; refine zf ?_; refine zl ?_; refine zp (q_bin rfl rfl rfl) ?_; refine zm ?_; refine zf ?_
 refine zl ?_; refine zp (q_bin rfl rfl rfl) ?_; refine zp (q_pick0 rfl rfl rfl rfl) ?_; refine zm ?_; refine zf ?_; refine zl ?_; refine zm ?_
 refine zp (q_nil rfl rfl rfl) ?_; refine zf ?_; refine zl ?_; refine zp (q_bin rfl rfl rfl) ?_; refine zp (q_pick0 rfl rfl rfl rfl) ?_; refine zm ?_
 refine zf ?_; refine zl ?_; refine zp (q_bin rfl rfl rfl) ?_; change AOps _ _ _ _ _ _; refine zh0 rfl ?_; refine zN ?_; refine c_false rfl rfl ?_
 refine zW ?_; refine zH ?_; refine zF ?_; refine zL ?_; refine zN ?_; refine awp_block ?_; refine zG ?_; refine zB ?_; refine zT ?_
 refine c_true rfl rfl ?_; refine zG ?_; refine zF ?_; refine zL ?_; refine zP (q_build rfl rfl rfl) ?_
 refine zP (q_call (fcb (c := true) (eqV_fc Val.zero Val.zero) (by decide)) rfl rfl rfl) ?_; refine zP (q_not rfl rfl) ?_; refine zN ?_
 refine c_false rfl rfl ?_; refine awp_skip ?_; change AWP _ _ _ _  _; refine awp_seq ?_; refine awp_seq ?_
 refine awp_draw 21 (by kernel_rfl) (by kernel_rfl) ?_; refine zm ?_; refine zp (q_nil rfl rfl rfl) ?_; refine zf ?_; refine zl ?_; refine zm ?_
 refine zf ?_; refine zl ?_; refine zm ?_; refine zp (q_nil rfl rfl rfl) ?_; refine zf ?_; refine zl ?_; refine zp (q_bin rfl rfl rfl) ?_
 refine zp (q_pick0 rfl rfl rfl rfl) ?_; refine zm ?_; refine zm ?_; refine zf ?_; refine zl ?_; refine zp (q_nil rfl rfl rfl) ?_; refine zf ?_
 refine zp (q_arr rfl rfl rfl 1 rfl (by decide) rfl rfl) ?_; refine zl ?_; change AOps _ _ _ _ _ _; refine zh0 rfl ?_; refine zN ?_
 refine c_true rfl rfl ?_; refine zG ?_; refine zT ?_; refine awp_ret ?_
 change (resX _ _).fzt = some _ ∧ _
 refine ret_g1 rfl ?_ rfl ?_ rfl
 all_goals rfl
set_option maxRecDepth 100000 in
set_option maxHeartbeats 1000000 in
theorem chk6 : GC Tryz.prog 51 [.ptr idB 0, .agg (balC (⟨2, 2, 1, 2, Val.zero⟩ : Bal))] [(idB, .var 98 (PR sAB 2 true false 1 (.p (.slice none 0 0)) false))] (i64 0) [(idB, .var 98 (PR sAB 2 true false 1 (.p (.slice none 0 0)) false))] := by
 refine gc_of_awp [4] Tryz.func51 rfl rfl 72 Tryz.ntmps51 (Nat.le_of_ble_eq_true rfl) ?_
 intro E hN
 refine zG ?_; refine zX ?_; refine zT ?_; refine awp_seq ?_; refine awp_seq ?_; refine awp_draw 25 (by kernel_rfl) (by kernel_rfl) ?_; refine zf ?_
 refine zl ?_; refine zm ?_; refine zp (q_nil rfl rfl rfl) ?_; refine zf ?_; refine zl ?_; refine zp (q_bin rfl rfl rfl) ?_; refine zm ?_; refine zf ?_
 refine zl ?_; refine zp (q_bin rfl rfl rfl) ?_; refine zp (q_pick0 rfl rfl rfl rfl) ?_; refine zm ?_; refine zf ?_; refine zl ?_; refine zm ?_
 refine zp (q_nil rfl rfl rfl) ?_; refine zf ?_; refine zl ?_; refine zp (q_bin rfl rfl rfl) ?_; refine zp (q_pick0 rfl rfl rfl rfl) ?_; refine zm ?_
 refine zf ?_; refine zl ?_; refine zp (q_bin rfl rfl rfl) ?_; change AOps _ _ _ _ _ _; refine zh0 rfl ?_; refine zN ?_; refine c_false rfl rfl ?_
 refine zW ?_; refine zH ?_; refine zF ?_; refine zL ?_; refine zN ?_; refine awp_block ?_; refine zG ?_; refine zB ?_; refine zT ?_
 refine c_true rfl rfl ?_; refine zG ?_; refine zF ?_; refine zL ?_; refine zP (q_build rfl rfl rfl) ?_
 refine zP (q_call (fcb (c := true) (eqV_fc Val.zero Val.zero) (by decide)) rfl rfl rfl) ?_; refine zP (q_not rfl rfl) ?_; refine zN ?_
 refine c_false rfl rfl ?_; refine awp_skip ?_; change AWP _ _ _ _  _; refine awp_seq ?_; refine awp_seq ?_
 refine awp_draw 21 (by kernel_rfl) (by kernel_rfl) ?_; refine zm ?_; refine zp (q_nil rfl rfl rfl) ?_; refine zf ?_; refine zl ?_; refine zm ?_
 refine zf ?_; refine zl ?_; refine zm ?_; refine zp (q_nil rfl rfl rfl) ?_; refine zf ?_; refine zl ?_; refine zp (q_bin rfl rfl rfl) ?_
 refine zp (q_pick0 rfl rfl rfl rfl) ?_; refine zm ?_; refine zm ?_; refine zf ?_; refine zl ?_; refine zp (q_nil rfl rfl rfl) ?_; refine zf ?_
 refine zp (q_arr rfl rfl rfl 2 rfl (by decide) rfl rfl) ?_; refine zl ?_; change AOps _ _ _ _ _ _; refine zh0 rfl ?_; refine zN ?_
 refine c_false rfl rfl ?_; refine zW ?_; refine zG ?_; refine zT ?_; refine awp_ret ?_
 change (resX _ _).fzt = some _ ∧ _
 refine ret_g1 rfl ?_ rfl ?_ rfl
 all_goals rfl
set_option maxRecDepth 100000 in
set_option maxHeartbeats 1000000 in
theorem refP_gc : GC Tryz.prog 52 [.ptr idB 0] [(idB, .var 98 (PR sB 1 true true 1 (.sl [valL sAB] none) false))] (.tup []) [(idB, .var 98 (PR sAB 2 false false 0 (.p (.slice none 0 0)) false))] := by
 refine gc_of_awp [] Tryz.func52 rfl rfl 44 Tryz.ntmps52 (Nat.le_of_ble_eq_true rfl) ?_
 intro E hN
 refine zH ?_; refine zM ?_; refine zP (q_nil rfl rfl rfl) ?_; refine zF ?_; refine zL ?_; refine zE ?_; refine zV ?_; refine awp_block ?_
 refine awp_loop (fun x : {i : Nat // i ≤ 1} => ⟨[(0, .ptr idB 0), (7, .sl [valL sAB] none), (8, i64 1), (9, i64 (x.1 : Nat))], [(idB, .var 98 (PR (if x.1 = 0 then sB else sAB) 1 true true 1 (.sl [valL sAB] none) false))], 0⟩) (fun x => 1 - x.1) (⟨0, by decide⟩) ?_ ?_
 ·
  exact weak_scrub' rfl (zz4 trivial) ⟨rfl, rfl, rfl, trivial⟩
 rintro ⟨i, hi⟩
 dsimp only
 rcases (show i = 0 ∨ i = 1 by omega) with rfl | rfl
 ·
  skip
  refine zG ?_; refine zB ?_; refine zN ?_; refine awp_seq ?_; refine c_true rfl rfl ?_; refine zW ?_; refine awp_seq ?_; refine awp_block ?_
  refine zG ?_; refine zP (q_elem rfl rfl rfl 0 rfl (valL sAB) rfl (by exact rfl)) ?_; refine zL ?_; refine zO ?_; refine zC ?_; refine zN ?_
  refine awp_draw 13 (by kernel_rfl) (by kernel_rfl) ?_; refine zm ?_; refine zm ?_; refine zp (q_nil rfl rfl rfl) ?_; refine zf ?_; refine zl ?_
  refine zm ?_; refine zp (q_nil rfl rfl rfl) ?_; refine zf ?_; refine zl ?_; refine zl ?_; refine zp (q_call plusBAB rfl rfl rfl) ?_
  refine zp (q_nil rfl rfl rfl) ?_; refine zf ?_; change AOps _ _ _ _ _ _; refine zC ?_; refine aops_nil ?_; change AWP _ _ _ _  _
  refine awp_region ?_; refine zP (q_addi rfl rfl rfl (by decide)) ?_; refine zM ?_; refine aops_nil ?_
  exact ⟨⟨1, by decide⟩, weak_scrub' rfl (zz4 trivial) ⟨rfl, rfl, rfl, trivial⟩, by decide⟩
 skip
 refine zG ?_; refine zB ?_; refine zN ?_; refine awp_seq ?_; refine c_false rfl rfl ?_; refine awp_exit ?_; change AWP _ _ _ _  _; refine zG ?_
 refine zM ?_; refine zP (q_nil rfl rfl rfl) ?_; refine zF ?_; refine zL ?_; refine zP (q_addi rfl rfl rfl (by decide)) ?_
 refine zP (q_nil rfl rfl rfl) ?_; refine zF ?_; refine zC ?_; refine zN ?_; refine awp_region ?_; refine zM ?_; refine zM ?_; refine zM ?_
 refine zP (q_build0 rfl) ?_; refine zP (q_nil rfl rfl rfl) ?_; refine zF ?_; refine zC ?_; refine zP (q_nil rfl rfl rfl) ?_; refine zF ?_
 refine zC ?_; refine zP (q_nil rfl rfl rfl) ?_; refine zF ?_; refine zC ?_; refine aops_nil ?_
 change (resX _ _).fzt = some _ ∧ _
 refine ret_g1 rfl ?_ rfl ?_ rfl
 all_goals rfl
set_option maxRecDepth 100000 in
set_option maxHeartbeats 1000000 in
theorem rec1 : GC Tryz.prog 29 [.ptr idB 0, .agg (balC (⟨3, 1, 1, 1, sAB⟩ : Bal))] [(idB, .var 98 (PR sB 1 false false 0 (.p (.slice none 0 0)) false))] (i64 0) [(idB, .var 98 (PR sB 1 true false 0 (.sl [valL sAB] none) false))] := by
 refine gc_of_awp [4] Tryz.func29 rfl rfl 76 Tryz.ntmps29 (Nat.le_of_ble_eq_true rfl) ?_
 intro E hN
 refine zG ?_; refine zX ?_; refine zT ?_; refine zH ?_; refine zM ?_; refine zL ?_
 refine s_gcall1 hN idB chk1 (.fn _ _ _ _ rfl rfl) rfl rfl rfl rfl rfl rfl rfl rfl rfl rfl rfl ?_; refine zS ?_; refine zA ?_; refine zM ?_
 refine zB ?_; refine zN ?_; refine c_false rfl rfl ?_; refine zW ?_; refine awp_seq ?_; refine awp_draw 6 (by kernel_rfl) (by kernel_rfl) ?_
 refine zm ?_; refine zf ?_; refine zl ?_; refine zp (q_nil rfl rfl rfl) ?_; refine zf ?_; refine zp (q_arr rfl rfl rfl 1 rfl (by decide) rfl rfl) ?_
 change AOps _ _ _ _ _ _; refine zC ?_; refine zN ?_; refine zH ?_; refine zF ?_; refine zL ?_; refine zB ?_; refine zN ?_; refine c_false rfl rfl ?_
 refine awp_mixed 15 6 #[true, true, true, true, true, true, true, true, true, true, true, true, true, true, true, false, false, false, false, false, false] (by kernel_rfl) (by kernel_rfl) (by kernel_rfl) (by kernel_rfl) (by kernel_rfl) (by kernel_rfl) ?_
 refine zm ?_; refine zp (q_nil rfl rfl rfl) ?_; refine zf ?_; refine zl ?_; refine zm ?_; refine zp (q_nil rfl rfl rfl) ?_; refine zf ?_; refine zl ?_
 refine zf ?_; refine zl ?_; refine zf ?_; refine zl ?_; refine zp (q_call plusABAB rfl rfl rfl) ?_; refine ze ?_
 refine zp (q_bslice rfl rfl rfl rfl (by exact rfl) (by decide) (by decide)) ?_
 refine ⟨_, weak_own rfl 31 41 4 rfl, ?_⟩
 refine an_all [15] (by kernel_rfl) rfl ⟨.inr (.inr (nw_append_own hN rfl rfl rfl rfl rfl rfl rfl rfl (by decide) rfl rfl rfl rfl ?_)), trivial⟩
 change AN _ _ _ _ _ _ _ _
 refine an_all [16, 18] (by kernel_rfl) rfl ⟨.inl (ao_py rfl ?_), .inl (ao_py rfl ?_), trivial⟩
 ·
  refine zp (q_eown (q := 1) (m := 1) rfl rfl rfl rfl rfl 0 rfl (by decide)) ?_
  change AN _ _ _ _ _ _ _ _
  refine an_all [17, 18] (by kernel_rfl) rfl ⟨.inr (.inl (ao_storeO rfl rfl rfl rfl rfl 0 rfl (by decide) rfl rfl rfl rfl (by simp [chunkA]) rfl rfl rfl rfl ?_)), .inl (ao_py rfl ?_), trivial⟩
  ·
   change AN _ _ _ _ _ _ _ _
   refine an_all [18] (by kernel_rfl) rfl ⟨.inl (ao_py rfl ?_), trivial⟩
   refine zp (q_nil rfl rfl rfl) ?_
   change AN _ _ _ _ _ _ _ _
   refine an_all [19] (by kernel_rfl) rfl ⟨.inl (ao_py rfl ?_), trivial⟩
   refine zf ?_
   change AN _ _ _ _ _ _ _ _
   refine an_all [20] (by kernel_rfl) rfl ⟨.inr (.inl (ao_store rfl rfl rfl rfl rfl rfl rfl (Nat.le_of_ble_eq_true rfl) rfl rfl rfl rfl ?_)), trivial⟩
   change AN _ _ _ _ _ _ _ _
   refine an_done (by kernel_rfl) ?_; change AWP _ _ _ _ _; refine awp_seq ?_; refine awp_seq ?_
   refine awp_weak (weak_frowc idB 27 1 rfl rfl rfl rfl rfl rfl (fun e he => by simp [chunkA] at he; subst he; rfl) rfl) ?_
   refine awp_draw 8 (by kernel_rfl) (by kernel_rfl) ?_; refine zm ?_; refine zp (q_nil rfl rfl rfl) ?_; refine zf ?_; refine zl ?_; refine zm ?_
   refine zp (q_nil rfl rfl rfl) ?_; refine zf ?_; refine zl ?_; change AOps _ _ _ _ _ _; refine zB ?_; refine zN ?_; refine c_false rfl rfl ?_
   refine awp_seq ?_; refine awp_draw 14 (by kernel_rfl) (by kernel_rfl) ?_; refine zm ?_; refine zp (q_nil rfl rfl rfl) ?_; refine zf ?_; refine zl ?_
   refine zm ?_; refine zp (q_nil rfl rfl rfl) ?_; refine zf ?_; refine zl ?_; refine ze ?_; refine zp (q_addi rfl rfl rfl (by decide)) ?_
   refine zm ?_; refine zp (q_nil rfl rfl rfl) ?_; refine zf ?_; refine zl ?_; change AOps _ _ _ _ _ _; refine zB ?_; refine zN ?_
   refine c_false rfl rfl ?_; refine zW ?_; refine zG ?_; refine zT ?_; refine awp_ret ?_
   change (resX _ _).fzt = some _ ∧ _
   refine ret_g1 rfl ?_ rfl ?_ rfl
   all_goals rfl
  refine zp (q_nil rfl rfl rfl) ?_
  change AN _ _ _ _ _ _ _ _
  refine an_all [17, 19] (by kernel_rfl) rfl ⟨.inr (.inl (ao_storeO rfl rfl rfl rfl rfl 0 rfl (by decide) rfl rfl rfl rfl (by simp [chunkA]) rfl rfl rfl rfl ?_)), .inl (ao_py rfl ?_), trivial⟩
  ·
   change AN _ _ _ _ _ _ _ _
   refine an_all [19] (by kernel_rfl) rfl ⟨.inl (ao_py rfl ?_), trivial⟩
   refine zf ?_
   change AN _ _ _ _ _ _ _ _
   refine an_all [20] (by kernel_rfl) rfl ⟨.inr (.inl (ao_store rfl rfl rfl rfl rfl rfl rfl (Nat.le_of_ble_eq_true rfl) rfl rfl rfl rfl ?_)), trivial⟩
   change AN _ _ _ _ _ _ _ _
   refine an_done (by kernel_rfl) ?_; change AWP _ _ _ _ _; refine awp_seq ?_; refine awp_seq ?_
   refine awp_weak (weak_frowc idB 27 1 rfl rfl rfl rfl rfl rfl (fun e he => by simp [chunkA] at he; subst he; rfl) rfl) ?_
   refine awp_draw 8 (by kernel_rfl) (by kernel_rfl) ?_; refine zm ?_; refine zp (q_nil rfl rfl rfl) ?_; refine zf ?_; refine zl ?_; refine zm ?_
   refine zp (q_nil rfl rfl rfl) ?_; refine zf ?_; refine zl ?_; change AOps _ _ _ _ _ _; refine zB ?_; refine zN ?_; refine c_false rfl rfl ?_
   refine awp_seq ?_; refine awp_draw 14 (by kernel_rfl) (by kernel_rfl) ?_; refine zm ?_; refine zp (q_nil rfl rfl rfl) ?_; refine zf ?_; refine zl ?_
   refine zm ?_; refine zp (q_nil rfl rfl rfl) ?_; refine zf ?_; refine zl ?_; refine ze ?_; refine zp (q_addi rfl rfl rfl (by decide)) ?_
   refine zm ?_; refine zp (q_nil rfl rfl rfl) ?_; refine zf ?_; refine zl ?_; change AOps _ _ _ _ _ _; refine zB ?_; refine zN ?_
   refine c_false rfl rfl ?_; refine zW ?_; refine zG ?_; refine zT ?_; refine awp_ret ?_
   change (resX _ _).fzt = some _ ∧ _
   refine ret_g1 rfl ?_ rfl ?_ rfl
   all_goals rfl
  refine zf ?_
  change AN _ _ _ _ _ _ _ _
  refine an_all [17, 20] (by kernel_rfl) rfl ⟨.inr (.inl (ao_storeO rfl rfl rfl rfl rfl 0 rfl (by decide) rfl rfl rfl rfl (by simp [chunkA]) rfl rfl rfl rfl ?_)), .inr (.inl (ao_store rfl rfl rfl rfl rfl rfl rfl (Nat.le_of_ble_eq_true rfl) rfl rfl rfl rfl ?_)), trivial⟩
  ·
   change AN _ _ _ _ _ _ _ _
   refine an_all [20] (by kernel_rfl) rfl ⟨.inr (.inl (ao_store rfl rfl rfl rfl rfl rfl rfl (Nat.le_of_ble_eq_true rfl) rfl rfl rfl rfl ?_)), trivial⟩
   change AN _ _ _ _ _ _ _ _
   refine an_done (by kernel_rfl) ?_; change AWP _ _ _ _ _; refine awp_seq ?_; refine awp_seq ?_
   refine awp_weak (weak_frowc idB 27 1 rfl rfl rfl rfl rfl rfl (fun e he => by simp [chunkA] at he; subst he; rfl) rfl) ?_
   refine awp_draw 8 (by kernel_rfl) (by kernel_rfl) ?_; refine zm ?_; refine zp (q_nil rfl rfl rfl) ?_; refine zf ?_; refine zl ?_; refine zm ?_
   refine zp (q_nil rfl rfl rfl) ?_; refine zf ?_; refine zl ?_; change AOps _ _ _ _ _ _; refine zB ?_; refine zN ?_; refine c_false rfl rfl ?_
   refine awp_seq ?_; refine awp_draw 14 (by kernel_rfl) (by kernel_rfl) ?_; refine zm ?_; refine zp (q_nil rfl rfl rfl) ?_; refine zf ?_; refine zl ?_
   refine zm ?_; refine zp (q_nil rfl rfl rfl) ?_; refine zf ?_; refine zl ?_; refine ze ?_; refine zp (q_addi rfl rfl rfl (by decide)) ?_
   refine zm ?_; refine zp (q_nil rfl rfl rfl) ?_; refine zf ?_; refine zl ?_; change AOps _ _ _ _ _ _; refine zB ?_; refine zN ?_
   refine c_false rfl rfl ?_; refine zW ?_; refine zG ?_; refine zT ?_; refine awp_ret ?_
   change (resX _ _).fzt = some _ ∧ _
   refine ret_g1 rfl ?_ rfl ?_ rfl
   all_goals rfl
  change AN _ _ _ _ _ _ _ _
  refine an_all [17] (by kernel_rfl) rfl ⟨.inr (.inl (ao_storeO rfl rfl rfl rfl rfl 0 rfl (by decide) rfl rfl rfl rfl (by simp [chunkA]) rfl rfl rfl rfl ?_)), trivial⟩
  change AN _ _ _ _ _ _ _ _
  refine an_done (by kernel_rfl) ?_; change AWP _ _ _ _ _; refine awp_seq ?_; refine awp_seq ?_
  refine awp_weak (weak_frowc idB 27 1 rfl rfl rfl rfl rfl rfl (fun e he => by simp [chunkA] at he; subst he; rfl) rfl) ?_
  refine awp_draw 8 (by kernel_rfl) (by kernel_rfl) ?_; refine zm ?_; refine zp (q_nil rfl rfl rfl) ?_; refine zf ?_; refine zl ?_; refine zm ?_
  refine zp (q_nil rfl rfl rfl) ?_; refine zf ?_; refine zl ?_; change AOps _ _ _ _ _ _; refine zB ?_; refine zN ?_; refine c_false rfl rfl ?_
  refine awp_seq ?_; refine awp_draw 14 (by kernel_rfl) (by kernel_rfl) ?_; refine zm ?_; refine zp (q_nil rfl rfl rfl) ?_; refine zf ?_; refine zl ?_
  refine zm ?_; refine zp (q_nil rfl rfl rfl) ?_; refine zf ?_; refine zl ?_; refine ze ?_; refine zp (q_addi rfl rfl rfl (by decide)) ?_; refine zm ?_
  refine zp (q_nil rfl rfl rfl) ?_; refine zf ?_; refine zl ?_; change AOps _ _ _ _ _ _; refine zB ?_; refine zN ?_; refine c_false rfl rfl ?_
  refine zW ?_; refine zG ?_; refine zT ?_; refine awp_ret ?_
  change (resX _ _).fzt = some _ ∧ _
  refine ret_g1 rfl ?_ rfl ?_ rfl
  all_goals rfl
 refine zp (q_nil rfl rfl rfl) ?_
 change AN _ _ _ _ _ _ _ _
 refine an_all [16, 19] (by kernel_rfl) rfl ⟨.inl (ao_py rfl ?_), .inl (ao_py rfl ?_), trivial⟩
 ·
  refine zp (q_eown (q := 1) (m := 1) rfl rfl rfl rfl rfl 0 rfl (by decide)) ?_
  change AN _ _ _ _ _ _ _ _
  refine an_all [17, 19] (by kernel_rfl) rfl ⟨.inr (.inl (ao_storeO rfl rfl rfl rfl rfl 0 rfl (by decide) rfl rfl rfl rfl (by simp [chunkA]) rfl rfl rfl rfl ?_)), .inl (ao_py rfl ?_), trivial⟩
  ·
   change AN _ _ _ _ _ _ _ _
   refine an_all [19] (by kernel_rfl) rfl ⟨.inl (ao_py rfl ?_), trivial⟩
   refine zf ?_
   change AN _ _ _ _ _ _ _ _
   refine an_all [20] (by kernel_rfl) rfl ⟨.inr (.inl (ao_store rfl rfl rfl rfl rfl rfl rfl (Nat.le_of_ble_eq_true rfl) rfl rfl rfl rfl ?_)), trivial⟩
   change AN _ _ _ _ _ _ _ _
   refine an_done (by kernel_rfl) ?_; change AWP _ _ _ _ _; refine awp_seq ?_; refine awp_seq ?_
   refine awp_weak (weak_frowc idB 27 1 rfl rfl rfl rfl rfl rfl (fun e he => by simp [chunkA] at he; subst he; rfl) rfl) ?_
   refine awp_draw 8 (by kernel_rfl) (by kernel_rfl) ?_; refine zm ?_; refine zp (q_nil rfl rfl rfl) ?_; refine zf ?_; refine zl ?_; refine zm ?_
   refine zp (q_nil rfl rfl rfl) ?_; refine zf ?_; refine zl ?_; change AOps _ _ _ _ _ _; refine zB ?_; refine zN ?_; refine c_false rfl rfl ?_
   refine awp_seq ?_; refine awp_draw 14 (by kernel_rfl) (by kernel_rfl) ?_; refine zm ?_; refine zp (q_nil rfl rfl rfl) ?_; refine zf ?_; refine zl ?_
   refine zm ?_; refine zp (q_nil rfl rfl rfl) ?_; refine zf ?_; refine zl ?_; refine ze ?_; refine zp (q_addi rfl rfl rfl (by decide)) ?_
   refine zm ?_; refine zp (q_nil rfl rfl rfl) ?_; refine zf ?_; refine zl ?_; change AOps _ _ _ _ _ _; refine zB ?_; refine zN ?_
   refine c_false rfl rfl ?_; refine zW ?_; refine zG ?_; refine zT ?_; refine awp_ret ?_
   change (resX _ _).fzt = some _ ∧ _
   refine ret_g1 rfl ?_ rfl ?_ rfl
   all_goals rfl
  refine zf ?_
  change AN _ _ _ _ _ _ _ _
  refine an_all [17, 20] (by kernel_rfl) rfl ⟨.inr (.inl (ao_storeO rfl rfl rfl rfl rfl 0 rfl (by decide) rfl rfl rfl rfl (by simp [chunkA]) rfl rfl rfl rfl ?_)), .inr (.inl (ao_store rfl rfl rfl rfl rfl rfl rfl (Nat.le_of_ble_eq_true rfl) rfl rfl rfl rfl ?_)), trivial⟩
  ·
   change AN _ _ _ _ _ _ _ _
   refine an_all [20] (by kernel_rfl) rfl ⟨.inr (.inl (ao_store rfl rfl rfl rfl rfl rfl rfl (Nat.le_of_ble_eq_true rfl) rfl rfl rfl rfl ?_)), trivial⟩
   change AN _ _ _ _ _ _ _ _
   refine an_done (by kernel_rfl) ?_; change AWP _ _ _ _ _; refine awp_seq ?_; refine awp_seq ?_
   refine awp_weak (weak_frowc idB 27 1 rfl rfl rfl rfl rfl rfl (fun e he => by simp [chunkA] at he; subst he; rfl) rfl) ?_
   refine awp_draw 8 (by kernel_rfl) (by kernel_rfl) ?_; refine zm ?_; refine zp (q_nil rfl rfl rfl) ?_; refine zf ?_; refine zl ?_; refine zm ?_
   refine zp (q_nil rfl rfl rfl) ?_; refine zf ?_; refine zl ?_; change AOps _ _ _ _ _ _; refine zB ?_; refine zN ?_; refine c_false rfl rfl ?_
   refine awp_seq ?_; refine awp_draw 14 (by kernel_rfl) (by kernel_rfl) ?_; refine zm ?_; refine zp (q_nil rfl rfl rfl) ?_; refine zf ?_; refine zl ?_
   refine zm ?_; refine zp (q_nil rfl rfl rfl) ?_; refine zf ?_; refine zl ?_; refine ze ?_; refine zp (q_addi rfl rfl rfl (by decide)) ?_
   refine zm ?_; refine zp (q_nil rfl rfl rfl) ?_; refine zf ?_; refine zl ?_; change AOps _ _ _ _ _ _; refine zB ?_; refine zN ?_
   refine c_false rfl rfl ?_; refine zW ?_; refine zG ?_; refine zT ?_; refine awp_ret ?_
   change (resX _ _).fzt = some _ ∧ _
   refine ret_g1 rfl ?_ rfl ?_ rfl
   all_goals rfl
  change AN _ _ _ _ _ _ _ _
  refine an_all [17] (by kernel_rfl) rfl ⟨.inr (.inl (ao_storeO rfl rfl rfl rfl rfl 0 rfl (by decide) rfl rfl rfl rfl (by simp [chunkA]) rfl rfl rfl rfl ?_)), trivial⟩
  change AN _ _ _ _ _ _ _ _
  refine an_done (by kernel_rfl) ?_; change AWP _ _ _ _ _; refine awp_seq ?_; refine awp_seq ?_
  refine awp_weak (weak_frowc idB 27 1 rfl rfl rfl rfl rfl rfl (fun e he => by simp [chunkA] at he; subst he; rfl) rfl) ?_
  refine awp_draw 8 (by kernel_rfl) (by kernel_rfl) ?_; refine zm ?_; refine zp (q_nil rfl rfl rfl) ?_; refine zf ?_; refine zl ?_; refine zm ?_
  refine zp (q_nil rfl rfl rfl) ?_; refine zf ?_; refine zl ?_; change AOps _ _ _ _ _ _; refine zB ?_; refine zN ?_; refine c_false rfl rfl ?_
  refine awp_seq ?_; refine awp_draw 14 (by kernel_rfl) (by kernel_rfl) ?_; refine zm ?_; refine zp (q_nil rfl rfl rfl) ?_; refine zf ?_; refine zl ?_
  refine zm ?_; refine zp (q_nil rfl rfl rfl) ?_; refine zf ?_; refine zl ?_; refine ze ?_; refine zp (q_addi rfl rfl rfl (by decide)) ?_; refine zm ?_
  refine zp (q_nil rfl rfl rfl) ?_; refine zf ?_; refine zl ?_; change AOps _ _ _ _ _ _; refine zB ?_; refine zN ?_; refine c_false rfl rfl ?_
  refine zW ?_; refine zG ?_; refine zT ?_; refine awp_ret ?_
  change (resX _ _).fzt = some _ ∧ _
  refine ret_g1 rfl ?_ rfl ?_ rfl
  all_goals rfl
 refine zf ?_
 change AN _ _ _ _ _ _ _ _
 refine an_all [16, 20] (by kernel_rfl) rfl ⟨.inl (ao_py rfl ?_), .inr (.inl (ao_store rfl rfl rfl rfl rfl rfl rfl (Nat.le_of_ble_eq_true rfl) rfl rfl rfl rfl ?_)), trivial⟩
 ·
  refine zp (q_eown (q := 1) (m := 1) rfl rfl rfl rfl rfl 0 rfl (by decide)) ?_
  change AN _ _ _ _ _ _ _ _
  refine an_all [17, 20] (by kernel_rfl) rfl ⟨.inr (.inl (ao_storeO rfl rfl rfl rfl rfl 0 rfl (by decide) rfl rfl rfl rfl (by simp [chunkA]) rfl rfl rfl rfl ?_)), .inr (.inl (ao_store rfl rfl rfl rfl rfl rfl rfl (Nat.le_of_ble_eq_true rfl) rfl rfl rfl rfl ?_)), trivial⟩
  ·
   change AN _ _ _ _ _ _ _ _
   refine an_all [20] (by kernel_rfl) rfl ⟨.inr (.inl (ao_store rfl rfl rfl rfl rfl rfl rfl (Nat.le_of_ble_eq_true rfl) rfl rfl rfl rfl ?_)), trivial⟩
   change AN _ _ _ _ _ _ _ _
   refine an_done (by kernel_rfl) ?_; change AWP _ _ _ _ _; refine awp_seq ?_; refine awp_seq ?_
   refine awp_weak (weak_frowc idB 27 1 rfl rfl rfl rfl rfl rfl (fun e he => by simp [chunkA] at he; subst he; rfl) rfl) ?_
   refine awp_draw 8 (by kernel_rfl) (by kernel_rfl) ?_; refine zm ?_; refine zp (q_nil rfl rfl rfl) ?_; refine zf ?_; refine zl ?_; refine zm ?_
   refine zp (q_nil rfl rfl rfl) ?_; refine zf ?_; refine zl ?_; change AOps _ _ _ _ _ _; refine zB ?_; refine zN ?_; refine c_false rfl rfl ?_
   refine awp_seq ?_; refine awp_draw 14 (by kernel_rfl) (by kernel_rfl) ?_; refine zm ?_; refine zp (q_nil rfl rfl rfl) ?_; refine zf ?_; refine zl ?_
   refine zm ?_; refine zp (q_nil rfl rfl rfl) ?_; refine zf ?_; refine zl ?_; refine ze ?_; refine zp (q_addi rfl rfl rfl (by decide)) ?_
   refine zm ?_; refine zp (q_nil rfl rfl rfl) ?_; refine zf ?_; refine zl ?_; change AOps _ _ _ _ _ _; refine zB ?_; refine zN ?_
   refine c_false rfl rfl ?_; refine zW ?_; refine zG ?_; refine zT ?_; refine awp_ret ?_
   change (resX _ _).fzt = some _ ∧ _
   refine ret_g1 rfl ?_ rfl ?_ rfl
   all_goals rfl
  change AN _ _ _ _ _ _ _ _
  refine an_all [17] (by kernel_rfl) rfl ⟨.inr (.inl (ao_storeO rfl rfl rfl rfl rfl 0 rfl (by decide) rfl rfl rfl rfl (by simp [chunkA]) rfl rfl rfl rfl ?_)), trivial⟩
  change AN _ _ _ _ _ _ _ _
  refine an_done (by kernel_rfl) ?_; change AWP _ _ _ _ _; refine awp_seq ?_; refine awp_seq ?_
  refine awp_weak (weak_frowc idB 27 1 rfl rfl rfl rfl rfl rfl (fun e he => by simp [chunkA] at he; subst he; rfl) rfl) ?_
  refine awp_draw 8 (by kernel_rfl) (by kernel_rfl) ?_; refine zm ?_; refine zp (q_nil rfl rfl rfl) ?_; refine zf ?_; refine zl ?_; refine zm ?_
  refine zp (q_nil rfl rfl rfl) ?_; refine zf ?_; refine zl ?_; change AOps _ _ _ _ _ _; refine zB ?_; refine zN ?_; refine c_false rfl rfl ?_
  refine awp_seq ?_; refine awp_draw 14 (by kernel_rfl) (by kernel_rfl) ?_; refine zm ?_; refine zp (q_nil rfl rfl rfl) ?_; refine zf ?_; refine zl ?_
  refine zm ?_; refine zp (q_nil rfl rfl rfl) ?_; refine zf ?_; refine zl ?_; refine ze ?_; refine zp (q_addi rfl rfl rfl (by decide)) ?_; refine zm ?_
  refine zp (q_nil rfl rfl rfl) ?_; refine zf ?_; refine zl ?_; change AOps _ _ _ _ _ _; refine zB ?_; refine zN ?_; refine c_false rfl rfl ?_
  refine zW ?_; refine zG ?_; refine zT ?_; refine awp_ret ?_
  change (resX _ _).fzt = some _ ∧ _
  refine ret_g1 rfl ?_ rfl ?_ rfl
  all_goals rfl
 change AN _ _ _ _ _ _ _ _
 refine an_all [16] (by kernel_rfl) rfl ⟨.inl (ao_py rfl ?_), trivial⟩
 refine zp (q_eown (q := 1) (m := 1) rfl rfl rfl rfl rfl 0 rfl (by decide)) ?_
 change AN _ _ _ _ _ _ _ _
 refine an_all [17] (by kernel_rfl) rfl ⟨.inr (.inl (ao_storeO rfl rfl rfl rfl rfl 0 rfl (by decide) rfl rfl rfl rfl (by simp [chunkA]) rfl rfl rfl rfl ?_)), trivial⟩
 change AN _ _ _ _ _ _ _ _
 refine an_done (by kernel_rfl) ?_; change AWP _ _ _ _ _; refine awp_seq ?_; refine awp_seq ?_
 refine awp_weak (weak_frowc idB 27 1 rfl rfl rfl rfl rfl rfl (fun e he => by simp [chunkA] at he; subst he; rfl) rfl) ?_
 refine awp_draw 8 (by kernel_rfl) (by kernel_rfl) ?_; refine zm ?_; refine zp (q_nil rfl rfl rfl) ?_; refine zf ?_; refine zl ?_; refine zm ?_
 refine zp (q_nil rfl rfl rfl) ?_; refine zf ?_; refine zl ?_; change AOps _ _ _ _ _ _; refine zB ?_; refine zN ?_; refine c_false rfl rfl ?_
 refine awp_seq ?_; refine awp_draw 14 (by kernel_rfl) (by kernel_rfl) ?_; refine zm ?_; refine zp (q_nil rfl rfl rfl) ?_; refine zf ?_; refine zl ?_
 refine zm ?_; refine zp (q_nil rfl rfl rfl) ?_; refine zf ?_; refine zl ?_; refine ze ?_; refine zp (q_addi rfl rfl rfl (by decide)) ?_; refine zm ?_
 refine zp (q_nil rfl rfl rfl) ?_; refine zf ?_; refine zl ?_; change AOps _ _ _ _ _ _; refine zB ?_; refine zN ?_; refine c_false rfl rfl ?_
 refine zW ?_; refine zG ?_; refine zT ?_; refine awp_ret ?_
 change (resX _ _).fzt = some _ ∧ _
 refine ret_g1 rfl ?_ rfl ?_ rfl
 all_goals rfl
set_option maxRecDepth 100000 in
set_option maxHeartbeats 1000000 in
theorem rec2 : GC Tryz.prog 29 [.ptr idB 0, .agg (balC (⟨3, 1, 1, 1, sAB⟩ : Bal))] [(idB, .var 98 (PR sB 1 true false 0 (.sl [valL sAB] none) false))] (i64 11) [(idB, .var 98 (PR sB 1 true false 0 (.sl [valL sAB] none) false))] := by
 refine gc_of_awp [4] Tryz.func29 rfl rfl 76 Tryz.ntmps29 (Nat.le_of_ble_eq_true rfl) ?_
 intro E hN
 refine zG ?_; refine zX ?_; refine zT ?_; refine zH ?_; refine zM ?_; refine zL ?_
 refine s_gcall1 hN idB chk2 (.fn _ _ _ _ rfl rfl) rfl rfl rfl rfl rfl rfl rfl rfl rfl rfl rfl ?_; refine zS ?_; refine zA ?_; refine zM ?_
 refine zB ?_; refine zN ?_; refine c_true rfl rfl ?_; refine zG ?_; refine zM ?_; refine zT ?_; refine awp_ret ?_
 change (resX _ _).fzt = some _ ∧ _
 refine ret_g1 rfl ?_ rfl ?_ rfl
 all_goals rfl
set_option maxRecDepth 100000 in
set_option maxHeartbeats 1000000 in
theorem rec3 : GC Tryz.prog 29 [.ptr idB 0, .agg (balC (⟨2, 2, 1, 1, Val.zero⟩ : Bal))] [(idB, .var 98 (PR sB 1 true false 0 (.sl [valL sAB] none) false))] (i64 0) [(idB, .var 98 (PR sAB 2 false false 0 (.p (.slice none 0 0)) false))] := by
 refine gc_of_awp [4] Tryz.func29 rfl rfl 76 Tryz.ntmps29 (Nat.le_of_ble_eq_true rfl) ?_
 intro E hN
 refine zG ?_; refine zX ?_; refine zT ?_; refine zH ?_; refine zM ?_; refine zL ?_
 refine s_gcall1 hN idB chk3 (.fn _ _ _ _ rfl rfl) rfl rfl rfl rfl rfl rfl rfl rfl rfl rfl rfl ?_; refine zS ?_; refine zA ?_; refine zM ?_
 refine zB ?_; refine zN ?_; refine c_false rfl rfl ?_; refine zW ?_; refine awp_seq ?_; refine awp_draw 6 (by kernel_rfl) (by kernel_rfl) ?_
 refine zm ?_; refine zf ?_; refine zl ?_; refine zp (q_nil rfl rfl rfl) ?_; refine zf ?_; refine zp (q_arr rfl rfl rfl 2 rfl (by decide) rfl rfl) ?_
 change AOps _ _ _ _ _ _; refine zC ?_; refine zN ?_; refine zH ?_; refine zF ?_; refine zL ?_; refine zB ?_; refine zN ?_; refine c_true rfl rfl ?_
 refine awp_region ?_; refine zM ?_; refine zP (q_nil rfl rfl rfl) ?_; refine zF ?_; refine zL ?_; refine zP (q_addi rfl rfl rfl (by decide)) ?_
 refine zP (q_nil rfl rfl rfl) ?_; refine zF ?_; refine zC ?_; refine zN ?_; refine awp_seq ?_; refine awp_seq ?_
 refine awp_draw 8 (by kernel_rfl) (by kernel_rfl) ?_; refine zm ?_; refine zp (q_nil rfl rfl rfl) ?_; refine zf ?_; refine zl ?_; refine zm ?_
 refine zp (q_nil rfl rfl rfl) ?_; refine zf ?_; refine zl ?_; change AOps _ _ _ _ _ _; refine zB ?_; refine zN ?_; refine c_false rfl rfl ?_
 refine awp_seq ?_; refine awp_draw 14 (by kernel_rfl) (by kernel_rfl) ?_; refine zm ?_; refine zp (q_nil rfl rfl rfl) ?_; refine zf ?_; refine zl ?_
 refine zm ?_; refine zp (q_nil rfl rfl rfl) ?_; refine zf ?_; refine zl ?_; refine ze ?_; refine zp (q_addi rfl rfl rfl (by decide)) ?_; refine zm ?_
 refine zp (q_nil rfl rfl rfl) ?_; refine zf ?_; refine zl ?_; change AOps _ _ _ _ _ _; refine zB ?_; refine zN ?_; refine c_true rfl rfl ?_
 refine awp_region ?_; refine zM ?_; refine s_gcall1 hN idB refP_gc (.fn _ _ _ _ rfl rfl) rfl rfl rfl rfl rfl rfl rfl rfl rfl rfl rfl ?_; refine zA ?_
 refine zT ?_; refine awp_ret ?_
 change (resX _ _).fzt = some _ ∧ _
 refine ret_g1 rfl ?_ rfl ?_ rfl
 all_goals rfl
set_option maxRecDepth 100000 in
set_option maxHeartbeats 1000000 in
theorem rec4 : GC Tryz.prog 29 [.ptr idB 0, .agg (balC (⟨2, 1, 1, 2, Val.zero⟩ : Bal))] [(idB, .var 98 (PR sAB 2 false false 0 (.p (.slice none 0 0)) false))] (i64 0) [(idB, .var 98 (PR sAB 2 true false 1 (.p (.slice none 0 0)) false))] := by
 refine gc_of_awp [4] Tryz.func29 rfl rfl 76 Tryz.ntmps29 (Nat.le_of_ble_eq_true rfl) ?_
 intro E hN
 refine zG ?_; refine zX ?_; refine zT ?_; refine zH ?_; refine zM ?_; refine zL ?_
 refine s_gcall1 hN idB chk4 (.fn _ _ _ _ rfl rfl) rfl rfl rfl rfl rfl rfl rfl rfl rfl rfl rfl ?_; refine zS ?_; refine zA ?_; refine zM ?_
 refine zB ?_; refine zN ?_; refine c_false rfl rfl ?_; refine zW ?_; refine awp_seq ?_; refine awp_draw 6 (by kernel_rfl) (by kernel_rfl) ?_
 refine zm ?_; refine zf ?_; refine zl ?_; refine zp (q_nil rfl rfl rfl) ?_; refine zf ?_; refine zp (q_arr rfl rfl rfl 1 rfl (by decide) rfl rfl) ?_
 change AOps _ _ _ _ _ _; refine zC ?_; refine zN ?_; refine zH ?_; refine zF ?_; refine zL ?_; refine zB ?_; refine zN ?_; refine c_true rfl rfl ?_
 refine awp_region ?_; refine zM ?_; refine zP (q_nil rfl rfl rfl) ?_; refine zF ?_; refine zL ?_; refine zP (q_addi rfl rfl rfl (by decide)) ?_
 refine zP (q_nil rfl rfl rfl) ?_; refine zF ?_; refine zC ?_; refine zN ?_; refine awp_seq ?_; refine awp_seq ?_
 refine awp_draw 8 (by kernel_rfl) (by kernel_rfl) ?_; refine zm ?_; refine zp (q_nil rfl rfl rfl) ?_; refine zf ?_; refine zl ?_; refine zm ?_
 refine zp (q_nil rfl rfl rfl) ?_; refine zf ?_; refine zl ?_; change AOps _ _ _ _ _ _; refine zB ?_; refine zN ?_; refine c_false rfl rfl ?_
 refine awp_seq ?_; refine awp_draw 14 (by kernel_rfl) (by kernel_rfl) ?_; refine zm ?_; refine zp (q_nil rfl rfl rfl) ?_; refine zf ?_; refine zl ?_
 refine zm ?_; refine zp (q_nil rfl rfl rfl) ?_; refine zf ?_; refine zl ?_; refine ze ?_; refine zp (q_addi rfl rfl rfl (by decide)) ?_; refine zm ?_
 refine zp (q_nil rfl rfl rfl) ?_; refine zf ?_; refine zl ?_; change AOps _ _ _ _ _ _; refine zB ?_; refine zN ?_; refine c_false rfl rfl ?_
 refine zW ?_; refine zG ?_; refine zT ?_; refine awp_ret ?_
 change (resX _ _).fzt = some _ ∧ _
 refine ret_g1 rfl ?_ rfl ?_ rfl
 all_goals rfl
set_option maxRecDepth 100000 in
set_option maxHeartbeats 1000000 in
theorem rec5 : GC Tryz.prog 29 [.ptr idB 0, .agg (balC (⟨2, 1, 1, 2, Val.zero⟩ : Bal))] [(idB, .var 98 (PR sAB 2 true false 1 (.p (.slice none 0 0)) false))] (i64 11) [(idB, .var 98 (PR sAB 2 true false 1 (.p (.slice none 0 0)) false))] := by
 refine gc_of_awp [4] Tryz.func29 rfl rfl 76 Tryz.ntmps29 (Nat.le_of_ble_eq_true rfl) ?_
 intro E hN
 refine zG ?_; refine zX ?_; refine zT ?_; refine zH ?_; refine zM ?_; refine zL ?_
 refine s_gcall1 hN idB chk5 (.fn _ _ _ _ rfl rfl) rfl rfl rfl rfl rfl rfl rfl rfl rfl rfl rfl ?_; refine zS ?_; refine zA ?_; refine zM ?_
 refine zB ?_; refine zN ?_; refine c_true rfl rfl ?_; refine zG ?_; refine zM ?_; refine zT ?_; refine awp_ret ?_
 change (resX _ _).fzt = some _ ∧ _
 refine ret_g1 rfl ?_ rfl ?_ rfl
 all_goals rfl
set_option maxRecDepth 100000 in
set_option maxHeartbeats 1000000 in
theorem rec6 : GC Tryz.prog 29 [.ptr idB 0, .agg (balC (⟨2, 2, 1, 2, Val.zero⟩ : Bal))] [(idB, .var 98 (PR sAB 2 true false 1 (.p (.slice none 0 0)) false))] (i64 0) [(idB, .var 98 (PR sAB 2 true true 2 (.p (.slice none 0 0)) true))] := by
 refine gc_of_awp [4] Tryz.func29 rfl rfl 76 Tryz.ntmps29 (Nat.le_of_ble_eq_true rfl) ?_
 intro E hN
 refine zG ?_; refine zX ?_; refine zT ?_; refine zH ?_; refine zM ?_; refine zL ?_
 refine s_gcall1 hN idB chk6 (.fn _ _ _ _ rfl rfl) rfl rfl rfl rfl rfl rfl rfl rfl rfl rfl rfl ?_; refine zS ?_; refine zA ?_; refine zM ?_
 refine zB ?_; refine zN ?_; refine c_false rfl rfl ?_; refine zW ?_; refine awp_seq ?_; refine awp_draw 6 (by kernel_rfl) (by kernel_rfl) ?_
 refine zm ?_; refine zf ?_; refine zl ?_; refine zp (q_nil rfl rfl rfl) ?_; refine zf ?_; refine zp (q_arr rfl rfl rfl 2 rfl (by decide) rfl rfl) ?_
 change AOps _ _ _ _ _ _; refine zC ?_; refine zN ?_; refine zH ?_; refine zF ?_; refine zL ?_; refine zB ?_; refine zN ?_; refine c_true rfl rfl ?_
 refine awp_region ?_; refine zM ?_; refine zP (q_nil rfl rfl rfl) ?_; refine zF ?_; refine zL ?_; refine zP (q_addi rfl rfl rfl (by decide)) ?_
 refine zP (q_nil rfl rfl rfl) ?_; refine zF ?_; refine zC ?_; refine zN ?_; refine awp_seq ?_; refine awp_seq ?_
 refine awp_draw 8 (by kernel_rfl) (by kernel_rfl) ?_; refine zm ?_; refine zp (q_nil rfl rfl rfl) ?_; refine zf ?_; refine zl ?_; refine zm ?_
 refine zp (q_nil rfl rfl rfl) ?_; refine zf ?_; refine zl ?_; change AOps _ _ _ _ _ _; refine zB ?_; refine zN ?_; refine c_true rfl rfl ?_
 refine awp_region ?_; refine zM ?_; refine zP (q_nil rfl rfl rfl) ?_; refine zF ?_; refine zC ?_; refine zA ?_; refine zT ?_; refine awp_ret ?_
 change (resX _ _).fzt = some _ ∧ _
 refine ret_g1 rfl ?_ rfl ?_ rfl
 all_goals rfl
end Go.Proofs.YtnjmbgnaplomaaaGreat
