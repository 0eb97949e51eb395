/-
  Contracts: the law JoinJoins.
-/
import Derived.Test.YtciojbjoijedjaaGreatC10
import Derived.Test.YtciojbjoijedjaaGreatC7
import Derived.Test.YtciojbjoijedjaaGreatB21
namespace Go.Proofs.YtciojbjoijedjaaGreat
open Go.RowKit
theorem joinAll2 {l : Lat} {a b : Val} : joinAllV l [a, b] = joinR l a b := by
 unfold joinAllV joinR
 by_cases h : checkJ l [a, b] = 0
 ·rw [if_pos h, if_pos h, fold_two (check_ok (checkJ_ok h).1) ((checkJ_ok h).2 a (by simp))]
 rw [if_neg h, if_neg h]
set_option maxRecDepth 100000 in
set_option maxHeartbeats 1000000 in
theorem lawJoins_fc (l : Lat) (a b : Val) : FC Tryz.prog 4 [.agg (latL l), .agg (valL a), .agg (valL b)] (bl true) := by
 refine fc_of_awp [6] Tryz.func4 rfl rfl 68 Tryz.ntmps4 (Nat.le_of_ble_eq_true rfl) ?_
 intro E hN
 refine zG ?_
 refine zX ?_
 refine zX ?_
 refine zX ?_
 refine zT ?_
 refine zH ?_
 refine zP (q_call awake_fc rfl rfl rfl) ?_
 refine zP (q_not rfl rfl) ?_
 refine zN ?_
 refine c_false rfl rfl ?_
 refine zW ?_
 refine zH ?_
 refine zL ?_
 refine zL ?_
 refine zP (q_bslice2 rfl rfl rfl rfl (by exact rfl) (by decide) (by decide) (vals_2 a b)) ?_
 refine zP (q_call (lsmall_fc [a, b]) rfl rfl rfl) ?_
 refine zP (q_not rfl rfl) ?_
 refine zN ?_
 refine c_cond rfl (fun h10 => ?_) (fun h10 => ?_)
 ·
  have h3 := h10
  refine zG ?_
  refine zS ?_
  refine zQ ?_
  first | rfl | exact retB (by simp_all)
 have hS := small_2 (n0 h10)
 have s1 := hS.1.up (show 40 ≤ 1000 by decide)
 have s2 := hS.2.up (show 40 ≤ 1000 by decide)
 have cJ : FC Tryz.prog 20 [.agg (latL l), .agg (valL a), .agg (valL b)] (.tup [.agg (valL (joinR l a b).1), i64 (joinR l a b).2]) := by
  have h := Join_fc l a b (fun h0 => fold_ok (check_ok (checkJ_ok h0).1) (fun v hv => ⟨(checkJ_ok h0).2 v hv, by
   simp only [List.mem_cons, List.not_mem_nil, or_false] at hv
   rcases hv with rfl | rfl
   ·exact s1
   exact s2⟩) (by simp))
  rw [joinAll2] at h
  exact h
 have cM := Meet_fc l a b (fun h0 _ => ⟨ChL.of l (checkJ_ok h0).1, s1.up (by decide), s2.up (by decide), (sm_meetN (N := 2000) (by decide) (by decide) l (check_ok (checkJ_ok h0).1) a b ((checkJ_ok h0).2 a (by simp)) ((checkJ_ok h0).2 b (by simp)) s1 s2).up (by decide)⟩)
 refine zW ?_
 refine zG ?_
 refine zL ?_
 refine zL ?_
 refine zL ?_
 refine zP (q_call cJ rfl rfl rfl) ?_
 refine zM ?_
 refine zP (q_extract rfl rfl rfl) ?_
 refine zP (q_extract rfl rfl rfl) ?_
 refine zO ?_
 refine zC ?_
 refine zS ?_
 refine zA ?_
 refine zL ?_
 refine zL ?_
 refine zL ?_
 refine zP (q_call cM rfl rfl rfl) ?_
 refine zM ?_
 refine zP (q_extract rfl rfl rfl) ?_
 refine zP (q_extract rfl rfl rfl) ?_
 refine zO ?_
 refine zC ?_
 refine zS ?_
 refine zA ?_
 refine zL ?_
 refine zL ?_
 refine zL ?_
 refine zP (q_call (rJoin_fc l (show 40 + 40 ≤ 1000000 by decide) a b hS.1 hS.2) rfl rfl rfl) ?_
 refine zM ?_
 refine zP (q_extract rfl rfl rfl) ?_
 refine zP (q_extract rfl rfl rfl) ?_
 refine zO ?_
 refine zC ?_
 refine zS ?_
 refine zA ?_
 refine zL ?_
 refine zL ?_
 refine zL ?_
 refine zP (q_call (rMeet_fc l (show 40 + 40 ≤ 1000000 by decide) a b hS.1 hS.2) rfl rfl rfl) ?_
 refine zM ?_
 refine zP (q_extract rfl rfl rfl) ?_
 refine zP (q_extract rfl rfl rfl) ?_
 refine zO ?_
 refine zC ?_
 refine zS ?_
 refine zA ?_
 refine zM ?_
 refine zM ?_
 refine zB ?_
 refine zM ?_
 refine s_case 53 rfl (fun h43 => ?_) (fun h43 => ?_)
 ·
  refine uL (w11 h43) ?_
  refine uL (w11 h43) ?_
  refine uP (w11 h43) (q_call (fcb (rEqual_fc (joinR l a b).1 (joinR l a b).1) ((eqV_iff _ _).2 rfl)) rfl rfl rfl) ?_
  refine zP (q_pick1 rfl rfl h43 rfl) ?_
  refine zM ?_
  refine zM ?_
  refine zM ?_
  refine zB ?_
  refine zP (q_pick1 rfl rfl rfl rfl) ?_
  refine zM ?_
  refine s_case 63 rfl (fun h46 => ?_) (fun h46 => ?_)
  ·
   refine uL (w11 h46) ?_
   refine uL (w11 h46) ?_
   refine uP (w11 h46) (q_call (fcb (rEqual_fc (meetJ l a b).1 (meetJ l a b).1) ((eqV_iff _ _).2 rfl)) rfl rfl rfl) ?_
   refine zP (q_pick1 rfl rfl h46 rfl) ?_
   refine zS ?_
   refine zQ ?_
   first | rfl | exact retB (by simp_all)
  refine uK (w01 h46) ?_
  refine uK (w01 h46) ?_
  refine uK (w01 h46) ?_
  refine zP (q_pick0 rfl rfl h46 rfl) ?_
  refine zS ?_
  refine zQ ?_
  first | rfl | exact retB (by simp_all)
 refine uK (w01 h43) ?_
 refine uK (w01 h43) ?_
 refine uK (w01 h43) ?_
 refine zP (q_pick0 rfl rfl h43 rfl) ?_
 refine zM ?_
 refine zK ?_
 refine zK ?_
 refine zK ?_
 refine zP (q_pick0 rfl rfl rfl rfl) ?_
 refine zM ?_
 refine zK ?_
 refine zK ?_
 refine zK ?_
 refine zP (q_pick0 rfl rfl rfl rfl) ?_
 refine zS ?_
 refine zQ ?_
 first | rfl | exact retB (by simp_all)
end Go.Proofs.YtciojbjoijedjaaGreat
