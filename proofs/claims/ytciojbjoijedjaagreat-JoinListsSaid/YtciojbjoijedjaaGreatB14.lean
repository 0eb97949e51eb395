/-
  Contracts: Join, JoinAll, Meet, Comparable, Maximal.
  Plain words: chains.
  Contracts: chains.
-/
import Derived.Test.YtciojbjoijedjaaGreatB13
import Derived.Test.YtciojbjoijedjaaGreatA4
import Derived.Test.YtciojbjoijedjaaGreatA6
namespace Go.Proofs.YtciojbjoijedjaaGreat
open Go.RowKit
set_option maxRecDepth 100000 in
set_option maxHeartbeats 1000000 in
theorem joinAll_fc (l : Lat) (vs : List Val) (hF : checkJ l vs = 0 → FoldOk l vs) : FC Tryz.prog 30 [.agg (latL l), vals vs] (.tup [.agg (valL (joinAllV l vs).1), i64 (joinAllV l vs).2]) := by
 refine fc_of_awpR [.c 4 30 4 true, .t 5] ⟨⟨inferInstance, rfl⟩, trivial⟩ Tryz.func30 rfl rfl 32 Tryz.ntmps30 (Nat.le_of_ble_eq_true rfl) ?_
 intro E hN
 refine zG ?_
 refine zX ?_
 refine zO ?_
 refine zT ?_
 refine zH ?_
 refine zL ?_
 refine zM ?_
 refine zP (q_call (checkJ_fc l vs) rfl rfl rfl) ?_
 refine zS ?_
 refine zA ?_
 refine zM ?_
 refine zB ?_
 refine zN ?_
 refine c_cond rfl (fun h7 => ?_) (fun h7 => ?_)
 ·
  have h2 : ¬ checkJ l vs = 0 := by simpa using h7
  refine zG ?_
  refine zP (q_build rfl rfl rfl) ?_
  refine zM ?_
  refine zC ?_
  refine zT ?_
  refine awp_ret ?_
  change (resY _ _).bind AV.fzt = some _
  refine ret_r rfl ?_
  rw [joinAllV, if_neg h2]; rfl
 have h2 : checkJ l vs = 0 := by simpa using h7
 have hc := checkJ_ok h2
 have hbt : (bottomC l).1 = bottomV l := by rw [bottomC, if_pos hc.1]
 refine zW ?_
 refine zG ?_
 refine zL ?_
 refine zP (q_call (least_fc l) rfl rfl rfl) ?_
 refine zO ?_
 refine zC ?_
 refine zN ?_
 refine zH ?_
 refine zM ?_
 refine zE ?_
 refine zV ?_
 refine awp_block ?_
 refine awp_loop (fun x : {k : Nat // k ≤ (vs).length ∧ True} => ⟨[(2, .ptr 0 0), (4, .ptr 1 0), (7, .ptr 2 0), (19, vals vs), (20, i64 vs.length), (21, i64 (x.1 : Nat))], [(0, .var 26 (latL l)), (1, .var 30 [i64 0, .p (.slice none 0 0), .p (.slice none 0 0), .p (.slice none 0 0)]), (2, .var 30 (valL (foldJ l (vs.take x.1))))], 3⟩) (fun x => (vs).length - x.1) (⟨0, Nat.zero_le _, by simp⟩) ?_ ?_
 ·
  exact weak_scrub' rfl (zz4 ⟨(cgI (by simp)), rfl, (zz1 trivial)⟩) ⟨rfl, rfl, rfl, rfl, rfl, rfl, (cgVal (by rw [hbt]; rfl)), rfl, rfl, trivial⟩
 rintro ⟨k, hk, hg⟩
 dsimp only
 refine a_lm 19 rfl (fun hl19 => ?_)
 refine zG ?_
 refine zB ?_
 refine zN ?_
 refine awp_seq ?_
 refine c_cond rfl (fun h21 => ?_) (fun h21 => ?_)
 ·
  have hlt : k < (vs).length := by simpa using h21
  obtain ⟨x, hx⟩ := get_lt hlt
  refine zW ?_
  refine awp_seq ?_
  refine awp_block ?_
  refine zG ?_
  refine zP (q_elem rfl rfl rfl k rfl _ (val_get hx) rfl) ?_
  refine zL ?_
  refine zO ?_
  refine zC ?_
  refine zN ?_
  refine awp_region ?_
  refine zL ?_
  refine zL ?_
  refine zL ?_
  refine zP (q_call (join_fc l (check_ok hc.1) (hF h2).1 (foldJ l (vs.take k)) x ((hF h2).2.2 k hk).1 (hc.2 x (List.mem_of_getElem? hx)) ((hF h2).2.2 k hk).2 ((hF h2).2.1 x (List.mem_of_getElem? hx))) rfl rfl rfl) ?_
  refine zC ?_
  refine aops_nil ?_
  change AWP _ _ _ _  _
  refine awp_region ?_
  refine zP (q_addi rfl rfl rfl (by omega)) ?_
  refine zM ?_
  refine aops_nil ?_
  exact ⟨⟨k + 1, hlt, trivial⟩, weak_scrub' rfl (zz4 (zz1 ⟨(cgI (by dsimp only; omega)), rfl, trivial⟩)) ⟨rfl, rfl, rfl, rfl, rfl, rfl, (cgVal (foldJ_succ hx).symm), rfl, rfl, trivial⟩, by dsimp only; omega⟩
 have hge : (vs).length ≤ k := by simpa using h21
 rw [List.take_of_length_le hge]
 refine awp_exit ?_
 change AWP _ _ _ _  _
 refine zG ?_
 refine zL ?_
 refine zP (q_call (copied_fc (foldJ l vs) (by have := ((hF h2).2.2 vs.length (Nat.le_refl _)).2; rw [List.take_length] at this; exact this.up (by decide))) rfl rfl rfl) ?_
 refine zC ?_
 refine zT ?_
 refine awp_ret ?_
 change (resY _ _).bind AV.fzt = some _
 refine ret_r rfl ?_
 rw [joinAllV, if_pos h2]
set_option maxRecDepth 100000 in
set_option maxHeartbeats 1000000 in
theorem Join_fc (l : Lat) (a b : Val) (hF : checkJ l [a, b] = 0 → FoldOk l [a, b]) : FC Tryz.prog 20 [.agg (latL l), .agg (valL a), .agg (valL b)] (.tup [.agg (valL (joinAllV l [a, b]).1), i64 (joinAllV l [a, b]).2]) := by
 refine fc_of_awpR [.c 6 30 4 true, .t 7] ⟨⟨inferInstance, rfl⟩, trivial⟩ Tryz.func20 rfl rfl 15 Tryz.ntmps20 (Nat.le_of_ble_eq_true rfl) ?_
 intro E hN
 refine zG ?_
 refine zX ?_
 refine zX ?_
 refine zX ?_
 refine zO ?_
 refine zS ?_
 refine zA ?_
 refine zL ?_
 refine zL ?_
 refine zL ?_
 refine zP (q_bslice2 rfl rfl rfl rfl (by exact rfl) (by decide) (by decide) (vals_2 a b)) ?_
 refine zP (q_call (joinAll_fc l [a, b] hF) rfl rfl rfl) ?_
 refine zP (q_extract rfl rfl rfl) ?_
 refine zP (q_extract rfl rfl rfl) ?_
 refine zC ?_
 refine zT ?_
 refine awp_ret ?_
 change (resY _ _).bind AV.fzt = some _
 refine ret_r rfl ?_
 rfl
set_option maxRecDepth 100000 in
set_option maxHeartbeats 1000000 in
theorem Meet_fc (l : Lat) (a b : Val) (hM : checkJ l [a, b] = 0 → regsB l = false → ChL l ∧ SmV 500000 a ∧ SmV 500000 b ∧ SmV 1000000 (meetV l a b)) : FC Tryz.prog 21 [.agg (latL l), .agg (valL a), .agg (valL b)] (.tup [.agg (valL (meetJ l a b).1), i64 (meetJ l a b).2]) := by
 refine fc_of_awpR [.c 6 30 4 true, .t 7] ⟨⟨inferInstance, rfl⟩, trivial⟩ Tryz.func21 rfl rfl 29 Tryz.ntmps21 (Nat.le_of_ble_eq_true rfl) ?_
 intro E hN
 refine zG ?_
 refine zX ?_
 refine zX ?_
 refine zX ?_
 refine zO ?_
 refine zS ?_
 refine zA ?_
 refine zL ?_
 refine zL ?_
 refine zL ?_
 refine zP (q_bslice2 rfl rfl rfl rfl (by exact rfl) (by decide) (by decide) (vals_2 a b)) ?_
 refine zP (q_call (checkJ_fc l [a, b]) rfl rfl rfl) ?_
 refine zT ?_
 refine c_cut (⟨[(3, .ptr 0 0), (4, .ptr 1 0), (5, .ptr 2 0), (6, .ptr 3 0), (8, i64 (meetErr l a b))], [(0, .var 26 (latL l)), (1, .var 30 (valL a)), (2, .var 30 (valL b)), (3, .var 30 [i64 0, .p (.slice none 0 0), .p (.slice none 0 0), .p (.slice none 0 0)])], 4⟩) ?_ ?_
 ·
  refine zG ?_
  refine zM ?_
  refine zB ?_
  refine zM ?_
  refine s_case 16 rfl (fun h13 => ?_) (fun h13 => ?_)
  ·
   refine uL (w11 h13) ?_
   refine uP (w11 h13) (q_call (registers_fc l) rfl rfl rfl) ?_
   refine zP (q_pick1 rfl rfl h13 rfl) ?_
   refine zN ?_
   refine c_cond rfl (fun h15 => ?_) (fun h15 => ?_)
   ·
    refine awp_region ?_
    refine zS ?_
    refine aops_nil ?_
    exact weak_scrub' rfl (zz4 ⟨(cgI (by simp_all [meetErr])), rfl, trivial⟩) ⟨rfl, rfl, rfl, rfl, rfl, rfl, rfl, rfl, rfl, rfl, rfl, rfl, trivial⟩
   refine awp_skip ?_
   exact weak_scrub' rfl (zz4 ⟨(cgI (by simp_all [meetErr])), rfl, trivial⟩) ⟨rfl, rfl, rfl, rfl, rfl, rfl, rfl, rfl, rfl, rfl, rfl, rfl, trivial⟩
  refine uK (w01 h13) ?_
  refine uK (w01 h13) ?_
  refine zP (q_pick0 rfl rfl h13 rfl) ?_
  refine zN ?_
  refine c_false rfl rfl ?_
  refine awp_skip ?_
  exact weak_scrub' rfl (zz4 ⟨(cgI (by simp_all [meetErr])), rfl, trivial⟩) ⟨rfl, rfl, rfl, rfl, rfl, rfl, rfl, rfl, rfl, rfl, rfl, rfl, trivial⟩
 refine zH ?_
 refine zM ?_
 refine zB ?_
 refine zN ?_
 refine c_cond rfl (fun h21 => ?_) (fun h21 => ?_)
 ·
  have h4 : ¬ meetErr l a b = 0 := by simpa using h21
  refine zG ?_
  refine zP (q_build rfl rfl rfl) ?_
  refine zM ?_
  refine zC ?_
  refine zT ?_
  refine awp_ret ?_
  change (resY _ _).bind AV.fzt = some _
  refine ret_r rfl ?_
  rw [meetJ, if_neg h4]; rfl
 have h4 : meetErr l a b = 0 := by simpa using h21
 have h5 : checkJ l [a, b] = 0 ∧ regsB l = false := by
  unfold meetErr at h4
  split at h4
  ·cases h4
  rename_i h6; exact ⟨h4, by rw [h4] at h6; simpa using h6⟩
 have hc := checkJ_ok h5.1
 have hh := hM h5.1 h5.2
 refine zW ?_
 refine zG ?_
 refine zL ?_
 refine zL ?_
 refine zL ?_
 refine zP (q_call (meet_fc l (check_ok hc.1) hh.1 a b (hc.2 a (by simp)) (hc.2 b (by simp)) hh.2.1 hh.2.2.1) rfl rfl rfl) ?_
 refine zP (q_call (copied_fc (meetV l a b) hh.2.2.2) rfl rfl rfl) ?_
 refine zC ?_
 refine zT ?_
 refine awp_ret ?_
 change (resY _ _).bind AV.fzt = some _
 refine ret_r rfl ?_
 rw [meetJ, if_pos h4]
set_option maxRecDepth 100000 in
set_option maxHeartbeats 1000000 in
theorem comparable_fc (l : Lat) (a b : Val) : FC Tryz.prog 18 [.agg (latL l), .agg (valL a), .agg (valL b)] (bl (cmpJ l a b)) := by
 refine fc_of_awp [6] Tryz.func18 rfl rfl 25 Tryz.ntmps18 (Nat.le_of_ble_eq_true rfl) ?_
 intro E hN
 refine zG ?_
 refine zX ?_
 refine zX ?_
 refine zX ?_
 refine zS ?_
 refine zA ?_
 refine zL ?_
 refine zL ?_
 refine zL ?_
 refine zP (q_bslice2 rfl rfl rfl rfl (by exact rfl) (by decide) (by decide) (vals_2 a b)) ?_
 refine zP (q_call (checkJ_fc l [a, b]) rfl rfl rfl) ?_
 refine zB ?_
 refine zM ?_
 refine s_case 13 rfl (fun h12 => ?_) (fun h12 => ?_)
 ·
  have hok := checkJ_ok (l := l) (vs := [a, b]) (by simpa using h12)
  refine uL (w11 h12) ?_
  refine uL (w11 h12) ?_
  refine uL (w11 h12) ?_
  refine uP (w11 h12) (q_call (leq_fc l (check_ok hok.1) a b (hok.2 a (by simp)) (hok.2 b (by simp))) rfl rfl rfl) ?_
  refine uM (w11 h12) ?_
  refine s_case 18 rfl (fun h16 => ?_) (fun h16 => ?_)
  ·
   refine uK (w10 h16) ?_
   refine uK (w10 h16) ?_
   refine uK (w10 h16) ?_
   refine uK (w10 h16) ?_
   refine uP (w11 h12) (q_pick1 rfl rfl h16 rfl) ?_
   refine zP (q_pick1 rfl rfl h12 rfl) ?_
   refine zS ?_
   refine zQ ?_
   exact retB (by simp_all [cmpJ])
  refine uL (w00 h16) ?_
  refine uL (w00 h16) ?_
  refine uL (w00 h16) ?_
  refine uP (w00 h16) (q_call (leq_fc l (check_ok hok.1) b a (hok.2 b (by simp)) (hok.2 a (by simp))) rfl rfl rfl) ?_
  refine uP (w11 h12) (q_pick0 rfl rfl h16 rfl) ?_
  refine zP (q_pick1 rfl rfl h12 rfl) ?_
  refine zS ?_
  refine zQ ?_
  exact retB (by simp_all [cmpJ])
 refine uK (w01 h12) ?_
 refine uK (w01 h12) ?_
 refine uK (w01 h12) ?_
 refine uK (w01 h12) ?_
 refine uK (w01 h12) ?_
 refine zK ?_
 refine zK ?_
 refine zK ?_
 refine zK ?_
 refine uK (w01 h12) ?_
 refine zP (q_pick0 rfl rfl h12 rfl) ?_
 refine zS ?_
 refine zQ ?_
 exact retB (by simp_all [cmpJ])
set_option maxRecDepth 100000 in
set_option maxHeartbeats 1000000 in
theorem maximal_fc (l : Lat) (vs : List Val) (hvs : vs.length ≤ 1000000) : FC Tryz.prog 34 [.agg (latL l), vals vs] (.tup [ivs (maximalV l vs).1, i64 (maximalV l vs).2]) := by
 refine fc_of_awp [4, 5] Tryz.func34 rfl rfl 61 Tryz.ntmps34 (Nat.le_of_ble_eq_true rfl) ?_
 intro E hN
 refine zG ?_
 refine zX ?_
 refine zS ?_
 refine zT ?_
 refine zH ?_
 refine zL ?_
 refine zM ?_
 refine zP (q_call (checkJ_fc l vs) rfl rfl rfl) ?_
 refine zS ?_
 refine zA ?_
 refine zM ?_
 refine zB ?_
 refine zN ?_
 refine c_cond rfl (fun h6 => ?_) (fun h6 => ?_)
 ·
  have h2 : ¬ checkJ l vs = 0 := by simpa using h6
  refine zG ?_
  refine zM ?_
  refine zS ?_
  refine zS ?_
  refine zQ ?_
  rw [maximalV, if_neg h2]; rfl
 have h2 : checkJ l vs = 0 := by simpa using h6
 have hc := checkJ_ok h2
 refine zW ?_
 refine zG ?_
 refine zT ?_
 refine zH ?_
 refine zM ?_
 refine zE ?_
 refine zV ?_
 refine awp_block ?_
 refine awp_weak (weak_tok rfl 7 3 1 rfl) ?_
 refine awp_loop (fun x : {k : Nat // k ≤ (vs).length ∧ True} => ⟨[(2, .ptr 0 0), (1, vals vs), (20, vals vs), (21, i64 vs.length), (7, .sl ((mxl l vs x.1).map iv1) (some 1)), (22, i64 (x.1 : Nat))], [(0, .var 26 (latL l)), (1, .tok 3 1 (mxl l vs x.1).length)], 2⟩) (fun x => (vs).length - x.1) (⟨0, Nat.zero_le _, by simp⟩) ?_ ?_
 ·
  exact weak_scrub' rfl (zz3 ⟨(cgI (by simp)), rfl, (zz2 trivial)⟩) ⟨rfl, rfl, rfl, rfl, rfl, rfl, trivial⟩
 rintro ⟨k, hk, hg⟩
 dsimp only
 refine a_lm 20 rfl (fun hl20 => ?_)
 have hmk := mxl_len l vs k
 refine zG ?_
 refine zB ?_
 refine zN ?_
 refine awp_seq ?_
 refine c_cond rfl (fun h14 => ?_) (fun h14 => ?_)
 ·
  have hlt : k < vs.length := by simpa using h14
  obtain ⟨x0, hx⟩ := get_lt hlt
  refine zW ?_
  refine awp_seq ?_
  refine awp_block ?_
  refine zG ?_
  refine zM ?_
  refine zP (q_elem rfl rfl rfl k rfl _ (val_get hx) rfl) ?_
  refine zL ?_
  refine zO ?_
  refine zS ?_
  refine zC ?_
  refine zA ?_
  refine zT ?_
  refine zH ?_
  refine zM ?_
  refine zE ?_
  refine zV ?_
  refine awp_block ?_
  refine awp_loop (fun x : {j : Nat // j ≤ vs.length} => ⟨[(2, .ptr 0 0), (1, vals vs), (20, vals vs), (21, i64 vs.length), (7, .sl ((mxl l vs k).map iv1) (some 1)), (22, i64 (k : Nat)), (8, i64 (k : Nat)), (9, .ptr 2 0), (10, bl ((vs.zipIdx.take x.1).all (keepP l x0 k))), (27, vals vs), (28, i64 vs.length), (29, i64 (x.1 : Nat))], [(0, .var 26 (latL l)), (1, .tok 3 1 (mxl l vs k).length), (2, .var 30 (valL x0))], 3⟩) (fun x => vs.length - x.1) (⟨0, Nat.zero_le _⟩) ?_ ?_
  ·
   exact weak_scrub' rfl (zz4 (zz4 ⟨(cgB (by simp)), rfl, rfl, rfl, (cgI (by simp)), rfl, (cgI (by simp)), rfl, trivial⟩)) ⟨rfl, rfl, rfl, rfl, rfl, rfl, rfl, rfl, rfl, trivial⟩
  rintro ⟨j, hj⟩
  dsimp only
  refine zG ?_
  refine zB ?_
  refine zN ?_
  refine awp_seq ?_
  refine c_cond rfl (fun h32 => ?_) (fun h32 => ?_)
  ·
   have hjl : j < vs.length := by simpa using h32
   obtain ⟨y, hy⟩ := get_lt hjl
   refine zW ?_
   refine awp_seq ?_
   refine awp_block ?_
   refine zG ?_
   refine zM ?_
   refine zP (q_elem rfl rfl rfl j rfl _ (val_get hy) rfl) ?_
   refine zL ?_
   refine zO ?_
   refine zS ?_
   refine zC ?_
   refine zA ?_
   refine zL ?_
   refine zL ?_
   refine zP (q_call (eqV_fc _ _) rfl rfl rfl) ?_
   refine zS ?_
   refine zA ?_
   refine zM ?_
   refine zP (q_not rfl rfl) ?_
   refine zM ?_
   refine s_case 39 rfl (fun h39 => ?_) (fun h39 => ?_)
   ·
    refine uL (w11 (m0 (n1 h39))) ?_
    refine uL (w11 (m0 (n1 h39))) ?_
    refine uL (w11 (m0 (n1 h39))) ?_
    refine uP (w11 (m0 (n1 h39))) (q_call (leq_fc l (check_ok hc.1) x0 y (hc.2 x0 (List.mem_of_getElem? hx)) (hc.2 y (List.mem_of_getElem? hy))) rfl rfl rfl) ?_
    refine zP (q_pick1 rfl rfl (m0 (n1 h39)) rfl) ?_
    refine zM ?_
    refine s_case 45 rfl (fun h43 => ?_) (fun h43 => ?_)
    ·
     refine uK (w10 h43) ?_
     refine uK (w10 h43) ?_
     refine zK ?_
     refine zK ?_
     refine zK ?_
     refine uK (w10 h43) ?_
     refine zP (q_pick1 rfl rfl h43 rfl) ?_
     refine zN ?_
     refine c_true rfl rfl ?_
     refine awp_region ?_
     refine zS ?_
     refine aops_nil ?_
     change AWP _ _ _ _  _
     refine awp_region ?_
     refine zP (q_addi rfl rfl rfl (by omega)) ?_
     refine zM ?_
     refine aops_nil ?_
     exact ⟨⟨j + 1, hjl⟩, weak_scrub' rfl (zz4 (zz4 ⟨(cgB (by rw [all_take (zipV_get hy)]; simp_all [keepP])), rfl, (zz2 ⟨(cgI (by dsimp only; omega)), rfl, trivial⟩)⟩)) ⟨rfl, rfl, rfl, rfl, rfl, rfl, rfl, rfl, rfl, trivial⟩, by dsimp only; omega⟩
    refine uM (w00 h43) ?_
    refine uM (w00 h43) ?_
    refine uK (w01 (n1 h39)) ?_
    refine uK (w01 (n1 h39)) ?_
    refine uK (w01 (n1 h39)) ?_
    refine uP (w00 h43) (q_pick0 rfl rfl (n1 h39) rfl) ?_
    refine zP (q_pick0 rfl rfl h43 rfl) ?_
    refine zN ?_
    refine c_false rfl rfl ?_
    refine awp_skip ?_
    change AWP _ _ _ _  _
    refine awp_region ?_
    refine zP (q_addi rfl rfl rfl (by omega)) ?_
    refine zM ?_
    refine aops_nil ?_
    exact ⟨⟨j + 1, hjl⟩, weak_scrub' rfl (zz4 (zz4 ⟨(cgB (by rw [all_take (zipV_get hy)]; simp_all [keepP])), rfl, (zz2 ⟨(cgI (by dsimp only; omega)), rfl, trivial⟩)⟩)) ⟨rfl, rfl, rfl, rfl, rfl, rfl, rfl, rfl, rfl, trivial⟩, by dsimp only; omega⟩
   refine uK (w01 (m1 (n0 h39))) ?_
   refine uK (w01 (m1 (n0 h39))) ?_
   refine uK (w01 (m1 (n0 h39))) ?_
   refine uK (w01 (m1 (n0 h39))) ?_
   refine zP (q_pick0 rfl rfl (m1 (n0 h39)) rfl) ?_
   refine zM ?_
   refine zM ?_
   refine zM ?_
   refine uM (w11 (n0 h39)) ?_
   refine uM (w11 (n0 h39)) ?_
   refine uP (w11 (n0 h39)) (q_bin rfl rfl rfl) ?_
   refine zP (q_pick1 rfl rfl (n0 h39) rfl) ?_
   refine zP (q_pick0 rfl rfl rfl rfl) ?_
   refine zN ?_
   refine c_cond rfl (fun h46 => ?_) (fun h46 => ?_)
   ·
    refine awp_region ?_
    refine zS ?_
    refine aops_nil ?_
    change AWP _ _ _ _  _
    refine awp_region ?_
    refine zP (q_addi rfl rfl rfl (by omega)) ?_
    refine zM ?_
    refine aops_nil ?_
    exact ⟨⟨j + 1, hjl⟩, weak_scrub' rfl (zz4 (zz4 ⟨(cgB (by rw [all_take (zipV_get hy)]; simp_all [keepP])), rfl, (zz2 ⟨(cgI (by dsimp only; omega)), rfl, trivial⟩)⟩)) ⟨rfl, rfl, rfl, rfl, rfl, rfl, rfl, rfl, rfl, trivial⟩, by dsimp only; omega⟩
   refine awp_skip ?_
   change AWP _ _ _ _  _
   refine awp_region ?_
   refine zP (q_addi rfl rfl rfl (by omega)) ?_
   refine zM ?_
   refine aops_nil ?_
   exact ⟨⟨j + 1, hjl⟩, weak_scrub' rfl (zz4 (zz4 ⟨(cgB (by rw [all_take (zipV_get hy)]; simp_all [keepP])), rfl, (zz2 ⟨(cgI (by dsimp only; omega)), rfl, trivial⟩)⟩)) ⟨rfl, rfl, rfl, rfl, rfl, rfl, rfl, rfl, rfl, trivial⟩, by dsimp only; omega⟩
  have hje : vs.length ≤ j := by simpa using h32
  have hkm : (vs.zipIdx.take j).all (keepP l x0 k) = keepM l vs x0 k := by rw [List.take_of_length_le (by simp; omega)]; rfl
  rw [hkm]
  refine awp_exit ?_
  change AWP _ _ _ _  _
  refine zG ?_
  refine zV ?_
  refine c_cond rfl (fun h28 => ?_) (fun h28 => ?_)
  ·
   have h16 := h28
   refine awp_region ?_
   refine zM ?_
   refine zM ?_
   refine zP (q_bslice rfl rfl rfl rfl (by exact rfl) (by decide) (by decide)) ?_
   refine s_append_tok hN rfl rfl rfl (by simp) rfl rfl (all_okE (fun _ => rfl) _) rfl (by simp [chunk_1]; omega) rfl rfl rfl rfl ?_
   refine zS ?_
   refine aops_nil ?_
   change AWP _ _ _ _  _
   refine awp_region ?_
   refine zP (q_addi rfl rfl rfl (by omega)) ?_
   refine zM ?_
   refine aops_nil ?_
   exact ⟨⟨k + 1, hlt, trivial⟩, weak_scrub' rfl (zz4 ⟨(cgL (by rw [mxl_succ hx, h16]; simp [iv1]; try rfl)), rfl, (cgI (by dsimp only; omega)), rfl, trivial⟩) ⟨rfl, rfl, rfl, (cgT (by rw [mxl_succ hx, h16]; simp [chunk_1])), rfl, rfl, trivial⟩, by dsimp only; omega⟩
  have h16 := h28
  refine awp_skip ?_
  change AWP _ _ _ _  _
  refine awp_region ?_
  refine zP (q_addi rfl rfl rfl (by omega)) ?_
  refine zM ?_
  refine aops_nil ?_
  exact ⟨⟨k + 1, hlt, trivial⟩, weak_scrub' rfl (zz4 ⟨(cgL (by rw [mxl_succ hx, h16]; simp [iv1]; try rfl)), rfl, (cgI (by dsimp only; omega)), rfl, trivial⟩) ⟨rfl, rfl, rfl, (cgT (by rw [mxl_succ hx, h16]; simp [chunk_1])), rfl, rfl, trivial⟩, by dsimp only; omega⟩
 have hge : (vs).length ≤ k := by simpa using h14
 obtain rfl : k = vs.length := by omega
 refine awp_exit ?_
 change AWP _ _ _ _  _
 refine zG ?_
 refine zM ?_
 refine zS ?_
 refine zS ?_
 refine zQ ?_
 rw [maximalV, if_pos h2]
end Go.Proofs.YtciojbjoijedjaaGreat

namespace Go.Proofs.YtciojbjoijedjaaGreat
open Go.RowKit
def getV (vs : List Val) (k : Int) : Val := vs[k.toNat]?.getD Val.zero
def cmpAt (l : Lat) (vs : List Val) (v : Val) (k : Int) : Bool := leqB l (getV vs k) v || leqB l v (getV vs k)
def lowAt (l : Lat) (vs : List Val) (v : Val) (k : Int) : Bool := leqB l (getV vs k) v
def chainStep (l : Lat) (vs : List Val) (out : List Int) (i : Nat) (v : Val) : Option (List Int) :=
 if out.all (cmpAt l vs v) then some (insL out (out.countP (lowAt l vs v)) i) else none
def chainN (l : Lat) (vs : List Val) : Nat → Option (List Int)
 | 0 => some []
 | k + 1 => match chainN l vs k, vs[k]? with
  | some out, some v => chainStep l vs out k v
  | _, _ => none
def chainV (l : Lat) (vs : List Val) : List Int × Bool := if checkJ l vs = 0 then (match chainN l vs vs.length with | some out => (out, true) | none => ([], false)) else ([], false)
theorem chainN_none {l : Lat} {vs : List Val} {k : Nat} (h : chainN l vs k = none) : ∀ d, chainN l vs (k + d) = none
 | 0 => h
 | d + 1 => by
  show (match chainN l vs (k + d), vs[k + d]? with | some out, some v => chainStep l vs out (k + d) v | _, _ => none) = none
  rw [chainN_none h d]
theorem chainN_succ {l : Lat} {vs : List Val} {k : Nat} {out : List Int} {v : Val} (h : chainN l vs k = some out) (hv : vs[k]? = some v) : chainN l vs (k + 1) = chainStep l vs out k v := by
 show (match chainN l vs k, vs[k]? with | some out, some v => chainStep l vs out k v | _, _ => none) = _
 rw [h, hv]
theorem insL_mem {l : List Int} {i : Nat} {x y : Int} : y ∈ insL l i x ↔ y = x ∨ y ∈ l := by
 unfold insL
 rw [List.mem_append, List.mem_cons]
 constructor
 ·rintro (h | h | h)
  ·exact .inr (List.mem_of_mem_take h)
  ·exact .inl h
  exact .inr (List.mem_of_mem_drop h)
 rintro (h | h)
 ·exact .inr (.inl h)
 have := (List.take_append_drop i l).symm ▸ h
 rcases List.mem_append.1 this with h | h
 ·exact .inl h
 exact .inr (.inr h)
theorem chainN_ok {l : Lat} {vs : List Val} : ∀ (k : Nat) (out : List Int), chainN l vs k = some out → out.length = k ∧ ∀ y ∈ out, 0 ≤ y ∧ y < k
 | 0, out, h => by cases h; exact ⟨rfl, by simp⟩
 | k + 1, out, h => by
  have h : (match chainN l vs k, vs[k]? with | some out, some v => chainStep l vs out k v | _, _ => none) = some out := h
  cases hc : chainN l vs k with
  | none => rw [hc] at h; cases h
  | some o1 =>
   cases hv : vs[k]? with
   | none => rw [hc, hv] at h; cases h
   | some v =>
    rw [hc, hv] at h
    simp only [chainStep] at h
    obtain ⟨i1, i2⟩ := chainN_ok k o1 hc
    split at h
    ·cases h
     refine ⟨by rw [insL_len _ (by have := List.countP_le_length (p := lowAt l vs v) (l := o1); omega), i1], fun y hy => ?_⟩
     rcases insL_mem.1 hy with rfl | hy
     ·omega
     have := i2 y hy; omega
    cases h
theorem getV_at {vs : List Val} {y : Int} {n : Nat} (h : 0 ≤ y ∧ y < n) (hn : n ≤ vs.length) : vs[y.toNat]? = some (getV vs y) := by
 have : y.toNat < vs.length := by omega
 unfold getV
 rw [List.getElem?_eq_getElem this]; rfl
theorem count_take {α : Type} {p : α → Bool} {l : List α} {k : Nat} {x : α} (h : l[k]? = some x) : (l.take (k + 1)).countP p = (l.take k).countP p + (if p x then 1 else 0) := by
 rw [List.take_add_one, h, List.countP_append]
 cases hp : p x <;> simp [hp]
end Go.Proofs.YtciojbjoijedjaaGreat

namespace Go.Proofs.YtciojbjoijedjaaGreat
open Go.RowKit
theorem fzs_ivs (l : List Int) : ∀ e ∈ l.map iv1, fzs e = some e := fun e he => by
 obtain ⟨x, -, rfl⟩ := List.mem_map.1 he
 rfl
theorem cgOw {q n n' : Nat} (h : n = n') : some (AV.own q n) = some (AV.own q n') := by rw [h]
set_option maxRecDepth 100000 in
set_option maxHeartbeats 1000000 in
theorem chain_vfc (l : Lat) (vs : List Val) (hvs : vs.length ≤ 1000000) : FC Tryz.prog 32 [.agg (latL l), vals vs] (.tup [ivs (chainV l vs).1, bl (chainV l vs).2]) := by
 refine fc_of_awp [4, 5] Tryz.func32 rfl rfl 56 Tryz.ntmps32 (Nat.le_of_ble_eq_true rfl) ?_
 intro E hN
 refine zG ?_
 refine zX ?_
 refine zS ?_
 refine zT ?_
 refine zH ?_
 refine zL ?_
 refine zM ?_
 refine zP (q_call (checkJ_fc l vs) rfl rfl rfl) ?_
 refine zB ?_
 refine zN ?_
 refine c_cond rfl (fun h6 => ?_) (fun h6 => ?_)
 ·
  have h1 : ¬ checkJ l vs = 0 := by simpa using h6
  refine zG ?_
  refine zS ?_
  refine zS ?_
  refine zQ ?_
  rw [chainV, if_neg h1]; rfl
 have h1 : checkJ l vs = 0 := by simpa using h6
 have hc := checkJ_ok h1
 refine zW ?_
 refine zG ?_
 refine zT ?_
 refine zH ?_
 refine zM ?_
 refine zE ?_
 refine zV ?_
 refine awp_block ?_
 refine awp_weak (weak_own rfl 6 3 1 rfl) ?_
 refine awp_loop (fun x : {p : Nat × List Int // p.1 ≤ vs.length ∧ chainN l vs p.1 = some p.2} => ⟨[(2, .ptr 0 0), (1, vals vs), (16, vals vs), (17, i64 vs.length), (6, .own 1 x.1.2.length), (18, i64 (x.1.1 : Nat))], [(0, .var 26 (latL l)), (1, .arr 3 1 (x.1.2.map iv1))], 2⟩) (fun x => vs.length - x.1.1) (⟨(0, []), Nat.zero_le _, rfl⟩) ?_ ?_
 ·
  exact weak_scrub' rfl (zz3 ⟨(cgI (by simp)), rfl, (zz2 trivial)⟩) ⟨rfl, rfl, rfl, rfl, rfl, (ok_arr (fun _ => rfl) _), trivial⟩
 rintro ⟨⟨k, out⟩, hk, hg⟩
 dsimp only at hk hg ⊢
 refine a_lm 16 rfl (fun hl16 => ?_)
 refine zG ?_
 refine zB ?_
 refine zN ?_
 refine awp_seq ?_
 refine c_cond rfl (fun h14 => ?_) (fun h14 => ?_)
 ·
  have hlt : k < vs.length := by simpa using h14
  obtain ⟨v, hx⟩ := get_lt hlt
  obtain ⟨hol, hob⟩ := chainN_ok k out hg
  refine zW ?_
  refine awp_seq ?_
  refine awp_block ?_
  refine zG ?_
  refine zM ?_
  refine zP (q_elem rfl rfl rfl k rfl _ (val_get hx) rfl) ?_
  refine zL ?_
  refine zO ?_
  refine zS ?_
  refine zC ?_
  refine zA ?_
  refine zT ?_
  refine zH ?_
  refine zM ?_
  refine zP ((q_len_own rfl rfl rfl (by simp))) ?_
  refine zV ?_
  refine awp_block ?_
  refine awp_loop (fun x : {j : Nat // j ≤ out.length ∧ (out.take j).all (cmpAt l vs v) = true} => ⟨[(2, .ptr 0 0), (1, vals vs), (16, vals vs), (17, i64 vs.length), (6, .own 1 out.length), (18, i64 (k : Nat)), (7, i64 (k : Nat)), (8, .ptr 2 0), (9, i64 ((out.take x.1).countP (lowAt l vs v) : Nat)), (23, .own 1 out.length), (24, i64 out.length), (25, i64 (x.1 : Nat))], [(0, .var 26 (latL l)), (1, .arr 3 1 (out.map iv1)), (2, .var 30 (valL v))], 3⟩) (fun x => out.length - x.1) (⟨0, Nat.zero_le _, by simp⟩) ?_ ?_
  ·
   exact weak_scrub' rfl (zz4 (zz4 ⟨(cgI (by simp)), rfl, rfl, rfl, (cgI (by simp)), rfl, (zz1 trivial)⟩)) ⟨rfl, rfl, rfl, rfl, rfl, (ok_arr (fun _ => rfl) _), rfl, rfl, rfl, trivial⟩
  rintro ⟨j, hj, hg2⟩
  dsimp only
  refine zG ?_
  refine zB ?_
  refine zN ?_
  refine awp_seq ?_
  refine c_cond rfl (fun h32 => ?_) (fun h32 => ?_)
  ·
   have hjl : j < out.length := by simpa using h32
   obtain ⟨y, hy⟩ := get_lt hjl
   have hyb := hob y (List.mem_of_getElem? hy)
   have hyv := getV_at hyb hk
   have hyi : y = (y.toNat : Int) := by omega
   have hcp : (out.take j).countP (lowAt l vs v) ≤ j := Nat.le_trans List.countP_le_length (by simp; omega)
   refine zW ?_
   refine awp_seq ?_
   refine awp_block ?_
   refine zG ?_
   refine zP (q_eown rfl rfl rfl rfl (by simp) j rfl hjl) ?_
   refine zP (q_loadI rfl rfl out rfl rfl j rfl hy) ?_
   refine zT ?_
   refine awp_block ?_
   refine awp_seq ?_
   refine awp_draw 7 (by kernel_rfl) (by kernel_rfl) ?_
   refine zl ?_
   refine zm ?_
   refine zm ?_
   refine zp (q_elem rfl rfl rfl y.toNat hyi _ (val_get hyv) rfl) ?_
   refine zl ?_
   refine zl ?_
   refine zp (q_call (leq_fc l (check_ok hc.1) (getV vs y) v (hc.2 _ (List.mem_of_getElem? hyv)) (hc.2 v (List.mem_of_getElem? hx))) rfl rfl rfl) ?_
   change AOps _ _ _ _ _ _
   refine zT ?_
   refine c_cond rfl (fun h39 => ?_) (fun h39 => ?_)
   ·
    have h11 := h39
    refine awp_region ?_
    refine zM ?_
    refine zP (q_addi rfl rfl rfl (by omega)) ?_
    refine zS ?_
    refine aops_nil ?_
    change AWP _ _ _ _  _
    refine awp_region ?_
    refine zP (q_addi rfl rfl rfl (by omega)) ?_
    refine zM ?_
    refine aops_nil ?_
    exact ⟨⟨j + 1, hjl, by rw [all_take hy, hg2]; first | (simp [cmpAt, h11]; done) | (simp [cmpAt, h13]; done)⟩, weak_scrub' rfl (zz4 (zz4 ⟨(cgI (by rw [count_take hy]; simp [lowAt, h11])), rfl, (zz2 ⟨(cgI (by dsimp only; omega)), rfl, trivial⟩)⟩)) ⟨rfl, rfl, rfl, rfl, rfl, (ok_arr (fun _ => rfl) _), rfl, rfl, rfl, trivial⟩, by dsimp only; omega⟩
   have h11 := h39
   refine awp_seq ?_
   refine awp_draw 8 (by kernel_rfl) (by kernel_rfl) ?_
   refine zl ?_
   refine zl ?_
   refine zm ?_
   refine zm ?_
   refine zp (q_elem rfl rfl rfl y.toNat hyi _ (val_get hyv) rfl) ?_
   refine zl ?_
   refine zp (q_call (leq_fc l (check_ok hc.1) v (getV vs y) (hc.2 v (List.mem_of_getElem? hx)) (hc.2 _ (List.mem_of_getElem? hyv))) rfl rfl rfl) ?_
   refine zp (q_not rfl rfl) ?_
   change AOps _ _ _ _ _ _
   refine zT ?_
   refine c_cond rfl (fun h46 => ?_) (fun h46 => ?_)
   ·
    have h13 := n1 h46
    refine zG ?_
    refine zS ?_
    refine zS ?_
    refine zQ ?_
    rw [chainV, if_pos h1, show chainN l vs vs.length = none by
     have h0 : chainN l vs (k + 1) = none := by
      rw [chainN_succ hg hx, chainStep, if_neg]
      intro e
      have := List.all_eq_true.1 e y (List.mem_of_getElem? hy)
      simp [cmpAt, h11, h13] at this
     obtain ⟨d, hd⟩ : ∃ d, vs.length = k + 1 + d := ⟨vs.length - (k + 1), by omega⟩
     rw [hd]; exact chainN_none h0 d]; rfl
   have h13 := n0 h46
   refine awp_skip ?_
   change AWP _ _ _ _  _
   refine awp_region ?_
   refine zP (q_addi rfl rfl rfl (by omega)) ?_
   refine zM ?_
   refine aops_nil ?_
   exact ⟨⟨j + 1, hjl, by rw [all_take hy, hg2]; first | (simp [cmpAt, h11]; done) | (simp [cmpAt, h13]; done)⟩, weak_scrub' rfl (zz4 (zz4 ⟨(cgI (by rw [count_take hy]; simp [lowAt, h11])), rfl, (zz2 ⟨(cgI (by dsimp only; omega)), rfl, trivial⟩)⟩)) ⟨rfl, rfl, rfl, rfl, rfl, (ok_arr (fun _ => rfl) _), rfl, rfl, rfl, trivial⟩, by dsimp only; omega⟩
  have hje : out.length ≤ j := by simpa using h32
  rw [List.take_of_length_le hje] at hg2 ⊢
  refine awp_exit ?_
  change AWP _ _ _ _  _
  refine awp_region ?_
  refine zM ?_
  refine zM ?_
  refine zM ?_
  refine s_bslice1 hN rfl rfl rfl rfl rfl rfl rfl ?_
  refine s_insert (sf := 57) (te := 3) hN shc_insI rfl rfl rfl rfl rfl rfl rfl out (k : Int) (out.countP (lowAt l vs v)) rfl List.countP_le_length (by omega) rfl rfl rfl rfl rfl rfl rfl ?_
  refine zS ?_
  refine aops_nil ?_
  change AWP _ _ _ _  _
  refine awp_region ?_
  refine zP (q_addi rfl rfl rfl (by omega)) ?_
  refine zM ?_
  refine aops_nil ?_
  exact ⟨⟨(k + 1, insL out (out.countP (lowAt l vs v)) k), hlt, by rw [chainN_succ hg hx, chainStep, if_pos hg2]⟩, weak_scrub' rfl (zz4 ⟨(cgOw (insL_len _ List.countP_le_length).symm), rfl, (cgI (by dsimp only; omega)), rfl, trivial⟩) ⟨rfl, rfl, rfl, rfl, rfl, (ok_arr (fun _ => rfl) _), trivial⟩, by dsimp only; omega⟩
 have hge : vs.length ≤ k := by simpa using h14
 obtain rfl : k = vs.length := by omega
 refine awp_exit ?_
 change AWP _ _ _ _  _
 refine zG ?_
 refine zM ?_
 refine zS ?_
 refine zT ?_
 refine awp_weak (weak_frow 4 1 rfl rfl (by simp) (all_okE (fun _ => rfl) _) (fzs_ivs _) rfl) ?_
 refine zR ?_
 rw [chainV, if_pos h1, hg]
end Go.Proofs.YtciojbjoijedjaaGreat
