/-
  Contracts of the reference: the acceptor; ballots.
-/
import Derived.Test.YtnjmbgnaplomaaaGreatS1
namespace Go.Proofs.YtnjmbgnaplomaaaGreat
open Go.RowKit
theorem balC_get {l : List Bal} {k : Nat} {x : Bal} (h : l[k]? = some x) : (l.map fun b => balC b)[k]? = some (balC x) := by rw [List.getElem?_map, h]; rfl
def sameBal (x y : Bal) : Bool := x.k == y.k && x.f == y.f && x.t == y.t && x.n == y.n && eqV x.v y.v
theorem sameBal_refl (x : Bal) : sameBal x x = true := by unfold sameBal; simp [(eqV_iff x.v x.v).2 rfl]
def smallBal (b : Bal) : Bool := smallV b.v 40
def smallBs (l : List Bal) (m : Int) : Bool := !decide ((l.length : Int) > m) && l.all smallBal
theorem smallBs_ok {l : List Bal} {m : Int} (h : smallBs l m = true) : (l.length : Int) ≤ m ∧ ∀ b ∈ l, SmV 40 b.v := by
 unfold smallBs at h
 simp only [Bool.and_eq_true, Bool.not_eq_true', decide_eq_false_iff_not, List.all_eq_true] at h
 exact ⟨by omega, fun b hb => sm_small (h.2 b hb)⟩
set_option maxRecDepth 100000 in
set_option maxHeartbeats 1000000 in
theorem rSameBal_fc (x y : Bal) : FC Tryz.prog 18 [.agg (balC x), .agg (balC y)] (bl (sameBal x y)) := by
 refine fc_of_awp [4] Tryz.func18 rfl rfl 38 Tryz.ntmps18 (Nat.le_of_ble_eq_true rfl) ?_
 intro E hN
 refine zG ?_; refine zX ?_; refine zX ?_; refine zS ?_; refine zA ?_; refine zF ?_; refine zL ?_; refine zF ?_; refine zL ?_; refine zB ?_
 refine zM ?_
 refine zc 10 ?_ ?_ <;> intro h9
 ·
  refine uF (w11 h9) ?_; refine uL (w11 h9) ?_; refine uF (w11 h9) ?_; refine uL (w11 h9) ?_; refine uP (w11 h9) (q_bin rfl rfl rfl) ?_
  refine zh1 h9 ?_; refine zM ?_
  refine zc 17 ?_ ?_ <;> intro h14
  ·
   refine uF (w11 h14) ?_; refine uL (w11 h14) ?_; refine uF (w11 h14) ?_; refine uL (w11 h14) ?_; refine uP (w11 h14) (q_bin rfl rfl rfl) ?_
   refine zh1 h14 ?_; refine zM ?_
   refine zc 24 ?_ ?_ <;> intro h19
   ·
    refine uF (w11 h19) ?_; refine uL (w11 h19) ?_; refine uF (w11 h19) ?_; refine uL (w11 h19) ?_; refine uP (w11 h19) (q_bin rfl rfl rfl) ?_
    refine zh1 h19 ?_; refine zM ?_
    refine zc 31 ?_ ?_ <;> intro h24
    ·
     refine uF (w11 h24) ?_; refine uL (w11 h24) ?_; refine uF (w11 h24) ?_; refine uL (w11 h24) ?_
     refine uP (w11 h24) (q_call (rEqual_fc x.v y.v) rfl rfl rfl) ?_; refine zh1 h24 ?_; refine zS ?_; refine zQ ?_
     exact retB (by simp_all [sameBal])
    iterate 5 refine uK (w01 h24) ?_
    refine zh0 h24 ?_; refine zS ?_; refine zQ ?_
    exact retB (by simp_all [sameBal])
   iterate 5 refine uK (w01 h19) ?_
   refine zh0 h19 ?_; refine zM ?_
   iterate 5 refine zK ?_
   refine zh0 rfl ?_; refine zS ?_; refine zQ ?_
   exact retB (by simp_all [sameBal])
  iterate 5 refine uK (w01 h14) ?_
  refine zh0 h14 ?_; refine zM ?_
  iterate 5 refine zK ?_
  refine zh0 rfl ?_; refine zM ?_
  iterate 5 refine zK ?_
  refine zh0 rfl ?_; refine zS ?_; refine zQ ?_
  exact retB (by simp_all [sameBal])
 iterate 5 refine uK (w01 h9) ?_
 refine zh0 h9 ?_; refine zM ?_
 iterate 5 refine zK ?_
 refine zh0 rfl ?_; refine zM ?_
 iterate 5 refine zK ?_
 refine zh0 rfl ?_; refine zM ?_
 iterate 5 refine zK ?_
 refine zh0 rfl ?_; refine zS ?_; refine zQ ?_
 exact retB (by simp_all [sameBal])
set_option maxRecDepth 100000 in
set_option maxHeartbeats 1000000 in
theorem rSmallBs_fc (l : List Bal) (m : Int) : FC Tryz.prog 10 [bals l, i64 m] (bl (smallBs l m)) := by
 refine fc_of_awp [4] Tryz.func10 rfl rfl 23 Tryz.ntmps10 (Nat.le_of_ble_eq_true rfl) ?_
 intro E hN
 refine a_lm 0 rfl (fun hl0 => ?_)
 refine zG ?_; refine zT ?_; refine zH ?_; refine zM ?_; refine zE ?_; refine zM ?_; refine zB ?_; refine zN ?_
 refine zq ?_ ?_ <;> intro h4
 ·
  have h1 : (l.length : Int) > m := by simpa using h4
  refine zG ?_; refine zS ?_; refine zQ ?_
  exact retB (by rw [smallBs, decide_eq_true h1]; rfl)
 have h1 : ¬ (l.length : Int) > m := by simpa using h4
 refine zW ?_; refine zH ?_; refine zT ?_; refine awp_block ?_
 refine awp_loop (fun x : {k : Nat // k ≤ (l).length ∧ (l.drop k).all smallBal = l.all smallBal} => ⟨[(0, bals l), (5, i64 (x.1 : Nat))], [], 0⟩) (fun x => (l).length - x.1) (⟨0, Nat.zero_le _, by simp⟩) ?_ ?_
 ·
  exact weak_scrub' rfl (zz2 trivial) trivial
 rintro ⟨k, hk, hg⟩
 dsimp only
 refine zH ?_; refine zM ?_; refine zM ?_; refine zE ?_; refine zB ?_; refine zN ?_
 refine zq ?_ ?_ <;> intro h7
 ·
  have hlt : k < (l).length := by simpa using h7
  obtain ⟨x, hx⟩ := get_lt hlt
  refine zW ?_; refine awp_seq ?_; refine awp_block ?_; refine zG ?_; refine zM ?_; refine zM ?_
  refine zP (q_elem rfl rfl rfl k rfl _ (balC_get hx) rfl) ?_; refine zF ?_; refine zL ?_
  refine zP (q_call (rSmall_fc x.v 40 (by decide) (by decide)) rfl rfl rfl) ?_; refine zP (q_not rfl rfl) ?_; refine zN ?_
  refine zq ?_ ?_ <;> intro h11
  ·
   refine zG ?_; refine zS ?_; refine zQ ?_
   exact retB (by rw [smallBs, all_no hg hx (by simp_all [smallBal]), Bool.and_false])
  refine awp_skip ?_; change AWP _ _ _ _  _; refine awp_region ?_; refine zM ?_; refine zP (q_addi rfl rfl rfl (by omega)) ?_; refine zS ?_
  refine aops_nil ?_
  exact ⟨⟨k + 1, hlt, all_go hg hx (by simp_all [smallBal])⟩, weak_scrub' rfl (zz1 ⟨(cgI (by dsimp only; omega)), rfl, trivial⟩) trivial, by dsimp only; omega⟩
 have hge : (l).length ≤ k := by simpa using h7
 refine awp_exit ?_; change AWP _ _ _ _  _; refine zG ?_; refine zS ?_; refine zQ ?_
 exact retB (by rw [smallBs, all_end hg hge, decide_eq_false h1]; rfl)
set_option maxRecDepth 100000 in
set_option maxHeartbeats 1000000 in
theorem rjoin_fc (l : Lat) (a b : Val) (hc : checkX l = 0) (ha : elemB a l = true) (hb : elemB b l = true) {n m : Nat} (hnm : n + m ≤ 1000000) (sa : SmV n a) (sb : SmV m b) : FC Tryz.prog 49 [.agg (latL l), .agg (valL a), .agg (valL b)] (.agg (valL (joinV l a b))) := by
 have cJ : FC Tryz.prog 70 [.agg (latL l), .agg (valL a), .agg (valL b)] (.tup [.agg (valL (joinV l a b)), i64 0]) := by
  have h := rJoin_fc l hnm a b sa sb
  rw [show joinR l a b = (joinV l a b, 0) by rw [joinR, if_pos (checkJ_of hc (by simp [ha, hb]))]] at h
  exact h
 refine fc_of_awpR [.c 6 41 4 true] ⟨⟨inferInstance, rfl⟩, trivial⟩ Tryz.func49 rfl rfl 17 Tryz.ntmps49 (Nat.le_of_ble_eq_true rfl) ?_
 intro E hN
 refine zG ?_; refine zX ?_; refine zX ?_; refine zX ?_; refine zO ?_; refine zA ?_; refine zL ?_; refine zL ?_; refine zL ?_
 refine zP (q_call cJ rfl rfl rfl) ?_; refine zM ?_; refine zP (q_extract rfl rfl rfl) ?_; refine zP (q_extract rfl rfl rfl) ?_; refine zO ?_
 refine zC ?_; refine zS ?_; refine zA ?_; refine zL ?_; refine zC ?_; refine zN ?_; refine awp_ret ?_
 change (resY _ _).bind AV.fzt = some _
 refine ret_r rfl ?_
 rfl
set_option maxRecDepth 100000 in
set_option maxHeartbeats 1000000 in
theorem rBottom_fc (l : Lat) : FC Tryz.prog 44 [.agg (latL l)] (.tup [.agg (valL (bottomC l).1), i64 (bottomC l).2]) := by
 refine fc_of_awpR [.c 2 41 4 true, .t 3] ⟨⟨inferInstance, rfl⟩, trivial⟩ Tryz.func44 rfl rfl 10 Tryz.ntmps44 (Nat.le_of_ble_eq_true rfl) ?_
 intro E hN
 refine zG ?_; refine zX ?_; refine zO ?_; refine zT ?_; refine zH ?_; refine zL ?_; refine zP (q_call (r9Check_fc l) rfl rfl rfl) ?_; refine zB ?_
 refine zN ?_
 refine zq ?_ ?_ <;> intro h6
 ·
  have h1 : ¬ checkX l = 0 := by simpa using h6
  refine zG ?_; refine zP (q_build rfl rfl rfl) ?_; refine zC ?_; refine zT ?_; refine awp_ret ?_
  change (resY _ _).bind AV.fzt = some _
  refine ret_r rfl ?_
  rw [bottomC, if_neg h1]; rfl
 have h1 : checkX l = 0 := by simpa using h6
 refine zW ?_; refine zG ?_; refine zL ?_; refine zP (q_call (rleast_fc l (check_ok h1)) rfl rfl rfl) ?_; refine zC ?_; refine zT ?_; refine awp_ret ?_
 change (resY _ _).bind AV.fzt = some _
 refine ret_r rfl ?_
 rw [bottomC, if_pos h1]
theorem bottomC_ok {l : Lat} (h : checkX l = 0) : (bottomC l).2 = 0 := by rw [bottomC, if_pos h]
theorem bottomC_no {l : Lat} (h : ¬ checkX l = 0) : (bottomC l).2 = 1 := by rw [bottomC, if_neg h]
theorem bottomC_v {l : Lat} (h : checkX l = 0) : (bottomC l).1 = bottomV l := by rw [bottomC, if_pos h]
set_option maxRecDepth 100000 in
set_option maxHeartbeats 1000000 in
theorem rnewA_fn (l : Lat) (id : Int) (hc : checkX l = 0) (h0 : 0 ≤ id) (h1 : id < 12) : FN Tryz.prog 13 [.agg (latL l), i64 id] 44 (accC l id (bottomC l).1) (i64 0) := by
 have hb0 := bottomC_ok hc
 refine fn_of_awp 4 5 Tryz.func13 rfl rfl 28 Tryz.ntmps13 (Nat.le_of_ble_eq_true rfl) ?_
 intro E hN
 refine zG ?_; refine zX ?_; refine zS ?_; refine zS ?_; refine zA ?_; refine zL ?_; refine zP (q_call (rBottom_fc l) rfl rfl rfl) ?_; refine zM ?_
 refine zP (q_extract rfl rfl rfl) ?_; refine zP (q_extract rfl rfl rfl) ?_; refine zO ?_; refine zC ?_; refine zT ?_; refine zH ?_; refine zM ?_
 refine zB ?_; refine zM ?_
 refine zc 15 ?_ ?_ <;> intro h10
 ·
  iterate 2 refine uK (w10 h10) ?_
  refine zh1 h10 ?_; refine zM ?_
  iterate 2 refine zK ?_
  refine zh1 rfl ?_; refine zN ?_; refine c_true rfl rfl ?_; refine zG ?_; refine zS ?_; refine zT ?_; refine awp_ret ?_
  exfalso
  first | (simp_all; done) | (simp_all; omega)
 refine uM (w00 h10) ?_; refine uP (w00 h10) (q_bin rfl rfl rfl) ?_; refine zh0 h10 ?_; refine zM ?_
 refine zc 19 ?_ ?_ <;> intro h11
 ·
  iterate 2 refine uK (w10 h11) ?_
  refine zh1 h11 ?_; refine zN ?_; refine c_true rfl rfl ?_; refine zG ?_; refine zS ?_; refine zT ?_; refine awp_ret ?_
  exfalso
  first | (simp_all; done) | (simp_all; omega)
 refine uM (w00 h11) ?_; refine uP (w00 h11) (q_bin rfl rfl rfl) ?_; refine zh0 h11 ?_; refine zN ?_
 refine zq ?_ ?_ <;> intro h12
 ·
  refine zG ?_; refine zS ?_; refine zT ?_; refine awp_ret ?_
  exfalso
  first | (simp_all; done) | (simp_all; omega)
 refine zW ?_; refine zG ?_; refine zL ?_; refine zM ?_; refine zL ?_; refine zP (q_build rfl rfl rfl) ?_; refine zX ?_; refine zS ?_; refine zT ?_
 refine awp_ret ?_
 exact ⟨2, _, _, rfl, rfl, rfl, rfl, rfl⟩
set_option maxRecDepth 100000 in
set_option maxHeartbeats 1000000 in
theorem rnewA_fc (l : Lat) (id : Int) (hbad : ¬ checkX l = 0 ∨ id < 0 ∨ 12 ≤ id) : FC Tryz.prog 13 [.agg (latL l), i64 id] (.tup [.p (.pointer none), i64 1]) := by
 refine fc_of_awp [4, 5] Tryz.func13 rfl rfl 28 Tryz.ntmps13 (Nat.le_of_ble_eq_true rfl) ?_
 intro E hN
 refine zG ?_; refine zX ?_; refine zS ?_; refine zS ?_; refine zA ?_; refine zL ?_; refine zP (q_call (rBottom_fc l) rfl rfl rfl) ?_; refine zM ?_
 refine zP (q_extract rfl rfl rfl) ?_; refine zP (q_extract rfl rfl rfl) ?_; refine zO ?_; refine zC ?_; refine zT ?_; refine zH ?_; refine zM ?_
 refine zB ?_; refine zM ?_
 refine zc 15 ?_ ?_ <;> intro h10
 ·
  iterate 2 refine uK (w10 h10) ?_
  refine zh1 h10 ?_; refine zM ?_
  iterate 2 refine zK ?_
  refine zh1 rfl ?_; refine zN ?_; refine c_true rfl rfl ?_; refine zG ?_; refine zS ?_; refine zS ?_; refine zQ ?_
  rfl
 refine uM (w00 h10) ?_; refine uP (w00 h10) (q_bin rfl rfl rfl) ?_; refine zh0 h10 ?_; refine zM ?_
 refine zc 19 ?_ ?_ <;> intro h11
 ·
  iterate 2 refine uK (w10 h11) ?_
  refine zh1 h11 ?_; refine zN ?_; refine c_true rfl rfl ?_; refine zG ?_; refine zS ?_; refine zS ?_; refine zQ ?_
  rfl
 refine uM (w00 h11) ?_; refine uP (w00 h11) (q_bin rfl rfl rfl) ?_; refine zh0 h11 ?_; refine zN ?_
 refine zq ?_ ?_ <;> intro h12
 ·
  refine zG ?_; refine zS ?_; refine zS ?_; refine zQ ?_
  rfl
 exfalso
 rcases hbad with hbad | hbad | hbad
 ·have := bottomC_no hbad
  simp_all
 ·first | (simp_all; done) | (simp_all; omega)
 first | (simp_all; done) | (simp_all; omega)
set_option maxRecDepth 100000 in
set_option maxHeartbeats 1000000 in
theorem rrecvA_gc (l : Lat) (id : Int) (v : Val) (b : Bal) (hc : checkX l = 0) (hv : elemB v l = true) {n : Nat} (hn : n ≤ 900000) (sv : SmV n v) (sb : SmV 40 b.v) : GC Tryz.prog 17 [.ptr idB 0, .agg (balC b)] [(idB, .var 44 (accC l id v))] (.tup [.agg (balC (recvA l id v b).2.1), i64 (recvA l id v b).2.2]) [(idB, .var 44 (accC l id (recvA l id v b).1))] := by
 refine gc_of_awpR [.c 4 46 8 true, .t 5] ⟨⟨inferInstance, rfl⟩, trivial⟩ Tryz.func17 rfl rfl 84 Tryz.ntmps17 (Nat.le_of_ble_eq_true rfl) ?_
 intro E hN
 refine zG ?_; refine zX ?_; refine zO ?_; refine zT ?_; refine awp_seq ?_; refine awp_seq ?_; refine awp_draw 31 (by kernel_rfl) (by kernel_rfl) ?_
 refine zf ?_; refine zl ?_; refine zp (q_bin rfl rfl rfl) ?_; refine zm ?_
 refine zd 11 ?_ ?_ <;> intro h7
 ·
  iterate 7 refine vK (w10 h7) ?_
  refine zp (q_pick1 rfl rfl h7 rfl) ?_; refine zm ?_
  iterate 3 refine zk ?_
  refine zp (q_pick1 rfl rfl rfl rfl) ?_; refine zm ?_
  iterate 3 refine zk ?_
  refine zp (q_pick1 rfl rfl rfl rfl) ?_; refine zm ?_
  iterate 8 refine zk ?_
  change AOps _ _ _ _ _ _; refine zh1 rfl ?_; refine zN ?_; refine c_true rfl rfl ?_; refine zG ?_; refine zP (q_build rfl rfl rfl) ?_; refine zC ?_
  refine zT ?_; refine awp_ret ?_
  change (resY _ _).bind AV.fzt = some _ ∧ _
  refine ret_g1r rfl ?_ rfl ?_ rfl
  all_goals rw [recvA, if_pos (show badA l id b = true by simp_all [badA])]
  all_goals rfl
 refine vP (w00 h7) (q_fieldAddr rfl rfl rfl rfl) ?_; refine vP (w00 h7) (q_load rfl rfl rfl rfl rfl) ?_; refine vP (w00 h7) (q_move rfl rfl) ?_
 refine vP (w00 h7) (q_nil rfl rfl rfl) ?_; refine vP (w00 h7) (q_fieldAddr rfl rfl rfl rfl) ?_; refine vP (w00 h7) (q_load rfl rfl rfl rfl rfl) ?_
 refine vP (w00 h7) (q_bin rfl rfl rfl) ?_; refine zp (q_pick0 rfl rfl h7 rfl) ?_; refine zm ?_
 refine zd 20 ?_ ?_ <;> intro h14
 ·
  iterate 3 refine vK (w10 h14) ?_
  refine zp (q_pick1 rfl rfl h14 rfl) ?_; refine zm ?_
  iterate 3 refine zk ?_
  refine zp (q_pick1 rfl rfl rfl rfl) ?_; refine zm ?_
  iterate 8 refine zk ?_
  change AOps _ _ _ _ _ _; refine zh1 rfl ?_; refine zN ?_; refine c_true rfl rfl ?_; refine zG ?_; refine zP (q_build rfl rfl rfl) ?_; refine zC ?_
  refine zT ?_; refine awp_ret ?_
  change (resY _ _).bind AV.fzt = some _ ∧ _
  refine ret_g1r rfl ?_ rfl ?_ rfl
  all_goals rw [recvA, if_pos (show badA l id b = true by simp_all [badA])]
  all_goals rfl
 refine vP (w00 h14) (q_fieldAddr rfl rfl rfl rfl) ?_; refine vP (w00 h14) (q_load rfl rfl rfl rfl rfl) ?_; refine vP (w00 h14) (q_bin rfl rfl rfl) ?_
 refine zp (q_pick0 rfl rfl h14 rfl) ?_; refine zm ?_
 refine zd 25 ?_ ?_ <;> intro h19
 ·
  iterate 3 refine vK (w10 h19) ?_
  refine zp (q_pick1 rfl rfl h19 rfl) ?_; refine zm ?_
  iterate 8 refine zk ?_
  change AOps _ _ _ _ _ _; refine zh1 rfl ?_; refine zN ?_; refine c_true rfl rfl ?_; refine zG ?_; refine zP (q_build rfl rfl rfl) ?_; refine zC ?_
  refine zT ?_; refine awp_ret ?_
  change (resY _ _).bind AV.fzt = some _ ∧ _
  refine ret_g1r rfl ?_ rfl ?_ rfl
  all_goals rw [recvA, if_pos (show badA l id b = true by simp_all [badA])]
  all_goals rfl
 refine vP (w00 h19) (q_fieldAddr rfl rfl rfl rfl) ?_; refine vP (w00 h19) (q_load rfl rfl rfl rfl rfl) ?_; refine vP (w00 h19) (q_bin rfl rfl rfl) ?_
 refine zp (q_pick0 rfl rfl h19 rfl) ?_; refine zm ?_
 refine zd 30 ?_ ?_ <;> intro h24
 ·
  iterate 8 refine vK (w10 h24) ?_
  change AOps _ _ _ _ _ _; refine zh1 h24 ?_; refine zN ?_; refine c_true rfl rfl ?_; refine zG ?_; refine zP (q_build rfl rfl rfl) ?_; refine zC ?_
  refine zT ?_; refine awp_ret ?_
  change (resY _ _).bind AV.fzt = some _ ∧ _
  refine ret_g1r rfl ?_ rfl ?_ rfl
  all_goals rw [recvA, if_pos (show badA l id b = true by simp_all [badA])]
  all_goals rfl
 refine vP (w00 h24) (q_move rfl rfl) ?_; refine vP (w00 h24) (q_nil rfl rfl rfl) ?_; refine vP (w00 h24) (q_fieldAddr rfl rfl rfl rfl) ?_
 refine vP (w00 h24) (q_load rfl rfl rfl rfl rfl) ?_; refine vP (w00 h24) (q_fieldAddr rfl rfl rfl rfl) ?_
 refine vP (w00 h24) (q_load rfl rfl rfl rfl rfl) ?_; refine vP (w00 h24) (q_call (rValidV_fc l b.v) rfl rfl rfl) ?_
 refine vP (w00 h24) (q_not rfl rfl) ?_; change AOps _ _ _ _ _ _; refine zh0 h24 ?_; refine zN ?_
 refine zq ?_ ?_ <;> intro h31
 ·
  refine zG ?_; refine zP (q_build rfl rfl rfl) ?_; refine zC ?_; refine zT ?_; refine awp_ret ?_
  change (resY _ _).bind AV.fzt = some _ ∧ _
  refine ret_g1r rfl ?_ rfl ?_ rfl
  all_goals rw [recvA, if_pos (show badA l id b = true by simp_all [badA])]
  all_goals rfl
 have hbad : badA l id b = false := by simp_all [badA] <;> omega
 have hbe := badA_el hbad
 refine zW ?_; refine awp_seq ?_; refine awp_floats [([0, 1, 2, 3, 4, 5, 6, 7, 8], 9)] [10] (by kernel_rfl) (by kernel_rfl) rfl ?_
 refine ⟨_, rfl, ?_⟩
 refine zm ?_; refine zp (q_nil rfl rfl rfl) ?_; refine zf ?_; refine zl ?_; refine zf ?_; refine zl ?_; refine zf ?_; refine zl ?_
 refine zp (q_build rfl rfl rfl) ?_
 change FK _ _ _ _ _ _
 refine f_alloc hN rfl rfl rfl rfl rfl rfl rfl ?_; change AOps _ _ _ _ _ _; refine zC ?_; refine zN ?_; refine awp_seq ?_
 refine awp_draw 11 (by kernel_rfl) (by kernel_rfl) ?_; refine zm ?_; refine zp (q_nil rfl rfl rfl) ?_; refine zf ?_; refine zl ?_; refine zm ?_
 refine zp (q_nil rfl rfl rfl) ?_; refine zf ?_; refine zl ?_; refine zf ?_; refine zl ?_
 refine zp (q_call (rLeqJ_fc l v b.v (sv.up (by omega))) rfl rfl rfl) ?_; change AOps _ _ _ _ _ _; refine zT ?_; refine awp_seq ?_
 refine awp_draw 14 (by kernel_rfl) (by kernel_rfl) ?_; refine zm ?_; refine zm ?_; refine zp (q_nil rfl rfl rfl) ?_; refine zf ?_; refine zl ?_
 refine zm ?_; refine zp (q_nil rfl rfl rfl) ?_; refine zf ?_; refine zl ?_; refine zf ?_; refine zl ?_
 refine zp (q_call (rjoin_fc l v b.v hc hv hbe (show n + 40 ≤ 1000000 by omega) sv sb) rfl rfl rfl) ?_; refine zp (q_nil rfl rfl rfl) ?_; refine zf ?_
 change AOps _ _ _ _ _ _; refine zC ?_; refine zN ?_; refine zH ?_; refine zM ?_; refine zP (q_not rfl rfl) ?_; refine zN ?_
 refine zq ?_ ?_ <;> intro h49
 ·
  have h6 : leqJ l v b.v = false := by simpa using h49
  refine awp_orders 8 rfl (by kernel_rfl) ?_
  refine ao_all [0, 4] (by kernel_rfl) rfl ⟨.inl (ao_py rfl ?_), .inl (ao_py rfl ?_), trivial⟩
  ·
   refine zm ?_
   change AO _ _ _ _ _ _ _ _
   refine ao_all [1, 4] (by kernel_rfl) rfl ⟨.inl (ao_py rfl ?_), .inl (ao_py rfl ?_), trivial⟩
   ·
    refine zp (q_nil rfl rfl rfl) ?_
    change AO _ _ _ _ _ _ _ _
    refine ao_all [2, 4] (by kernel_rfl) rfl ⟨.inl (ao_py rfl ?_), .inl (ao_py rfl ?_), trivial⟩
    ·
     refine zf ?_
     change AO _ _ _ _ _ _ _ _
     refine ao_all [3, 4] (by kernel_rfl) rfl ⟨.inl (ao_py rfl ?_), .inl (ao_py rfl ?_), trivial⟩
     ·
      refine zl ?_
      change AO _ _ _ _ _ _ _ _
      refine ao_all [4] (by kernel_rfl) rfl ⟨.inl (ao_py rfl ?_), trivial⟩
      refine zf ?_
      change AO _ _ _ _ _ _ _ _
      refine ao_all [5] (by kernel_rfl) rfl ⟨.inr (ao_store rfl rfl rfl rfl rfl rfl rfl (Nat.le_of_ble_eq_true rfl) rfl rfl rfl rfl ?_), trivial⟩
      change AO _ _ _ _ _ _ _ _
      refine ao_all [6] (by kernel_rfl) rfl ⟨.inl (ao_py rfl ?_), trivial⟩
      refine zf ?_
      change AO _ _ _ _ _ _ _ _
      refine ao_all [7] (by kernel_rfl) rfl ⟨.inr (ao_store rfl rfl rfl rfl rfl rfl rfl (Nat.le_of_ble_eq_true rfl) rfl rfl rfl rfl ?_), trivial⟩
      change AO _ _ _ _ _ _ _ _
      refine ao_done (by kernel_rfl) ?_; change AWP _ _ _ _ _; refine zG ?_; refine zL ?_; refine zC ?_; refine zT ?_; refine awp_ret ?_
      change (resY _ _).bind AV.fzt = some _ ∧ _
      refine ret_g1r rfl ?_ rfl ?_ rfl
      all_goals rw [recvA, if_neg (by rw [hbad]; decide)]
      all_goals first | rw [if_pos h6] | rw [if_neg (by rw [h6]; decide)]
      all_goals rfl
     refine zf ?_
     change AO _ _ _ _ _ _ _ _
     refine ao_all [3, 5] (by kernel_rfl) rfl ⟨.inl (ao_py rfl ?_), .inr (ao_store rfl rfl rfl rfl rfl rfl rfl (Nat.le_of_ble_eq_true rfl) rfl rfl rfl rfl ?_), trivial⟩
     ·
      refine zl ?_
      change AO _ _ _ _ _ _ _ _
      refine ao_all [5] (by kernel_rfl) rfl ⟨.inr (ao_store rfl rfl rfl rfl rfl rfl rfl (Nat.le_of_ble_eq_true rfl) rfl rfl rfl rfl ?_), trivial⟩
      change AO _ _ _ _ _ _ _ _
      refine ao_all [6] (by kernel_rfl) rfl ⟨.inl (ao_py rfl ?_), trivial⟩
      refine zf ?_
      change AO _ _ _ _ _ _ _ _
      refine ao_all [7] (by kernel_rfl) rfl ⟨.inr (ao_store rfl rfl rfl rfl rfl rfl rfl (Nat.le_of_ble_eq_true rfl) rfl rfl rfl rfl ?_), trivial⟩
      change AO _ _ _ _ _ _ _ _
      refine ao_done (by kernel_rfl) ?_; change AWP _ _ _ _ _; refine zG ?_; refine zL ?_; refine zC ?_; refine zT ?_; refine awp_ret ?_
      change (resY _ _).bind AV.fzt = some _ ∧ _
      refine ret_g1r rfl ?_ rfl ?_ rfl
      all_goals rw [recvA, if_neg (by rw [hbad]; decide)]
      all_goals first | rw [if_pos h6] | rw [if_neg (by rw [h6]; decide)]
      all_goals rfl
     change AO _ _ _ _ _ _ _ _
     refine ao_all [3] (by kernel_rfl) rfl ⟨.inl (ao_py rfl ?_), trivial⟩
     refine zl ?_
     change AO _ _ _ _ _ _ _ _
     refine ao_all [6] (by kernel_rfl) rfl ⟨.inl (ao_py rfl ?_), trivial⟩
     refine zf ?_
     change AO _ _ _ _ _ _ _ _
     refine ao_all [7] (by kernel_rfl) rfl ⟨.inr (ao_store rfl rfl rfl rfl rfl rfl rfl (Nat.le_of_ble_eq_true rfl) rfl rfl rfl rfl ?_), trivial⟩
     change AO _ _ _ _ _ _ _ _
     refine ao_done (by kernel_rfl) ?_; change AWP _ _ _ _ _; refine zG ?_; refine zL ?_; refine zC ?_; refine zT ?_; refine awp_ret ?_
     change (resY _ _).bind AV.fzt = some _ ∧ _
     refine ret_g1r rfl ?_ rfl ?_ rfl
     all_goals rw [recvA, if_neg (by rw [hbad]; decide)]
     all_goals first | rw [if_pos h6] | rw [if_neg (by rw [h6]; decide)]
     all_goals rfl
    refine zf ?_
    change AO _ _ _ _ _ _ _ _
    refine ao_all [2, 5] (by kernel_rfl) rfl ⟨.inl (ao_py rfl ?_), .inr (ao_store rfl rfl rfl rfl rfl rfl rfl (Nat.le_of_ble_eq_true rfl) rfl rfl rfl rfl ?_), trivial⟩
    ·
     refine zf ?_
     change AO _ _ _ _ _ _ _ _
     refine ao_all [3, 5] (by kernel_rfl) rfl ⟨.inl (ao_py rfl ?_), .inr (ao_store rfl rfl rfl rfl rfl rfl rfl (Nat.le_of_ble_eq_true rfl) rfl rfl rfl rfl ?_), trivial⟩
     ·
      refine zl ?_
      change AO _ _ _ _ _ _ _ _
      refine ao_all [5] (by kernel_rfl) rfl ⟨.inr (ao_store rfl rfl rfl rfl rfl rfl rfl (Nat.le_of_ble_eq_true rfl) rfl rfl rfl rfl ?_), trivial⟩
      change AO _ _ _ _ _ _ _ _
      refine ao_all [6] (by kernel_rfl) rfl ⟨.inl (ao_py rfl ?_), trivial⟩
      refine zf ?_
      change AO _ _ _ _ _ _ _ _
      refine ao_all [7] (by kernel_rfl) rfl ⟨.inr (ao_store rfl rfl rfl rfl rfl rfl rfl (Nat.le_of_ble_eq_true rfl) rfl rfl rfl rfl ?_), trivial⟩
      change AO _ _ _ _ _ _ _ _
      refine ao_done (by kernel_rfl) ?_; change AWP _ _ _ _ _; refine zG ?_; refine zL ?_; refine zC ?_; refine zT ?_; refine awp_ret ?_
      change (resY _ _).bind AV.fzt = some _ ∧ _
      refine ret_g1r rfl ?_ rfl ?_ rfl
      all_goals rw [recvA, if_neg (by rw [hbad]; decide)]
      all_goals first | rw [if_pos h6] | rw [if_neg (by rw [h6]; decide)]
      all_goals rfl
     change AO _ _ _ _ _ _ _ _
     refine ao_all [3] (by kernel_rfl) rfl ⟨.inl (ao_py rfl ?_), trivial⟩
     refine zl ?_
     change AO _ _ _ _ _ _ _ _
     refine ao_all [6] (by kernel_rfl) rfl ⟨.inl (ao_py rfl ?_), trivial⟩
     refine zf ?_
     change AO _ _ _ _ _ _ _ _
     refine ao_all [7] (by kernel_rfl) rfl ⟨.inr (ao_store rfl rfl rfl rfl rfl rfl rfl (Nat.le_of_ble_eq_true rfl) rfl rfl rfl rfl ?_), trivial⟩
     change AO _ _ _ _ _ _ _ _
     refine ao_done (by kernel_rfl) ?_; change AWP _ _ _ _ _; refine zG ?_; refine zL ?_; refine zC ?_; refine zT ?_; refine awp_ret ?_
     change (resY _ _).bind AV.fzt = some _ ∧ _
     refine ret_g1r rfl ?_ rfl ?_ rfl
     all_goals rw [recvA, if_neg (by rw [hbad]; decide)]
     all_goals first | rw [if_pos h6] | rw [if_neg (by rw [h6]; decide)]
     all_goals rfl
    change AO _ _ _ _ _ _ _ _
    refine ao_all [2] (by kernel_rfl) rfl ⟨.inl (ao_py rfl ?_), trivial⟩
    refine zf ?_
    change AO _ _ _ _ _ _ _ _
    refine ao_all [3] (by kernel_rfl) rfl ⟨.inl (ao_py rfl ?_), trivial⟩
    refine zl ?_
    change AO _ _ _ _ _ _ _ _
    refine ao_all [6] (by kernel_rfl) rfl ⟨.inl (ao_py rfl ?_), trivial⟩
    refine zf ?_
    change AO _ _ _ _ _ _ _ _
    refine ao_all [7] (by kernel_rfl) rfl ⟨.inr (ao_store rfl rfl rfl rfl rfl rfl rfl (Nat.le_of_ble_eq_true rfl) rfl rfl rfl rfl ?_), trivial⟩
    change AO _ _ _ _ _ _ _ _
    refine ao_done (by kernel_rfl) ?_; change AWP _ _ _ _ _; refine zG ?_; refine zL ?_; refine zC ?_; refine zT ?_; refine awp_ret ?_
    change (resY _ _).bind AV.fzt = some _ ∧ _
    refine ret_g1r rfl ?_ rfl ?_ rfl
    all_goals rw [recvA, if_neg (by rw [hbad]; decide)]
    all_goals first | rw [if_pos h6] | rw [if_neg (by rw [h6]; decide)]
    all_goals rfl
   refine zf ?_
   change AO _ _ _ _ _ _ _ _
   refine ao_all [1, 5] (by kernel_rfl) rfl ⟨.inl (ao_py rfl ?_), .inr (ao_store rfl rfl rfl rfl rfl rfl rfl (Nat.le_of_ble_eq_true rfl) rfl rfl rfl rfl ?_), trivial⟩
   ·
    refine zp (q_nil rfl rfl rfl) ?_
    change AO _ _ _ _ _ _ _ _
    refine ao_all [2, 5] (by kernel_rfl) rfl ⟨.inl (ao_py rfl ?_), .inr (ao_store rfl rfl rfl rfl rfl rfl rfl (Nat.le_of_ble_eq_true rfl) rfl rfl rfl rfl ?_), trivial⟩
    ·
     refine zf ?_
     change AO _ _ _ _ _ _ _ _
     refine ao_all [3, 5] (by kernel_rfl) rfl ⟨.inl (ao_py rfl ?_), .inr (ao_store rfl rfl rfl rfl rfl rfl rfl (Nat.le_of_ble_eq_true rfl) rfl rfl rfl rfl ?_), trivial⟩
     ·
      refine zl ?_
      change AO _ _ _ _ _ _ _ _
      refine ao_all [5] (by kernel_rfl) rfl ⟨.inr (ao_store rfl rfl rfl rfl rfl rfl rfl (Nat.le_of_ble_eq_true rfl) rfl rfl rfl rfl ?_), trivial⟩
      change AO _ _ _ _ _ _ _ _
      refine ao_all [6] (by kernel_rfl) rfl ⟨.inl (ao_py rfl ?_), trivial⟩
      refine zf ?_
      change AO _ _ _ _ _ _ _ _
      refine ao_all [7] (by kernel_rfl) rfl ⟨.inr (ao_store rfl rfl rfl rfl rfl rfl rfl (Nat.le_of_ble_eq_true rfl) rfl rfl rfl rfl ?_), trivial⟩
      change AO _ _ _ _ _ _ _ _
      refine ao_done (by kernel_rfl) ?_; change AWP _ _ _ _ _; refine zG ?_; refine zL ?_; refine zC ?_; refine zT ?_; refine awp_ret ?_
      change (resY _ _).bind AV.fzt = some _ ∧ _
      refine ret_g1r rfl ?_ rfl ?_ rfl
      all_goals rw [recvA, if_neg (by rw [hbad]; decide)]
      all_goals first | rw [if_pos h6] | rw [if_neg (by rw [h6]; decide)]
      all_goals rfl
     change AO _ _ _ _ _ _ _ _
     refine ao_all [3] (by kernel_rfl) rfl ⟨.inl (ao_py rfl ?_), trivial⟩
     refine zl ?_
     change AO _ _ _ _ _ _ _ _
     refine ao_all [6] (by kernel_rfl) rfl ⟨.inl (ao_py rfl ?_), trivial⟩
     refine zf ?_
     change AO _ _ _ _ _ _ _ _
     refine ao_all [7] (by kernel_rfl) rfl ⟨.inr (ao_store rfl rfl rfl rfl rfl rfl rfl (Nat.le_of_ble_eq_true rfl) rfl rfl rfl rfl ?_), trivial⟩
     change AO _ _ _ _ _ _ _ _
     refine ao_done (by kernel_rfl) ?_; change AWP _ _ _ _ _; refine zG ?_; refine zL ?_; refine zC ?_; refine zT ?_; refine awp_ret ?_
     change (resY _ _).bind AV.fzt = some _ ∧ _
     refine ret_g1r rfl ?_ rfl ?_ rfl
     all_goals rw [recvA, if_neg (by rw [hbad]; decide)]
     all_goals first | rw [if_pos h6] | rw [if_neg (by rw [h6]; decide)]
     all_goals rfl
    change AO _ _ _ _ _ _ _ _
    refine ao_all [2] (by kernel_rfl) rfl ⟨.inl (ao_py rfl ?_), trivial⟩
    refine zf ?_
    change AO _ _ _ _ _ _ _ _
    refine ao_all [3] (by kernel_rfl) rfl ⟨.inl (ao_py rfl ?_), trivial⟩
    refine zl ?_
    change AO _ _ _ _ _ _ _ _
    refine ao_all [6] (by kernel_rfl) rfl ⟨.inl (ao_py rfl ?_), trivial⟩
    refine zf ?_
    change AO _ _ _ _ _ _ _ _
    refine ao_all [7] (by kernel_rfl) rfl ⟨.inr (ao_store rfl rfl rfl rfl rfl rfl rfl (Nat.le_of_ble_eq_true rfl) rfl rfl rfl rfl ?_), trivial⟩
    change AO _ _ _ _ _ _ _ _
    refine ao_done (by kernel_rfl) ?_; change AWP _ _ _ _ _; refine zG ?_; refine zL ?_; refine zC ?_; refine zT ?_; refine awp_ret ?_
    change (resY _ _).bind AV.fzt = some _ ∧ _
    refine ret_g1r rfl ?_ rfl ?_ rfl
    all_goals rw [recvA, if_neg (by rw [hbad]; decide)]
    all_goals first | rw [if_pos h6] | rw [if_neg (by rw [h6]; decide)]
    all_goals rfl
   change AO _ _ _ _ _ _ _ _
   refine ao_all [1] (by kernel_rfl) rfl ⟨.inl (ao_py rfl ?_), trivial⟩
   refine zp (q_nil rfl rfl rfl) ?_
   change AO _ _ _ _ _ _ _ _
   refine ao_all [2] (by kernel_rfl) rfl ⟨.inl (ao_py rfl ?_), trivial⟩
   refine zf ?_
   change AO _ _ _ _ _ _ _ _
   refine ao_all [3] (by kernel_rfl) rfl ⟨.inl (ao_py rfl ?_), trivial⟩
   refine zl ?_
   change AO _ _ _ _ _ _ _ _
   refine ao_all [6] (by kernel_rfl) rfl ⟨.inl (ao_py rfl ?_), trivial⟩
   refine zf ?_
   change AO _ _ _ _ _ _ _ _
   refine ao_all [7] (by kernel_rfl) rfl ⟨.inr (ao_store rfl rfl rfl rfl rfl rfl rfl (Nat.le_of_ble_eq_true rfl) rfl rfl rfl rfl ?_), trivial⟩
   change AO _ _ _ _ _ _ _ _
   refine ao_done (by kernel_rfl) ?_; change AWP _ _ _ _ _; refine zG ?_; refine zL ?_; refine zC ?_; refine zT ?_; refine awp_ret ?_
   change (resY _ _).bind AV.fzt = some _ ∧ _
   refine ret_g1r rfl ?_ rfl ?_ rfl
   all_goals rw [recvA, if_neg (by rw [hbad]; decide)]
   all_goals first | rw [if_pos h6] | rw [if_neg (by rw [h6]; decide)]
   all_goals rfl
  refine zf ?_
  change AO _ _ _ _ _ _ _ _
  refine ao_all [0, 5] (by kernel_rfl) rfl ⟨.inl (ao_py rfl ?_), .inr (ao_store rfl rfl rfl rfl rfl rfl rfl (Nat.le_of_ble_eq_true rfl) rfl rfl rfl rfl ?_), trivial⟩
  ·
   refine zm ?_
   change AO _ _ _ _ _ _ _ _
   refine ao_all [1, 5] (by kernel_rfl) rfl ⟨.inl (ao_py rfl ?_), .inr (ao_store rfl rfl rfl rfl rfl rfl rfl (Nat.le_of_ble_eq_true rfl) rfl rfl rfl rfl ?_), trivial⟩
   ·
    refine zp (q_nil rfl rfl rfl) ?_
    change AO _ _ _ _ _ _ _ _
    refine ao_all [2, 5] (by kernel_rfl) rfl ⟨.inl (ao_py rfl ?_), .inr (ao_store rfl rfl rfl rfl rfl rfl rfl (Nat.le_of_ble_eq_true rfl) rfl rfl rfl rfl ?_), trivial⟩
    ·
     refine zf ?_
     change AO _ _ _ _ _ _ _ _
     refine ao_all [3, 5] (by kernel_rfl) rfl ⟨.inl (ao_py rfl ?_), .inr (ao_store rfl rfl rfl rfl rfl rfl rfl (Nat.le_of_ble_eq_true rfl) rfl rfl rfl rfl ?_), trivial⟩
     ·
      refine zl ?_
      change AO _ _ _ _ _ _ _ _
      refine ao_all [5] (by kernel_rfl) rfl ⟨.inr (ao_store rfl rfl rfl rfl rfl rfl rfl (Nat.le_of_ble_eq_true rfl) rfl rfl rfl rfl ?_), trivial⟩
      change AO _ _ _ _ _ _ _ _
      refine ao_all [6] (by kernel_rfl) rfl ⟨.inl (ao_py rfl ?_), trivial⟩
      refine zf ?_
      change AO _ _ _ _ _ _ _ _
      refine ao_all [7] (by kernel_rfl) rfl ⟨.inr (ao_store rfl rfl rfl rfl rfl rfl rfl (Nat.le_of_ble_eq_true rfl) rfl rfl rfl rfl ?_), trivial⟩
      change AO _ _ _ _ _ _ _ _
      refine ao_done (by kernel_rfl) ?_; change AWP _ _ _ _ _; refine zG ?_; refine zL ?_; refine zC ?_; refine zT ?_; refine awp_ret ?_
      change (resY _ _).bind AV.fzt = some _ ∧ _
      refine ret_g1r rfl ?_ rfl ?_ rfl
      all_goals rw [recvA, if_neg (by rw [hbad]; decide)]
      all_goals first | rw [if_pos h6] | rw [if_neg (by rw [h6]; decide)]
      all_goals rfl
     change AO _ _ _ _ _ _ _ _
     refine ao_all [3] (by kernel_rfl) rfl ⟨.inl (ao_py rfl ?_), trivial⟩
     refine zl ?_
     change AO _ _ _ _ _ _ _ _
     refine ao_all [6] (by kernel_rfl) rfl ⟨.inl (ao_py rfl ?_), trivial⟩
     refine zf ?_
     change AO _ _ _ _ _ _ _ _
     refine ao_all [7] (by kernel_rfl) rfl ⟨.inr (ao_store rfl rfl rfl rfl rfl rfl rfl (Nat.le_of_ble_eq_true rfl) rfl rfl rfl rfl ?_), trivial⟩
     change AO _ _ _ _ _ _ _ _
     refine ao_done (by kernel_rfl) ?_; change AWP _ _ _ _ _; refine zG ?_; refine zL ?_; refine zC ?_; refine zT ?_; refine awp_ret ?_
     change (resY _ _).bind AV.fzt = some _ ∧ _
     refine ret_g1r rfl ?_ rfl ?_ rfl
     all_goals rw [recvA, if_neg (by rw [hbad]; decide)]
     all_goals first | rw [if_pos h6] | rw [if_neg (by rw [h6]; decide)]
     all_goals rfl
    change AO _ _ _ _ _ _ _ _
    refine ao_all [2] (by kernel_rfl) rfl ⟨.inl (ao_py rfl ?_), trivial⟩
    refine zf ?_
    change AO _ _ _ _ _ _ _ _
    refine ao_all [3] (by kernel_rfl) rfl ⟨.inl (ao_py rfl ?_), trivial⟩
    refine zl ?_
    change AO _ _ _ _ _ _ _ _
    refine ao_all [6] (by kernel_rfl) rfl ⟨.inl (ao_py rfl ?_), trivial⟩
    refine zf ?_
    change AO _ _ _ _ _ _ _ _
    refine ao_all [7] (by kernel_rfl) rfl ⟨.inr (ao_store rfl rfl rfl rfl rfl rfl rfl (Nat.le_of_ble_eq_true rfl) rfl rfl rfl rfl ?_), trivial⟩
    change AO _ _ _ _ _ _ _ _
    refine ao_done (by kernel_rfl) ?_; change AWP _ _ _ _ _; refine zG ?_; refine zL ?_; refine zC ?_; refine zT ?_; refine awp_ret ?_
    change (resY _ _).bind AV.fzt = some _ ∧ _
    refine ret_g1r rfl ?_ rfl ?_ rfl
    all_goals rw [recvA, if_neg (by rw [hbad]; decide)]
    all_goals first | rw [if_pos h6] | rw [if_neg (by rw [h6]; decide)]
    all_goals rfl
   change AO _ _ _ _ _ _ _ _
   refine ao_all [1] (by kernel_rfl) rfl ⟨.inl (ao_py rfl ?_), trivial⟩
   refine zp (q_nil rfl rfl rfl) ?_
   change AO _ _ _ _ _ _ _ _
   refine ao_all [2] (by kernel_rfl) rfl ⟨.inl (ao_py rfl ?_), trivial⟩
   refine zf ?_
   change AO _ _ _ _ _ _ _ _
   refine ao_all [3] (by kernel_rfl) rfl ⟨.inl (ao_py rfl ?_), trivial⟩
   refine zl ?_
   change AO _ _ _ _ _ _ _ _
   refine ao_all [6] (by kernel_rfl) rfl ⟨.inl (ao_py rfl ?_), trivial⟩
   refine zf ?_
   change AO _ _ _ _ _ _ _ _
   refine ao_all [7] (by kernel_rfl) rfl ⟨.inr (ao_store rfl rfl rfl rfl rfl rfl rfl (Nat.le_of_ble_eq_true rfl) rfl rfl rfl rfl ?_), trivial⟩
   change AO _ _ _ _ _ _ _ _
   refine ao_done (by kernel_rfl) ?_; change AWP _ _ _ _ _; refine zG ?_; refine zL ?_; refine zC ?_; refine zT ?_; refine awp_ret ?_
   change (resY _ _).bind AV.fzt = some _ ∧ _
   refine ret_g1r rfl ?_ rfl ?_ rfl
   all_goals rw [recvA, if_neg (by rw [hbad]; decide)]
   all_goals first | rw [if_pos h6] | rw [if_neg (by rw [h6]; decide)]
   all_goals rfl
  change AO _ _ _ _ _ _ _ _
  refine ao_all [0] (by kernel_rfl) rfl ⟨.inl (ao_py rfl ?_), trivial⟩
  refine zm ?_
  change AO _ _ _ _ _ _ _ _
  refine ao_all [1] (by kernel_rfl) rfl ⟨.inl (ao_py rfl ?_), trivial⟩
  refine zp (q_nil rfl rfl rfl) ?_
  change AO _ _ _ _ _ _ _ _
  refine ao_all [2] (by kernel_rfl) rfl ⟨.inl (ao_py rfl ?_), trivial⟩
  refine zf ?_
  change AO _ _ _ _ _ _ _ _
  refine ao_all [3] (by kernel_rfl) rfl ⟨.inl (ao_py rfl ?_), trivial⟩
  refine zl ?_
  change AO _ _ _ _ _ _ _ _
  refine ao_all [6] (by kernel_rfl) rfl ⟨.inl (ao_py rfl ?_), trivial⟩
  refine zf ?_
  change AO _ _ _ _ _ _ _ _
  refine ao_all [7] (by kernel_rfl) rfl ⟨.inr (ao_store rfl rfl rfl rfl rfl rfl rfl (Nat.le_of_ble_eq_true rfl) rfl rfl rfl rfl ?_), trivial⟩
  change AO _ _ _ _ _ _ _ _
  refine ao_done (by kernel_rfl) ?_; change AWP _ _ _ _ _; refine zG ?_; refine zL ?_; refine zC ?_; refine zT ?_; refine awp_ret ?_
  change (resY _ _).bind AV.fzt = some _ ∧ _
  refine ret_g1r rfl ?_ rfl ?_ rfl
  all_goals rw [recvA, if_neg (by rw [hbad]; decide)]
  all_goals first | rw [if_pos h6] | rw [if_neg (by rw [h6]; decide)]
  all_goals rfl
 have h6 : leqJ l v b.v = true := by simpa using h49
 refine zW ?_; refine zG ?_; refine zL ?_; refine zC ?_; refine zT ?_; refine awp_ret ?_
 change (resY _ _).bind AV.fzt = some _ ∧ _
 refine ret_g1r rfl ?_ rfl ?_ rfl
 all_goals rw [recvA, if_neg (by rw [hbad]; decide)]
 all_goals first | rw [if_pos h6] | rw [if_neg (by rw [h6]; decide)]
 all_goals rfl
set_option maxRecDepth 100000 in
set_option maxHeartbeats 1000000 in
theorem set34_fc (l : List Nm) : FC Tryz.prog 41 [svs l] (.agg (valL (.mk 0 l [] []))) := by
 refine fc_of_awpR [.c 2 41 4 true] ⟨⟨inferInstance, rfl⟩, trivial⟩ Tryz.func41 rfl rfl 5 Tryz.ntmps41 (Nat.le_of_ble_eq_true rfl) ?_
 intro E hN
 refine zG ?_; refine zO ?_; refine zA ?_; refine zM ?_; refine zP (q_build rfl rfl rfl) ?_; refine zC ?_; refine zN ?_; refine awp_ret ?_
 change (resY _ _).bind AV.fzt = some _
 refine ret_r rfl ?_
 rfl
end Go.Proofs.YtnjmbgnaplomaaaGreat
