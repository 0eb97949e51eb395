/-
  Contracts: the laws JoinLeast and JoinAlgebra.
-/
import Derived.Test.YtciojbjoijedjaaGreatB18
import Derived.Test.YtciojbjoijedjaaGreatB21
namespace Go.Proofs.YtciojbjoijedjaaGreat
open Go.RowKit
theorem validV_el {l : Lat} {v : Val} (hc : checkX l = 0) (hv : elemB v l = true) : validV l v = true := by unfold validV; rw [hc, hv]; rfl
theorem validL_small {l : Lat} {vs : List Val} (h : validL l vs = true) : ∀ v ∈ vs, SmV 40 v := fun v hv => sm_small ((validL_ok h).2.2 v hv).2
set_option maxRecDepth 100000 in
set_option maxHeartbeats 1000000 in
theorem both_fc (l : Lat) (a b : Val) (hc : checkX l = 0) (ha : elemB a l = true) (hb : elemB b l = true) (sa : SmV 1000 a) (sb : SmV 1000 b) : FC Tryz.prog 26 [.agg (latL l), .agg (valL a), .agg (valL b)] (.agg (valL (joinV l a b))) := by
 have cJ : FC Tryz.prog 20 [.agg (latL l), .agg (valL a), .agg (valL b)] (.tup [.agg (valL (joinV l a b)), i64 0]) := by
  have h := Join_fc l a b (fun _ => fold_ok (check_ok hc) (by simp [ha, hb, sa, sb]) (by simp))
  rw [joinAllV_of (checkJ_of hc (by simp [ha, hb])) (fold_two (check_ok hc) ha)] at h
  exact h
 refine fc_of_awpR [.c 6 30 4 true] ⟨⟨inferInstance, rfl⟩, trivial⟩ Tryz.func26 rfl rfl 21 Tryz.ntmps26 (Nat.le_of_ble_eq_true rfl) ?_
 intro E hN
 refine zG ?_
 refine zX hN ?_
 refine zX hN ?_
 refine zX hN ?_
 refine zO hN ?_
 refine zA ?_
 refine zL hN ?_
 refine zL hN ?_
 refine zL hN ?_
 refine zP hN (q_call cJ rfl rfl rfl) ?_
 refine zM hN ?_
 refine zP hN (q_extract rfl rfl rfl) ?_
 refine zP hN (q_extract rfl rfl rfl) ?_
 refine zO hN ?_
 refine zC ?_
 refine zS hN ?_
 refine zN ?_
 refine awp_seq ?_
 refine zG ?_
 refine zM hN ?_
 refine zP hN (q_binb (b := false) rfl rfl rfl rfl) ?_
 refine zN ?_
 refine c_false rfl rfl ?_
 refine awp_skip ?_
 change AWP _ _ _ _ _
 refine zG ?_
 refine zL hN ?_
 refine zC ?_
 refine zN ?_
 refine awp_ret ?_
 change (resY _ _).bind AV.fzt = some _
 refine ret_r rfl ?_
 rfl
set_option maxRecDepth 100000 in
set_option maxHeartbeats 1000000 in
theorem lawLeast_fc (l : Lat) (a b c : Val) : FC Tryz.prog 6 [.agg (latL l), .agg (valL a), .agg (valL b), .agg (valL c)] (bl true) := by
 refine fc_of_awp [8] Tryz.func6 rfl rfl 59 Tryz.ntmps6 (Nat.le_of_ble_eq_true rfl) ?_
 intro E hN
 refine zG ?_
 refine zX hN ?_
 refine zX hN ?_
 refine zX hN ?_
 refine zX hN ?_
 refine zS hN ?_
 refine zN ?_
 refine awp_seq ?_
 refine zG ?_
 refine zP hN (q_call awake_fc rfl rfl rfl) ?_
 refine zP hN (q_not rfl rfl) ?_
 refine zN ?_
 refine c_false rfl rfl ?_
 refine awp_skip ?_
 change AWP _ _ _ _ _
 refine awp_seq ?_
 refine zG ?_
 refine zL hN ?_
 refine zL hN ?_
 refine zL hN ?_
 refine zL hN ?_
 refine zP hN (q_bslice2 rfl rfl rfl rfl (by exact rfl) (by decide) (by decide) (vals_3 a b c)) ?_
 refine zP hN (q_call (lvalid_fc l [a, b, c]) rfl rfl rfl) ?_
 refine zP hN (q_not rfl rfl) ?_
 refine zN ?_
 refine c_cond rfl (fun h14 => ?_) (fun h14 => ?_)
 ·
  have h3 := h14
  refine zG ?_
  refine zS hN ?_
  refine zQ ?_
  rfl
 ·
  have hV := on_of (n0 h14)
  have hS := validL_small (n0 h14)
  have L := join_lub l (check_ok hV.hc) a b hV.ha hV.hb
  refine awp_skip ?_
  change AWP _ _ _ _ _
  refine zG ?_
  refine zL hN ?_
  refine zL hN ?_
  refine zL hN ?_
  refine zP hN (q_call (both_fc l a b hV.hc hV.ha hV.hb ((hS a (by simp)).up (by decide)) ((hS b (by simp)).up (by decide))) rfl rfl rfl) ?_
  refine zO hN ?_
  refine zC ?_
  refine zN ?_
  refine awp_seq ?_
  refine zG ?_
  refine zL hN ?_
  refine zL hN ?_
  refine zP hN (q_call (fcb (validV_fc l (joinV l a b)) (validV_el hV.hc L.el)) rfl rfl rfl) ?_
  refine zP hN (q_not rfl rfl) ?_
  refine zM hN ?_
  refine zL hN ?_
  refine zL hN ?_
  refine zL hN ?_
  refine zP hN (q_call (fcb (leqJ_fc l a (joinV l a b)) ((leqJ_on hV.hc hV.ha L.el).trans L.le1)) rfl rfl rfl) ?_
  refine zP hN (q_not rfl rfl) ?_
  refine zP hN (q_pick0 rfl rfl rfl rfl) ?_
  refine zM hN ?_
  refine zL hN ?_
  refine zL hN ?_
  refine zL hN ?_
  refine zP hN (q_call (fcb (leqJ_fc l b (joinV l a b)) ((leqJ_on hV.hc hV.hb L.el).trans L.le2)) rfl rfl rfl) ?_
  refine zP hN (q_not rfl rfl) ?_
  refine zP hN (q_pick0 rfl rfl rfl rfl) ?_
  refine zN ?_
  refine c_false rfl rfl ?_
  refine awp_skip ?_
  change AWP _ _ _ _ _
  refine zG ?_
  refine zL hN ?_
  refine zL hN ?_
  refine zL hN ?_
  refine zP hN (q_call (leqJ_fc l a c) rfl rfl rfl) ?_
  refine zP hN (q_not rfl rfl) ?_
  refine zM hN ?_
  refine s_case 46 rfl (fun h32 => ?_) (fun h32 => ?_)
  ·
   refine s_skip hN rfl (w10 (m0 (n1 h32))) rfl rfl ?_
   refine s_skip hN rfl (w10 (m0 (n1 h32))) rfl rfl ?_
   refine s_skip hN rfl (w10 (m0 (n1 h32))) rfl rfl ?_
   refine s_skip hN rfl (w10 (m0 (n1 h32))) rfl rfl ?_
   refine s_skip hN rfl (w10 (m0 (n1 h32))) rfl rfl ?_
   refine zP hN (q_pick1 rfl rfl (m0 (n1 h32)) rfl) ?_
   refine zM hN ?_
   refine zK hN ?_
   refine zK hN ?_
   refine zK hN ?_
   refine zK hN ?_
   refine zP hN (q_pick1 rfl rfl rfl rfl) ?_
   refine zS hN ?_
   refine zQ ?_
   first | rfl | exact retB (by rw [leqJ_on hV.hc hV.ha hV.hd] at h1; rw [leqJ_on hV.hc hV.hb hV.hd] at h2; rw [leqJ_on hV.hc L.el hV.hd]; exact L.least c hV.hd h1 h2)
  ·
   have h1 := n0 h32
   refine s_py hN (q_load rfl rfl rfl rfl rfl) rfl (w00 (m1 (n0 h32))) rfl rfl ?_
   refine s_py hN (q_load rfl rfl rfl rfl rfl) rfl (w00 (m1 (n0 h32))) rfl rfl ?_
   refine s_py hN (q_load rfl rfl rfl rfl rfl) rfl (w00 (m1 (n0 h32))) rfl rfl ?_
   refine s_py hN (q_call (leqJ_fc l b c) rfl rfl rfl) rfl (w00 (m1 (n0 h32))) rfl rfl ?_
   refine s_py hN (q_not rfl rfl) rfl (w00 (m1 (n0 h32))) rfl rfl ?_
   refine zP hN (q_pick0 rfl rfl (m1 (n0 h32)) rfl) ?_
   refine zM hN ?_
   refine s_case 53 rfl (fun h36 => ?_) (fun h36 => ?_)
   ·
    refine s_skip hN rfl (w10 (m0 (n1 h36))) rfl rfl ?_
    refine s_skip hN rfl (w10 (m0 (n1 h36))) rfl rfl ?_
    refine s_skip hN rfl (w10 (m0 (n1 h36))) rfl rfl ?_
    refine s_skip hN rfl (w10 (m0 (n1 h36))) rfl rfl ?_
    refine zP hN (q_pick1 rfl rfl (m0 (n1 h36)) rfl) ?_
    refine zS hN ?_
    refine zQ ?_
    first | rfl | exact retB (by rw [leqJ_on hV.hc hV.ha hV.hd] at h1; rw [leqJ_on hV.hc hV.hb hV.hd] at h2; rw [leqJ_on hV.hc L.el hV.hd]; exact L.least c hV.hd h1 h2)
   ·
    have h2 := n0 h36
    refine s_py hN (q_load rfl rfl rfl rfl rfl) rfl (w00 (m1 (n0 h36))) rfl rfl ?_
    refine s_py hN (q_load rfl rfl rfl rfl rfl) rfl (w00 (m1 (n0 h36))) rfl rfl ?_
    refine s_py hN (q_load rfl rfl rfl rfl rfl) rfl (w00 (m1 (n0 h36))) rfl rfl ?_
    refine s_py hN (q_call (leqJ_fc l (joinV l a b) c) rfl rfl rfl) rfl (w00 (m1 (n0 h36))) rfl rfl ?_
    refine zP hN (q_pick0 rfl rfl (m1 (n0 h36)) rfl) ?_
    refine zS hN ?_
    refine zQ ?_
    first | rfl | exact retB (by rw [leqJ_on hV.hc hV.ha hV.hd] at h1; rw [leqJ_on hV.hc hV.hb hV.hd] at h2; rw [leqJ_on hV.hc L.el hV.hd]; exact L.least c hV.hd h1 h2)
set_option maxRecDepth 100000 in
set_option maxHeartbeats 1000000 in
theorem lawAlgebra_fc (l : Lat) (a b c : Val) : FC Tryz.prog 8 [.agg (latL l), .agg (valL a), .agg (valL b), .agg (valL c)] (bl true) := by
 refine fc_of_awp [8] Tryz.func8 rfl rfl 61 Tryz.ntmps8 (Nat.le_of_ble_eq_true rfl) ?_
 intro E hN
 refine zG ?_
 refine zX hN ?_
 refine zX hN ?_
 refine zX hN ?_
 refine zX hN ?_
 refine zS hN ?_
 refine zN ?_
 refine awp_seq ?_
 refine zG ?_
 refine zP hN (q_call awake_fc rfl rfl rfl) ?_
 refine zP hN (q_not rfl rfl) ?_
 refine zN ?_
 refine c_false rfl rfl ?_
 refine awp_skip ?_
 change AWP _ _ _ _ _
 refine awp_seq ?_
 refine zG ?_
 refine zL hN ?_
 refine zL hN ?_
 refine zL hN ?_
 refine zL hN ?_
 refine zP hN (q_bslice2 rfl rfl rfl rfl (by exact rfl) (by decide) (by decide) (vals_3 a b c)) ?_
 refine zP hN (q_call (lvalid_fc l [a, b, c]) rfl rfl rfl) ?_
 refine zP hN (q_not rfl rfl) ?_
 refine zN ?_
 refine c_cond rfl (fun h14 => ?_) (fun h14 => ?_)
 ·
  have h3 := h14
  refine zG ?_
  refine zS hN ?_
  refine zQ ?_
  rfl
 ·
  have hV := on_of (n0 h14)
  have hS := validL_small (n0 h14)
  have hO := check_ok hV.hc
  have L := join_lub l hO a b hV.ha hV.hb
  have M := join_lub l hO b c hV.hb hV.hd
  have ta := hS a (by simp)
  have tb := hS b (by simp)
  have tc := hS c (by simp)
  have sab := (sm_join (by decide) l hO a b hV.ha hV.hb ta tb).up (show 40 + 40 ≤ 1000 by decide)
  have sbc := (sm_join (by decide) l hO b c hV.hb hV.hd tb tc).up (show 40 + 40 ≤ 1000 by decide)
  have sa := ta.up (show 40 ≤ 1000 by decide)
  have sb := tb.up (show 40 ≤ 1000 by decide)
  have sc := tc.up (show 40 ≤ 1000 by decide)
  refine awp_skip ?_
  change AWP _ _ _ _ _
  refine zG ?_
  refine zL hN ?_
  refine zL hN ?_
  refine zL hN ?_
  refine zP hN (q_call (both_fc l a b hV.hc hV.ha hV.hb sa sb) rfl rfl rfl) ?_
  refine zO hN ?_
  refine zC ?_
  refine zN ?_
  refine awp_seq ?_
  refine awp_draw 38 (by kernel_rfl) (by kernel_rfl) ?_
  refine zl hN ?_
  refine zl hN ?_
  refine zl hN ?_
  refine zl hN ?_
  refine zp hN (q_call (both_fc l b a hV.hc hV.hb hV.ha sb sa) rfl rfl rfl) ?_
  refine zp hN (q_call (fcb (rEqual_fc (joinV l a b) (joinV l b a)) ((eqV_iff _ _).2 (join_comm hO hV.ha hV.hb))) rfl rfl rfl) ?_
  refine zm hN ?_
  refine zl hN ?_
  refine zl hN ?_
  refine zl hN ?_
  refine zp hN (q_call (both_fc l a a hV.hc hV.ha hV.ha sa sa) rfl rfl rfl) ?_
  refine zl hN ?_
  refine zp hN (q_call (fcb (rEqual_fc (joinV l a a) a) ((eqV_iff _ _).2 (join_idem hO hV.ha))) rfl rfl rfl) ?_
  refine zp hN (q_pick1 rfl rfl rfl rfl) ?_
  refine zm hN ?_
  refine zl hN ?_
  refine zl hN ?_
  refine zl hN ?_
  refine zp hN (q_call (both_fc l (joinV l a b) c hV.hc L.el hV.hd sab sc) rfl rfl rfl) ?_
  refine zl hN ?_
  refine zl hN ?_
  refine zl hN ?_
  refine zl hN ?_
  refine zl hN ?_
  refine zp hN (q_call (both_fc l b c hV.hc hV.hb hV.hd sb sc) rfl rfl rfl) ?_
  refine zp hN (q_call (both_fc l a (joinV l b c) hV.hc hV.ha M.el sa sbc) rfl rfl rfl) ?_
  refine zp hN (q_call (fcb (rEqual_fc (joinV l (joinV l a b) c) (joinV l a (joinV l b c))) ((eqV_iff _ _).2 (join_assoc hO hV.ha hV.hb hV.hd))) rfl rfl rfl) ?_
  refine zp hN (q_pick1 rfl rfl rfl rfl) ?_
  refine zm hN ?_
  refine zl hN ?_
  refine zl hN ?_
  refine zl hN ?_
  refine zp hN (q_call (leqJ_fc l a b) rfl rfl rfl) ?_
  refine zl hN ?_
  refine zl hN ?_
  refine zp hN (q_call (rEqual_fc (joinV l a b) b) rfl rfl rfl) ?_
  refine zp hN (q_binb (b := true) rfl rfl rfl (by rw [leqJ_on hV.hc hV.ha hV.hb]; exact congrArg Value.bool (leq_join hO hV.ha hV.hb))) ?_
  refine zp hN (q_pick1 rfl rfl rfl rfl) ?_
  change AOps _ _ _ _ _ _
  refine zS hN ?_
  refine zQ ?_
  rfl
end Go.Proofs.YtciojbjoijedjaaGreat
