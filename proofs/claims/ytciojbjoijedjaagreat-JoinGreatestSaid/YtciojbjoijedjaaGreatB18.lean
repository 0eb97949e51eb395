/-
  Contracts: the law JoinOrder.
  Contracts: the law JoinGreatest.
-/
import Derived.Test.YtciojbjoijedjaaGreatB16
import Derived.Test.YtciojbjoijedjaaGreatB11
import Derived.Test.YtciojbjoijedjaaGreatB17
namespace Go.Proofs.YtciojbjoijedjaaGreat
open Go.RowKit
theorem validL_ok {l : Lat} {vs : List Val} (h : validL l vs = true) : checkX l = 0 ∧ vs.length ≤ 8 ∧ ∀ v ∈ vs, elemB v l = true ∧ smallV v 40 = true := by
  unfold validL smallL at h
  simp only [Bool.and_eq_true, decide_eq_true_eq, List.all_eq_true, beq_iff_eq, validV] at h
  obtain ⟨⟨⟨h1, h2⟩, h3⟩, h4⟩ := h
  exact ⟨h3, h1, fun v hv => ⟨(h4 v hv).2, h2 v hv⟩⟩
theorem fcb {f : FuncId} {args : List AV} {b c : Bool} (h : FC Tryz.prog f args (bl b)) (e : b = c) : FC Tryz.prog f args (bl c) := e ▸ h
/-- what a valid call of the law knows -/
structure On (l : Lat) (a b c : Val) : Prop where
  hc : checkX l = 0
  ha : elemB a l = true
  hb : elemB b l = true
  hd : elemB c l = true
theorem on_of {l : Lat} {a b c : Val} (h : validL l [a, b, c] = true) : On l a b c := by
  obtain ⟨h1, -, h2⟩ := validL_ok h
  exact ⟨h1, (h2 a (by simp)).1, (h2 b (by simp)).1, (h2 c (by simp)).1⟩
theorem On.refl {l : Lat} {a b c : Val} (h : On l a b c) : leqJ l a a = true := by rw [leqJ_on h.hc h.ha h.ha]; exact leq_refl l (check_ok h.hc) a h.ha
theorem On.anti {l : Lat} {a b c : Val} (h : On l a b c) (h1 : leqJ l a b = true) (h2 : leqJ l b a = true) : eqV a b = true := by
  rw [leqJ_on h.hc h.ha h.hb] at h1
  rw [leqJ_on h.hc h.hb h.ha] at h2
  exact (eqV_iff _ _).2 (leq_anti l (check_ok h.hc) a b h.ha h.hb h1 h2)
theorem On.trans {l : Lat} {a b c : Val} (h : On l a b c) (h1 : leqJ l a b = true) (h2 : leqJ l b c = true) : leqJ l a c = true := by
  rw [leqJ_on h.hc h.ha h.hb] at h1
  rw [leqJ_on h.hc h.hb h.hd] at h2
  rw [leqJ_on h.hc h.ha h.hd]
  exact leq_trans l (check_ok h.hc) a b c h.ha h.hb h.hd h1 h2
set_option maxRecDepth 100000 in
set_option maxHeartbeats 1000000 in
theorem lawOrder_fc (l : Lat) (a b c : Val) : FC Tryz.prog 5 [.agg (latL l), .agg (valL a), .agg (valL b), .agg (valL c)] (bl true) := by
  refine fc_of_awp [8] Tryz.func5 rfl rfl 59 Tryz.ntmps5 (Nat.le_of_ble_eq_true rfl) ?_
  intro E hN
  refine awp_seq ?_
  refine awp_region ?_
  refine s_box hN rfl rfl rfl rfl rfl rfl rfl rfl ?_
  refine s_box hN rfl rfl rfl rfl rfl rfl rfl rfl ?_
  refine s_box hN rfl rfl rfl rfl rfl rfl rfl rfl ?_
  refine s_box hN rfl rfl rfl rfl rfl rfl rfl rfl ?_
  refine s_py hN (q_assign rfl rfl) rfl rfl rfl rfl ?_
  refine aops_nil ?_
  change AWP _ _ _ _ _
  refine awp_seq ?_
  refine awp_seq ?_
  refine awp_region ?_
  refine s_py hN (q_call awake_fc rfl rfl rfl) rfl rfl rfl rfl ?_
  refine s_py hN (q_not rfl rfl) rfl rfl rfl rfl ?_
  refine aops_nil ?_
  change AWP _ _ _ _ _
  refine c_false rfl rfl ?_
  refine awp_skip ?_
  change AWP _ _ _ _ _
  refine awp_seq ?_
  refine awp_seq ?_
  refine awp_region ?_
  refine s_py hN (q_load rfl rfl rfl rfl rfl) rfl rfl rfl rfl ?_
  refine s_py hN (q_load rfl rfl rfl rfl rfl) rfl rfl rfl rfl ?_
  refine s_py hN (q_load rfl rfl rfl rfl rfl) rfl rfl rfl rfl ?_
  refine s_py hN (q_load rfl rfl rfl rfl rfl) rfl rfl rfl rfl ?_
  refine s_py hN (q_bslice2 rfl rfl rfl rfl (by exact rfl) (by decide) (by decide) (vals_3 a b c)) rfl rfl rfl rfl ?_
  refine s_py hN (q_call (lvalid_fc l [a, b, c]) rfl rfl rfl) rfl rfl rfl rfl ?_
  refine s_py hN (q_not rfl rfl) rfl rfl rfl rfl ?_
  refine aops_nil ?_
  change AWP _ _ _ _ _
  refine c_cond rfl (fun h14 => ?_) (fun h14 => ?_)
  ·
    have h3 := h14
    refine awp_seq ?_
    refine awp_region ?_
    refine s_py hN (q_assign rfl rfl) rfl rfl rfl rfl ?_
    refine aops_nil ?_
    change AWP _ _ _ _ _
    refine awp_ret ?_
    change (resX _ _).fzt = some _
    refine ret_of rfl ?_
    rfl
  ·
    have hV := on_of (n0 h14)
    refine awp_skip ?_
    change AWP _ _ _ _ _
    refine awp_seq ?_
    refine awp_seq ?_
    refine awp_region ?_
    refine s_py hN (q_load rfl rfl rfl rfl rfl) rfl rfl rfl rfl ?_
    refine s_py hN (q_load rfl rfl rfl rfl rfl) rfl rfl rfl rfl ?_
    refine s_py hN (q_load rfl rfl rfl rfl rfl) rfl rfl rfl rfl ?_
    refine s_py hN (q_call (fcb (leqJ_fc l a a) hV.refl) rfl rfl rfl) rfl rfl rfl rfl ?_
    refine s_py hN (q_not rfl rfl) rfl rfl rfl rfl ?_
    refine s_py hN (q_move rfl rfl) rfl rfl rfl rfl ?_
    refine s_py hN (q_load rfl rfl rfl rfl rfl) rfl rfl rfl rfl ?_
    refine s_py hN (q_load rfl rfl rfl rfl rfl) rfl rfl rfl rfl ?_
    refine s_py hN (q_load rfl rfl rfl rfl rfl) rfl rfl rfl rfl ?_
    refine s_py hN (q_call (leqJ_fc l a b) rfl rfl rfl) rfl rfl rfl rfl ?_
    refine s_py hN (q_move rfl rfl) rfl rfl rfl rfl ?_
    refine s_case 28 rfl (fun h21 => ?_) (fun h21 => ?_)
    ·
      have hab := h21
      refine s_py hN (q_load rfl rfl rfl rfl rfl) rfl (w11 h21) rfl rfl ?_
      refine s_py hN (q_load rfl rfl rfl rfl rfl) rfl (w11 h21) rfl rfl ?_
      refine s_py hN (q_load rfl rfl rfl rfl rfl) rfl (w11 h21) rfl rfl ?_
      refine s_py hN (q_call (leqJ_fc l b a) rfl rfl rfl) rfl (w11 h21) rfl rfl ?_
      refine s_py hN (q_pick1 rfl rfl h21 rfl) rfl rfl rfl rfl ?_
      refine s_py hN (q_move rfl rfl) rfl rfl rfl rfl ?_
      refine s_case 34 rfl (fun h25 => ?_) (fun h25 => ?_)
      ·
        have hba := h25
        refine s_py hN (q_load rfl rfl rfl rfl rfl) rfl (w11 h25) rfl rfl ?_
        refine s_py hN (q_load rfl rfl rfl rfl rfl) rfl (w11 h25) rfl rfl ?_
        refine s_py hN (q_call (fcb (rEqual_fc a b) (hV.anti hab hba)) rfl rfl rfl) rfl (w11 h25) rfl rfl ?_
        refine s_py hN (q_not rfl rfl) rfl (w11 h25) rfl rfl ?_
        refine s_py hN (q_pick1 rfl rfl h25 rfl) rfl rfl rfl rfl ?_
        refine s_py hN (q_pick0 rfl rfl rfl rfl) rfl rfl rfl rfl ?_
        refine aops_nil ?_
        change AWP _ _ _ _ _
        refine c_false rfl rfl ?_
        refine awp_skip ?_
        change AWP _ _ _ _ _
        refine awp_seq ?_
        refine awp_region ?_
        refine s_py hN (q_load rfl rfl rfl rfl rfl) rfl rfl rfl rfl ?_
        refine s_py hN (q_load rfl rfl rfl rfl rfl) rfl rfl rfl rfl ?_
        refine s_py hN (q_load rfl rfl rfl rfl rfl) rfl rfl rfl rfl ?_
        refine s_py hN (q_call (leqJ_fc l a b) rfl rfl rfl) rfl rfl rfl rfl ?_
        refine s_py hN (q_not rfl rfl) rfl rfl rfl rfl ?_
        refine s_py hN (q_move rfl rfl) rfl rfl rfl rfl ?_
        refine s_case 46 rfl (fun h31 => ?_) (fun h31 => ?_)
        ·
          refine s_skip hN rfl (w10 (m0 (n1 h31))) rfl rfl ?_
          refine s_skip hN rfl (w10 (m0 (n1 h31))) rfl rfl ?_
          refine s_skip hN rfl (w10 (m0 (n1 h31))) rfl rfl ?_
          refine s_skip hN rfl (w10 (m0 (n1 h31))) rfl rfl ?_
          refine s_skip hN rfl (w10 (m0 (n1 h31))) rfl rfl ?_
          refine s_py hN (q_pick1 rfl rfl (m0 (n1 h31)) rfl) rfl rfl rfl rfl ?_
          refine s_py hN (q_move rfl rfl) rfl rfl rfl rfl ?_
          refine s_skip hN rfl rfl rfl rfl ?_
          refine s_skip hN rfl rfl rfl rfl ?_
          refine s_skip hN rfl rfl rfl rfl ?_
          refine s_skip hN rfl rfl rfl rfl ?_
          refine s_py hN (q_pick1 rfl rfl rfl rfl) rfl rfl rfl rfl ?_
          refine s_py hN (q_assign rfl rfl) rfl rfl rfl rfl ?_
          refine aops_nil ?_
          change AWP _ _ _ _ _
          refine awp_ret ?_
          change (resX _ _).fzt = some _
          refine ret_of rfl ?_
          first | rfl | exact retB (hV.trans hab' hbc)
        ·
          have hab' := n0 h31
          refine s_py hN (q_load rfl rfl rfl rfl rfl) rfl (w00 (m1 (n0 h31))) rfl rfl ?_
          refine s_py hN (q_load rfl rfl rfl rfl rfl) rfl (w00 (m1 (n0 h31))) rfl rfl ?_
          refine s_py hN (q_load rfl rfl rfl rfl rfl) rfl (w00 (m1 (n0 h31))) rfl rfl ?_
          refine s_py hN (q_call (leqJ_fc l b c) rfl rfl rfl) rfl (w00 (m1 (n0 h31))) rfl rfl ?_
          refine s_py hN (q_not rfl rfl) rfl (w00 (m1 (n0 h31))) rfl rfl ?_
          refine s_py hN (q_pick0 rfl rfl (m1 (n0 h31)) rfl) rfl rfl rfl rfl ?_
          refine s_py hN (q_move rfl rfl) rfl rfl rfl rfl ?_
          refine s_case 53 rfl (fun h35 => ?_) (fun h35 => ?_)
          ·
            refine s_skip hN rfl (w10 (m0 (n1 h35))) rfl rfl ?_
            refine s_skip hN rfl (w10 (m0 (n1 h35))) rfl rfl ?_
            refine s_skip hN rfl (w10 (m0 (n1 h35))) rfl rfl ?_
            refine s_skip hN rfl (w10 (m0 (n1 h35))) rfl rfl ?_
            refine s_py hN (q_pick1 rfl rfl (m0 (n1 h35)) rfl) rfl rfl rfl rfl ?_
            refine s_py hN (q_assign rfl rfl) rfl rfl rfl rfl ?_
            refine aops_nil ?_
            change AWP _ _ _ _ _
            refine awp_ret ?_
            change (resX _ _).fzt = some _
            refine ret_of rfl ?_
            first | rfl | exact retB (hV.trans hab' hbc)
          ·
            have hbc := n0 h35
            refine s_py hN (q_load rfl rfl rfl rfl rfl) rfl (w00 (m1 (n0 h35))) rfl rfl ?_
            refine s_py hN (q_load rfl rfl rfl rfl rfl) rfl (w00 (m1 (n0 h35))) rfl rfl ?_
            refine s_py hN (q_load rfl rfl rfl rfl rfl) rfl (w00 (m1 (n0 h35))) rfl rfl ?_
            refine s_py hN (q_call (leqJ_fc l a c) rfl rfl rfl) rfl (w00 (m1 (n0 h35))) rfl rfl ?_
            refine s_py hN (q_pick0 rfl rfl (m1 (n0 h35)) rfl) rfl rfl rfl rfl ?_
            refine s_py hN (q_assign rfl rfl) rfl rfl rfl rfl ?_
            refine aops_nil ?_
            change AWP _ _ _ _ _
            refine awp_ret ?_
            change (resX _ _).fzt = some _
            refine ret_of rfl ?_
            first | rfl | exact retB (hV.trans hab' hbc)
      ·
        refine s_skip hN rfl (w01 h25) rfl rfl ?_
        refine s_skip hN rfl (w01 h25) rfl rfl ?_
        refine s_skip hN rfl (w01 h25) rfl rfl ?_
        refine s_skip hN rfl (w01 h25) rfl rfl ?_
        refine s_py hN (q_pick0 rfl rfl h25 rfl) rfl rfl rfl rfl ?_
        refine s_py hN (q_pick0 rfl rfl rfl rfl) rfl rfl rfl rfl ?_
        refine aops_nil ?_
        change AWP _ _ _ _ _
        refine c_false rfl rfl ?_
        refine awp_skip ?_
        change AWP _ _ _ _ _
        refine awp_seq ?_
        refine awp_region ?_
        refine s_py hN (q_load rfl rfl rfl rfl rfl) rfl rfl rfl rfl ?_
        refine s_py hN (q_load rfl rfl rfl rfl rfl) rfl rfl rfl rfl ?_
        refine s_py hN (q_load rfl rfl rfl rfl rfl) rfl rfl rfl rfl ?_
        refine s_py hN (q_call (leqJ_fc l a b) rfl rfl rfl) rfl rfl rfl rfl ?_
        refine s_py hN (q_not rfl rfl) rfl rfl rfl rfl ?_
        refine s_py hN (q_move rfl rfl) rfl rfl rfl rfl ?_
        refine s_case 46 rfl (fun h43 => ?_) (fun h43 => ?_)
        ·
          refine s_skip hN rfl (w10 (m0 (n1 h43))) rfl rfl ?_
          refine s_skip hN rfl (w10 (m0 (n1 h43))) rfl rfl ?_
          refine s_skip hN rfl (w10 (m0 (n1 h43))) rfl rfl ?_
          refine s_skip hN rfl (w10 (m0 (n1 h43))) rfl rfl ?_
          refine s_skip hN rfl (w10 (m0 (n1 h43))) rfl rfl ?_
          refine s_py hN (q_pick1 rfl rfl (m0 (n1 h43)) rfl) rfl rfl rfl rfl ?_
          refine s_py hN (q_move rfl rfl) rfl rfl rfl rfl ?_
          refine s_skip hN rfl rfl rfl rfl ?_
          refine s_skip hN rfl rfl rfl rfl ?_
          refine s_skip hN rfl rfl rfl rfl ?_
          refine s_skip hN rfl rfl rfl rfl ?_
          refine s_py hN (q_pick1 rfl rfl rfl rfl) rfl rfl rfl rfl ?_
          refine s_py hN (q_assign rfl rfl) rfl rfl rfl rfl ?_
          refine aops_nil ?_
          change AWP _ _ _ _ _
          refine awp_ret ?_
          change (resX _ _).fzt = some _
          refine ret_of rfl ?_
          first | rfl | exact retB (hV.trans hab' hbc)
        ·
          have hab' := n0 h43
          refine s_py hN (q_load rfl rfl rfl rfl rfl) rfl (w00 (m1 (n0 h43))) rfl rfl ?_
          refine s_py hN (q_load rfl rfl rfl rfl rfl) rfl (w00 (m1 (n0 h43))) rfl rfl ?_
          refine s_py hN (q_load rfl rfl rfl rfl rfl) rfl (w00 (m1 (n0 h43))) rfl rfl ?_
          refine s_py hN (q_call (leqJ_fc l b c) rfl rfl rfl) rfl (w00 (m1 (n0 h43))) rfl rfl ?_
          refine s_py hN (q_not rfl rfl) rfl (w00 (m1 (n0 h43))) rfl rfl ?_
          refine s_py hN (q_pick0 rfl rfl (m1 (n0 h43)) rfl) rfl rfl rfl rfl ?_
          refine s_py hN (q_move rfl rfl) rfl rfl rfl rfl ?_
          refine s_case 53 rfl (fun h47 => ?_) (fun h47 => ?_)
          ·
            refine s_skip hN rfl (w10 (m0 (n1 h47))) rfl rfl ?_
            refine s_skip hN rfl (w10 (m0 (n1 h47))) rfl rfl ?_
            refine s_skip hN rfl (w10 (m0 (n1 h47))) rfl rfl ?_
            refine s_skip hN rfl (w10 (m0 (n1 h47))) rfl rfl ?_
            refine s_py hN (q_pick1 rfl rfl (m0 (n1 h47)) rfl) rfl rfl rfl rfl ?_
            refine s_py hN (q_assign rfl rfl) rfl rfl rfl rfl ?_
            refine aops_nil ?_
            change AWP _ _ _ _ _
            refine awp_ret ?_
            change (resX _ _).fzt = some _
            refine ret_of rfl ?_
            first | rfl | exact retB (hV.trans hab' hbc)
          ·
            have hbc := n0 h47
            refine s_py hN (q_load rfl rfl rfl rfl rfl) rfl (w00 (m1 (n0 h47))) rfl rfl ?_
            refine s_py hN (q_load rfl rfl rfl rfl rfl) rfl (w00 (m1 (n0 h47))) rfl rfl ?_
            refine s_py hN (q_load rfl rfl rfl rfl rfl) rfl (w00 (m1 (n0 h47))) rfl rfl ?_
            refine s_py hN (q_call (leqJ_fc l a c) rfl rfl rfl) rfl (w00 (m1 (n0 h47))) rfl rfl ?_
            refine s_py hN (q_pick0 rfl rfl (m1 (n0 h47)) rfl) rfl rfl rfl rfl ?_
            refine s_py hN (q_assign rfl rfl) rfl rfl rfl rfl ?_
            refine aops_nil ?_
            change AWP _ _ _ _ _
            refine awp_ret ?_
            change (resX _ _).fzt = some _
            refine ret_of rfl ?_
            first | rfl | exact retB (hV.trans hab' hbc)
    ·
      refine s_skip hN rfl (w01 h21) rfl rfl ?_
      refine s_skip hN rfl (w01 h21) rfl rfl ?_
      refine s_skip hN rfl (w01 h21) rfl rfl ?_
      refine s_skip hN rfl (w01 h21) rfl rfl ?_
      refine s_py hN (q_pick0 rfl rfl h21 rfl) rfl rfl rfl rfl ?_
      refine s_py hN (q_move rfl rfl) rfl rfl rfl rfl ?_
      refine s_skip hN rfl rfl rfl rfl ?_
      refine s_skip hN rfl rfl rfl rfl ?_
      refine s_skip hN rfl rfl rfl rfl ?_
      refine s_skip hN rfl rfl rfl rfl ?_
      refine s_py hN (q_pick0 rfl rfl rfl rfl) rfl rfl rfl rfl ?_
      refine s_py hN (q_pick0 rfl rfl rfl rfl) rfl rfl rfl rfl ?_
      refine aops_nil ?_
      change AWP _ _ _ _ _
      refine c_false rfl rfl ?_
      refine awp_skip ?_
      change AWP _ _ _ _ _
      refine awp_seq ?_
      refine awp_region ?_
      refine s_py hN (q_load rfl rfl rfl rfl rfl) rfl rfl rfl rfl ?_
      refine s_py hN (q_load rfl rfl rfl rfl rfl) rfl rfl rfl rfl ?_
      refine s_py hN (q_load rfl rfl rfl rfl rfl) rfl rfl rfl rfl ?_
      refine s_py hN (q_call (leqJ_fc l a b) rfl rfl rfl) rfl rfl rfl rfl ?_
      refine s_py hN (q_not rfl rfl) rfl rfl rfl rfl ?_
      refine s_py hN (q_move rfl rfl) rfl rfl rfl rfl ?_
      refine s_case 46 rfl (fun h55 => ?_) (fun h55 => ?_)
      ·
        refine s_skip hN rfl (w10 (m0 (n1 h55))) rfl rfl ?_
        refine s_skip hN rfl (w10 (m0 (n1 h55))) rfl rfl ?_
        refine s_skip hN rfl (w10 (m0 (n1 h55))) rfl rfl ?_
        refine s_skip hN rfl (w10 (m0 (n1 h55))) rfl rfl ?_
        refine s_skip hN rfl (w10 (m0 (n1 h55))) rfl rfl ?_
        refine s_py hN (q_pick1 rfl rfl (m0 (n1 h55)) rfl) rfl rfl rfl rfl ?_
        refine s_py hN (q_move rfl rfl) rfl rfl rfl rfl ?_
        refine s_skip hN rfl rfl rfl rfl ?_
        refine s_skip hN rfl rfl rfl rfl ?_
        refine s_skip hN rfl rfl rfl rfl ?_
        refine s_skip hN rfl rfl rfl rfl ?_
        refine s_py hN (q_pick1 rfl rfl rfl rfl) rfl rfl rfl rfl ?_
        refine s_py hN (q_assign rfl rfl) rfl rfl rfl rfl ?_
        refine aops_nil ?_
        change AWP _ _ _ _ _
        refine awp_ret ?_
        change (resX _ _).fzt = some _
        refine ret_of rfl ?_
        first | rfl | exact retB (hV.trans hab' hbc)
      ·
        have hab' := n0 h55
        refine s_py hN (q_load rfl rfl rfl rfl rfl) rfl (w00 (m1 (n0 h55))) rfl rfl ?_
        refine s_py hN (q_load rfl rfl rfl rfl rfl) rfl (w00 (m1 (n0 h55))) rfl rfl ?_
        refine s_py hN (q_load rfl rfl rfl rfl rfl) rfl (w00 (m1 (n0 h55))) rfl rfl ?_
        refine s_py hN (q_call (leqJ_fc l b c) rfl rfl rfl) rfl (w00 (m1 (n0 h55))) rfl rfl ?_
        refine s_py hN (q_not rfl rfl) rfl (w00 (m1 (n0 h55))) rfl rfl ?_
        refine s_py hN (q_pick0 rfl rfl (m1 (n0 h55)) rfl) rfl rfl rfl rfl ?_
        refine s_py hN (q_move rfl rfl) rfl rfl rfl rfl ?_
        refine s_case 53 rfl (fun h59 => ?_) (fun h59 => ?_)
        ·
          refine s_skip hN rfl (w10 (m0 (n1 h59))) rfl rfl ?_
          refine s_skip hN rfl (w10 (m0 (n1 h59))) rfl rfl ?_
          refine s_skip hN rfl (w10 (m0 (n1 h59))) rfl rfl ?_
          refine s_skip hN rfl (w10 (m0 (n1 h59))) rfl rfl ?_
          refine s_py hN (q_pick1 rfl rfl (m0 (n1 h59)) rfl) rfl rfl rfl rfl ?_
          refine s_py hN (q_assign rfl rfl) rfl rfl rfl rfl ?_
          refine aops_nil ?_
          change AWP _ _ _ _ _
          refine awp_ret ?_
          change (resX _ _).fzt = some _
          refine ret_of rfl ?_
          first | rfl | exact retB (hV.trans hab' hbc)
        ·
          have hbc := n0 h59
          refine s_py hN (q_load rfl rfl rfl rfl rfl) rfl (w00 (m1 (n0 h59))) rfl rfl ?_
          refine s_py hN (q_load rfl rfl rfl rfl rfl) rfl (w00 (m1 (n0 h59))) rfl rfl ?_
          refine s_py hN (q_load rfl rfl rfl rfl rfl) rfl (w00 (m1 (n0 h59))) rfl rfl ?_
          refine s_py hN (q_call (leqJ_fc l a c) rfl rfl rfl) rfl (w00 (m1 (n0 h59))) rfl rfl ?_
          refine s_py hN (q_pick0 rfl rfl (m1 (n0 h59)) rfl) rfl rfl rfl rfl ?_
          refine s_py hN (q_assign rfl rfl) rfl rfl rfl rfl ?_
          refine aops_nil ?_
          change AWP _ _ _ _ _
          refine awp_ret ?_
          change (resX _ _).fzt = some _
          refine ret_of rfl ?_
          first | rfl | exact retB (hV.trans hab' hbc)
end Go.Proofs.YtciojbjoijedjaaGreat

namespace Go.Proofs.YtciojbjoijedjaaGreat
open Go.RowKit
set_option maxRecDepth 100000 in
set_option maxHeartbeats 1000000 in
theorem rRegs_s (l : Lat) (hpl : l.ps.length ≤ 1000000) (ih : ∀ q ∈ l.ps, FC Tryz.prog 28 [.agg (latL q)] (bl (regsB q))) : FC Tryz.prog 28 [.agg (latL l)] (bl (regsB l)) := by
  refine fc_of_awp [2] Tryz.func28 rfl rfl 20 Tryz.ntmps28 (Nat.le_of_ble_eq_true rfl) ?_
  intro E hN
  refine awp_seq ?_
  refine awp_region ?_
  refine s_box hN rfl rfl rfl rfl rfl rfl rfl rfl ?_
  refine s_py hN (q_assign rfl rfl) rfl rfl rfl rfl ?_
  refine aops_nil ?_
  change AWP _ _ _ _ _
  refine awp_seq ?_
  refine awp_seq ?_
  refine awp_region ?_
  refine s_py hN (q_fieldAddr rfl rfl rfl rfl) rfl rfl rfl rfl ?_
  refine s_py hN (q_load rfl rfl rfl rfl rfl) rfl rfl rfl rfl ?_
  refine s_py hN (q_bin rfl rfl rfl) rfl rfl rfl rfl ?_
  refine aops_nil ?_
  change AWP _ _ _ _ _
  refine c_cond rfl (fun h5 => ?_) (fun h5 => ?_)
  ·
    have h1 : (l.k == 9) = true := h5
    refine awp_seq ?_
    refine awp_region ?_
    refine s_py hN (q_assign rfl rfl) rfl rfl rfl rfl ?_
    refine aops_nil ?_
    change AWP _ _ _ _ _
    refine awp_ret ?_
    change (resX _ _).fzt = some _
    refine ret_of rfl ?_
    exact retB (by rw [regsB_eq, h1]; rfl)
  ·
    have h1 : (l.k == 9) = false := h5
    refine awp_skip ?_
    change AWP _ _ _ _ _
    refine awp_seq ?_
    refine awp_seq ?_
    refine awp_region ?_
    refine s_py hN (q_assign rfl rfl) rfl rfl rfl rfl ?_
    refine aops_nil ?_
    change AWP _ _ _ _ _
    refine awp_block ?_
    refine awp_loop (fun x : {k : Nat // k ≤ (l.ps).length ∧ (l.ps.drop k).any regsB = l.ps.any regsB} => ⟨[(1, .ptr 0 0), (3, i64 (x.1 : Nat))], [(0, .var 26 (latL l))], 1⟩) (fun x => (l.ps).length - x.1) (⟨0, Nat.zero_le _, by simp⟩) ?_ ?_
    ·
      exact weak_scrub' rfl ⟨rfl, rfl, rfl, rfl, trivial⟩ ⟨rfl, rfl, rfl, trivial⟩
    · rintro ⟨k, hk, hg⟩
      dsimp only
      refine awp_seq ?_
      refine awp_seq ?_
      refine awp_region ?_
      refine s_py hN (q_move rfl rfl) rfl rfl rfl rfl ?_
      refine s_py hN (q_fieldAddr rfl rfl rfl rfl) rfl rfl rfl rfl ?_
      refine s_py hN (q_load rfl rfl rfl rfl rfl) rfl rfl rfl rfl ?_
      refine s_py hN ((by first | exact q_len rfl rfl | exact q_len_str rfl rfl | exact q_len_p rfl rfl)) rfl rfl rfl rfl ?_
      refine s_py hN (q_bin rfl rfl rfl) rfl rfl rfl rfl ?_
      refine aops_nil ?_
      change AWP _ _ _ _ _
      refine c_cond rfl (fun h11 => ?_) (fun h11 => ?_)
      ·
        have hlt : k < (l.ps).length := by simpa using h11
        obtain ⟨x, hx⟩ := get_lt hlt
        refine awp_skip ?_
        change AWP _ _ _ _ _
        refine awp_seq ?_
        refine awp_block ?_
        refine awp_seq ?_
        refine awp_region ?_
        refine s_py hN (q_fieldAddr rfl rfl rfl rfl) rfl rfl rfl rfl ?_
        refine s_py hN (q_load rfl rfl rfl rfl rfl) rfl rfl rfl rfl ?_
        refine s_py hN (q_move rfl rfl) rfl rfl rfl rfl ?_
        refine s_py hN (q_elem rfl rfl rfl k rfl _ (lat_get hx) rfl) rfl rfl rfl rfl ?_
        refine s_py hN (q_load rfl rfl rfl rfl rfl) rfl rfl rfl rfl ?_
        refine s_py hN (q_call (ih x (List.mem_of_getElem? hx)) rfl rfl rfl) rfl rfl rfl rfl ?_
        refine aops_nil ?_
        change AWP _ _ _ _ _
        refine c_cond rfl (fun h16 => ?_) (fun h16 => ?_)
        ·
          have h6 : regsB x = true := h16
          refine awp_seq ?_
          refine awp_region ?_
          refine s_py hN (q_assign rfl rfl) rfl rfl rfl rfl ?_
          refine aops_nil ?_
          change AWP _ _ _ _ _
          refine awp_ret ?_
          change (resX _ _).fzt = some _
          refine ret_of rfl ?_
          exact retB (by rw [regsB_eq, h1, any_yes hg hx h6]; rfl)
        ·
          have h6 : regsB x = false := h16
          refine awp_skip ?_
          change AWP _ _ _ _ _
          refine awp_region ?_
          refine s_py hN (q_move rfl rfl) rfl rfl rfl rfl ?_
          refine s_py hN (q_addi rfl rfl rfl (by omega)) rfl rfl rfl rfl ?_
          refine s_py hN (q_assign rfl rfl) rfl rfl rfl rfl ?_
          refine aops_nil ?_
          exact ⟨⟨k + 1, hlt, any_go hg hx h6⟩, weak_scrub' rfl ⟨rfl, rfl, (cgI (by dsimp only; omega)), rfl, trivial⟩ ⟨rfl, rfl, rfl, trivial⟩, by dsimp only; omega⟩
      ·
        have hge : (l.ps).length ≤ k := by simpa using h11
        refine awp_exit ?_
        change AWP _ _ _ _ _
        refine awp_seq ?_
        refine awp_region ?_
        refine s_py hN (q_assign rfl rfl) rfl rfl rfl rfl ?_
        refine aops_nil ?_
        change AWP _ _ _ _ _
        refine awp_ret ?_
        change (resX _ _).fzt = some _
        refine ret_of rfl ?_
        exact retB (by rw [regsB_eq, h1, any_end hg hge]; rfl)
theorem rRegs_fc (l : Lat) (hO : OkL l) : FC Tryz.prog 28 [.agg (latL l)] (bl (regsB l)) := rRegs_s l (by have := hO.small; omega) (fun q hq => rRegs_fc q (hO.part q hq))
termination_by l
decreasing_by exact Lat.sizeOf_ps ‹_›
theorem validV_on {l : Lat} {v : Val} (hc : checkX l = 0) (hv : elemB v l = true) : validV l v = true := by unfold validV; rw [hc, hv]; rfl
set_option maxRecDepth 100000 in
set_option maxHeartbeats 1000000 in
theorem meets_fc (l : Lat) (a b : Val) (hc : checkX l = 0) (ha : elemB a l = true) (hb : elemB b l = true) (sa : SmV 40 a) (sb : SmV 40 b) (hR : regsB l = false) : FC Tryz.prog 29 [.agg (latL l), .agg (valL a), .agg (valL b)] (.agg (valL (meetV l a b))) := by
  have cM : FC Tryz.prog 21 [.agg (latL l), .agg (valL a), .agg (valL b)] (.tup [.agg (valL (meetV l a b)), i64 0]) := by
    have h := Meet_fc l a b (fun _ _ => ⟨ChL.of l hc, sa.up (by decide), sb.up (by decide), (sm_meet l (check_ok hc) a b ha hb sa sb).up (by decide)⟩)
    rw [meetJ_of (checkJ_of hc (by simp [ha, hb])) hR rfl] at h
    exact h
  refine fc_of_awpR [.c 6 30 4 true] ⟨⟨inferInstance, rfl⟩, trivial⟩ Tryz.func29 rfl rfl 21 Tryz.ntmps29 (Nat.le_of_ble_eq_true rfl) ?_
  intro E hN
  refine awp_seq ?_
  refine awp_region ?_
  refine s_box hN rfl rfl rfl rfl rfl rfl rfl rfl ?_
  refine s_box hN rfl rfl rfl rfl rfl rfl rfl rfl ?_
  refine s_box hN rfl rfl rfl rfl rfl rfl rfl rfl ?_
  refine s_alloc hN rfl rfl rfl rfl rfl rfl ?_
  refine aops_nil ?_
  change AWP _ _ _ _ _
  refine awp_seq ?_
  refine awp_region ?_
  refine s_py hN (q_load rfl rfl rfl rfl rfl) rfl rfl rfl rfl ?_
  refine s_py hN (q_load rfl rfl rfl rfl rfl) rfl rfl rfl rfl ?_
  refine s_py hN (q_load rfl rfl rfl rfl rfl) rfl rfl rfl rfl ?_
  refine s_py hN (q_call cM rfl rfl rfl) rfl rfl rfl rfl ?_
  refine s_py hN (q_move rfl rfl) rfl rfl rfl rfl ?_
  refine s_py hN (q_extract rfl rfl rfl) rfl rfl rfl rfl ?_
  refine s_py hN (q_extract rfl rfl rfl) rfl rfl rfl rfl ?_
  refine s_alloc hN rfl rfl rfl rfl rfl rfl ?_
  refine s_store rfl rfl rfl rfl rfl rfl (Nat.le_of_ble_eq_true rfl) rfl rfl rfl rfl ?_
  refine s_py hN (q_assign rfl rfl) rfl rfl rfl rfl ?_
  refine aops_nil ?_
  change AWP _ _ _ _ _
  refine awp_seq ?_
  refine awp_seq ?_
  refine awp_region ?_
  refine s_py hN (q_move rfl rfl) rfl rfl rfl rfl ?_
  refine s_py hN (q_binb (b := false) rfl rfl rfl rfl) rfl rfl rfl rfl ?_
  refine aops_nil ?_
  change AWP _ _ _ _ _
  refine c_false rfl rfl ?_
  refine awp_skip ?_
  change AWP _ _ _ _ _
  refine awp_seq ?_
  refine awp_region ?_
  refine s_py hN (q_load rfl rfl rfl rfl rfl) rfl rfl rfl rfl ?_
  refine s_store rfl rfl rfl rfl rfl rfl (Nat.le_of_ble_eq_true rfl) rfl rfl rfl rfl ?_
  refine aops_nil ?_
  change AWP _ _ _ _ _
  refine awp_ret ?_
  change (resY _ _).bind AV.fzt = some _
  refine ret_r rfl ?_
  rfl
theorem validL_sm {l : Lat} {vs : List Val} (h : validL l vs = true) : ∀ v ∈ vs, SmV 40 v := fun v hv => sm_small ((validL_ok h).2.2 v hv).2
set_option maxRecDepth 100000 in
set_option maxHeartbeats 1000000 in
theorem lawGreatest_fc (l : Lat) (a b c : Val) : FC Tryz.prog 7 [.agg (latL l), .agg (valL a), .agg (valL b), .agg (valL c)] (bl true) := by
  refine fc_of_awp [8] Tryz.func7 rfl rfl 63 Tryz.ntmps7 (Nat.le_of_ble_eq_true rfl) ?_
  intro E hN
  refine awp_seq ?_
  refine awp_region ?_
  refine s_box hN rfl rfl rfl rfl rfl rfl rfl rfl ?_
  refine s_box hN rfl rfl rfl rfl rfl rfl rfl rfl ?_
  refine s_box hN rfl rfl rfl rfl rfl rfl rfl rfl ?_
  refine s_box hN rfl rfl rfl rfl rfl rfl rfl rfl ?_
  refine s_py hN (q_assign rfl rfl) rfl rfl rfl rfl ?_
  refine aops_nil ?_
  change AWP _ _ _ _ _
  refine awp_seq ?_
  refine awp_seq ?_
  refine awp_region ?_
  refine s_py hN (q_call awake_fc rfl rfl rfl) rfl rfl rfl rfl ?_
  refine s_py hN (q_not rfl rfl) rfl rfl rfl rfl ?_
  refine aops_nil ?_
  change AWP _ _ _ _ _
  refine c_false rfl rfl ?_
  refine awp_skip ?_
  change AWP _ _ _ _ _
  refine awp_seq ?_
  refine awp_seq ?_
  refine awp_region ?_
  refine s_py hN (q_load rfl rfl rfl rfl rfl) rfl rfl rfl rfl ?_
  refine s_py hN (q_load rfl rfl rfl rfl rfl) rfl rfl rfl rfl ?_
  refine s_py hN (q_load rfl rfl rfl rfl rfl) rfl rfl rfl rfl ?_
  refine s_py hN (q_load rfl rfl rfl rfl rfl) rfl rfl rfl rfl ?_
  refine s_py hN (q_bslice2 rfl rfl rfl rfl (by exact rfl) (by decide) (by decide) (vals_3 a b c)) rfl rfl rfl rfl ?_
  refine s_py hN (q_call (lvalid_fc l [a, b, c]) rfl rfl rfl) rfl rfl rfl rfl ?_
  refine s_py hN (q_not rfl rfl) rfl rfl rfl rfl ?_
  refine s_py hN (q_move rfl rfl) rfl rfl rfl rfl ?_
  refine s_case 19 rfl (fun h14 => ?_) (fun h14 => ?_)
  ·
    refine s_skip hN rfl (w10 (m0 (n1 h14))) rfl rfl ?_
    refine s_skip hN rfl (w10 (m0 (n1 h14))) rfl rfl ?_
    refine s_py hN (q_pick1 rfl rfl (m0 (n1 h14)) rfl) rfl rfl rfl rfl ?_
    refine aops_nil ?_
    change AWP _ _ _ _ _
    refine c_true rfl rfl ?_
    refine awp_seq ?_
    refine awp_region ?_
    refine s_py hN (q_assign rfl rfl) rfl rfl rfl rfl ?_
    refine aops_nil ?_
    change AWP _ _ _ _ _
    refine awp_ret ?_
    change (resX _ _).fzt = some _
    refine ret_of rfl ?_
    rfl
  ·
    have hV := on_of (n0 h14)
    have hS := validL_sm (n0 h14)
    refine s_py hN (q_load rfl rfl rfl rfl rfl) rfl (w00 (m1 (n0 h14))) rfl rfl ?_
    refine s_py hN (q_call (rRegs_fc l (check_ok hV.hc)) rfl rfl rfl) rfl (w00 (m1 (n0 h14))) rfl rfl ?_
    refine s_py hN (q_pick0 rfl rfl (m1 (n0 h14)) rfl) rfl rfl rfl rfl ?_
    refine aops_nil ?_
    change AWP _ _ _ _ _
    refine c_cond rfl (fun h16 => ?_) (fun h16 => ?_)
    ·
      have h3 := h16
      refine awp_seq ?_
      refine awp_region ?_
      refine s_py hN (q_assign rfl rfl) rfl rfl rfl rfl ?_
      refine aops_nil ?_
      change AWP _ _ _ _ _
      refine awp_ret ?_
      change (resX _ _).fzt = some _
      refine ret_of rfl ?_
      rfl
    ·
      have hR : regsB l = false := h16
      have G := meet_glb l (check_ok hV.hc) (ChL.of l hV.hc) hR a b hV.ha hV.hb
      refine awp_skip ?_
      change AWP _ _ _ _ _
      refine awp_seq ?_
      refine awp_region ?_
      refine s_py hN (q_load rfl rfl rfl rfl rfl) rfl rfl rfl rfl ?_
      refine s_py hN (q_load rfl rfl rfl rfl rfl) rfl rfl rfl rfl ?_
      refine s_py hN (q_load rfl rfl rfl rfl rfl) rfl rfl rfl rfl ?_
      refine s_py hN (q_call (meets_fc l a b hV.hc hV.ha hV.hb (hS a (by simp)) (hS b (by simp)) hR) rfl rfl rfl) rfl rfl rfl rfl ?_
      refine s_alloc hN rfl rfl rfl rfl rfl rfl ?_
      refine s_store rfl rfl rfl rfl rfl rfl (Nat.le_of_ble_eq_true rfl) rfl rfl rfl rfl ?_
      refine aops_nil ?_
      change AWP _ _ _ _ _
      refine awp_seq ?_
      refine awp_seq ?_
      refine awp_region ?_
      refine s_py hN (q_load rfl rfl rfl rfl rfl) rfl rfl rfl rfl ?_
      refine s_py hN (q_load rfl rfl rfl rfl rfl) rfl rfl rfl rfl ?_
      refine s_py hN (q_call (fcb (validV_fc l (meetV l a b)) (validV_on hV.hc G.el)) rfl rfl rfl) rfl rfl rfl rfl ?_
      refine s_py hN (q_not rfl rfl) rfl rfl rfl rfl ?_
      refine s_py hN (q_move rfl rfl) rfl rfl rfl rfl ?_
      refine s_py hN (q_load rfl rfl rfl rfl rfl) rfl rfl rfl rfl ?_
      refine s_py hN (q_load rfl rfl rfl rfl rfl) rfl rfl rfl rfl ?_
      refine s_py hN (q_load rfl rfl rfl rfl rfl) rfl rfl rfl rfl ?_
      refine s_py hN (q_call (fcb (leqJ_fc l (meetV l a b) a) ((leqJ_on hV.hc G.el hV.ha).trans G.le1)) rfl rfl rfl) rfl rfl rfl rfl ?_
      refine s_py hN (q_not rfl rfl) rfl rfl rfl rfl ?_
      refine s_py hN (q_pick0 rfl rfl rfl rfl) rfl rfl rfl rfl ?_
      refine s_py hN (q_move rfl rfl) rfl rfl rfl rfl ?_
      refine s_py hN (q_load rfl rfl rfl rfl rfl) rfl rfl rfl rfl ?_
      refine s_py hN (q_load rfl rfl rfl rfl rfl) rfl rfl rfl rfl ?_
      refine s_py hN (q_load rfl rfl rfl rfl rfl) rfl rfl rfl rfl ?_
      refine s_py hN (q_call (fcb (leqJ_fc l (meetV l a b) b) ((leqJ_on hV.hc G.el hV.hb).trans G.le2)) rfl rfl rfl) rfl rfl rfl rfl ?_
      refine s_py hN (q_not rfl rfl) rfl rfl rfl rfl ?_
      refine s_py hN (q_pick0 rfl rfl rfl rfl) rfl rfl rfl rfl ?_
      refine aops_nil ?_
      change AWP _ _ _ _ _
      refine c_false rfl rfl ?_
      refine awp_skip ?_
      change AWP _ _ _ _ _
      refine awp_seq ?_
      refine awp_region ?_
      refine s_py hN (q_load rfl rfl rfl rfl rfl) rfl rfl rfl rfl ?_
      refine s_py hN (q_load rfl rfl rfl rfl rfl) rfl rfl rfl rfl ?_
      refine s_py hN (q_load rfl rfl rfl rfl rfl) rfl rfl rfl rfl ?_
      refine s_py hN (q_call (leqJ_fc l c a) rfl rfl rfl) rfl rfl rfl rfl ?_
      refine s_py hN (q_not rfl rfl) rfl rfl rfl rfl ?_
      refine s_py hN (q_move rfl rfl) rfl rfl rfl rfl ?_
      refine s_case 50 rfl (fun h34 => ?_) (fun h34 => ?_)
      ·
        refine s_skip hN rfl (w10 (m0 (n1 h34))) rfl rfl ?_
        refine s_skip hN rfl (w10 (m0 (n1 h34))) rfl rfl ?_
        refine s_skip hN rfl (w10 (m0 (n1 h34))) rfl rfl ?_
        refine s_skip hN rfl (w10 (m0 (n1 h34))) rfl rfl ?_
        refine s_skip hN rfl (w10 (m0 (n1 h34))) rfl rfl ?_
        refine s_py hN (q_pick1 rfl rfl (m0 (n1 h34)) rfl) rfl rfl rfl rfl ?_
        refine s_py hN (q_move rfl rfl) rfl rfl rfl rfl ?_
        refine s_skip hN rfl rfl rfl rfl ?_
        refine s_skip hN rfl rfl rfl rfl ?_
        refine s_skip hN rfl rfl rfl rfl ?_
        refine s_skip hN rfl rfl rfl rfl ?_
        refine s_py hN (q_pick1 rfl rfl rfl rfl) rfl rfl rfl rfl ?_
        refine s_py hN (q_assign rfl rfl) rfl rfl rfl rfl ?_
        refine aops_nil ?_
        change AWP _ _ _ _ _
        refine awp_ret ?_
        change (resX _ _).fzt = some _
        refine ret_of rfl ?_
        first | rfl | exact retB (by rw [leqJ_on hV.hc hV.hd hV.ha] at h1; rw [leqJ_on hV.hc hV.hd hV.hb] at h2; rw [leqJ_on hV.hc hV.hd G.el]; exact G.gr c hV.hd h1 h2)
      ·
        have h1 := n0 h34
        refine s_py hN (q_load rfl rfl rfl rfl rfl) rfl (w00 (m1 (n0 h34))) rfl rfl ?_
        refine s_py hN (q_load rfl rfl rfl rfl rfl) rfl (w00 (m1 (n0 h34))) rfl rfl ?_
        refine s_py hN (q_load rfl rfl rfl rfl rfl) rfl (w00 (m1 (n0 h34))) rfl rfl ?_
        refine s_py hN (q_call (leqJ_fc l c b) rfl rfl rfl) rfl (w00 (m1 (n0 h34))) rfl rfl ?_
        refine s_py hN (q_not rfl rfl) rfl (w00 (m1 (n0 h34))) rfl rfl ?_
        refine s_py hN (q_pick0 rfl rfl (m1 (n0 h34)) rfl) rfl rfl rfl rfl ?_
        refine s_py hN (q_move rfl rfl) rfl rfl rfl rfl ?_
        refine s_case 57 rfl (fun h38 => ?_) (fun h38 => ?_)
        ·
          refine s_skip hN rfl (w10 (m0 (n1 h38))) rfl rfl ?_
          refine s_skip hN rfl (w10 (m0 (n1 h38))) rfl rfl ?_
          refine s_skip hN rfl (w10 (m0 (n1 h38))) rfl rfl ?_
          refine s_skip hN rfl (w10 (m0 (n1 h38))) rfl rfl ?_
          refine s_py hN (q_pick1 rfl rfl (m0 (n1 h38)) rfl) rfl rfl rfl rfl ?_
          refine s_py hN (q_assign rfl rfl) rfl rfl rfl rfl ?_
          refine aops_nil ?_
          change AWP _ _ _ _ _
          refine awp_ret ?_
          change (resX _ _).fzt = some _
          refine ret_of rfl ?_
          first | rfl | exact retB (by rw [leqJ_on hV.hc hV.hd hV.ha] at h1; rw [leqJ_on hV.hc hV.hd hV.hb] at h2; rw [leqJ_on hV.hc hV.hd G.el]; exact G.gr c hV.hd h1 h2)
        ·
          have h2 := n0 h38
          refine s_py hN (q_load rfl rfl rfl rfl rfl) rfl (w00 (m1 (n0 h38))) rfl rfl ?_
          refine s_py hN (q_load rfl rfl rfl rfl rfl) rfl (w00 (m1 (n0 h38))) rfl rfl ?_
          refine s_py hN (q_load rfl rfl rfl rfl rfl) rfl (w00 (m1 (n0 h38))) rfl rfl ?_
          refine s_py hN (q_call (leqJ_fc l c (meetV l a b)) rfl rfl rfl) rfl (w00 (m1 (n0 h38))) rfl rfl ?_
          refine s_py hN (q_pick0 rfl rfl (m1 (n0 h38)) rfl) rfl rfl rfl rfl ?_
          refine s_py hN (q_assign rfl rfl) rfl rfl rfl rfl ?_
          refine aops_nil ?_
          change AWP _ _ _ _ _
          refine awp_ret ?_
          change (resX _ _).fzt = some _
          refine ret_of rfl ?_
          first | rfl | exact retB (by rw [leqJ_on hV.hc hV.hd hV.ha] at h1; rw [leqJ_on hV.hc hV.hd hV.hb] at h2; rw [leqJ_on hV.hc hV.hd G.el]; exact G.gr c hV.hd h1 h2)
end Go.Proofs.YtciojbjoijedjaaGreat
