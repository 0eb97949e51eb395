/-
  Contracts: the law JoinOrder.
-/
import Derived.Test.YtciojbjoijedjaaGreatB16
import Derived.Test.YtciojbjoijedjaaGreatB11
namespace Go.Proofs.YtciojbjoijedjaaGreat
open Go.RowKit
theorem validL_ok {l : Lat} {vs : List Val} (h : validL l vs = true) : checkX l = 0 ∧ vs.length ≤ 8 ∧ ∀ v ∈ vs, elemB v l = true ∧ smallV v 40 = true := by
 unfold validL smallL at h
 simp only [Bool.and_eq_true, decide_eq_true_eq, List.all_eq_true, beq_iff_eq, validV] at h
 obtain ⟨⟨⟨h1, h2⟩, h3⟩, h4⟩ := h
 exact ⟨h3, h1, fun v hv => ⟨(h4 v hv).2, h2 v hv⟩⟩
theorem fcb {f : FuncId} {args : List AV} {b c : Bool} (h : FC Tryz.prog f args (bl b)) (e : b = c) : FC Tryz.prog f args (bl c) := e ▸ h
/-- what a valid call of the law knows -/
structure On (l : Lat) (a b c : Val) : Prop where
 hc : checkX l = 0
 ha : elemB a l = true
 hb : elemB b l = true
 hd : elemB c l = true
theorem on_of {l : Lat} {a b c : Val} (h : validL l [a, b, c] = true) : On l a b c := by
 obtain ⟨h1, -, h2⟩ := validL_ok h
 exact ⟨h1, (h2 a (by simp)).1, (h2 b (by simp)).1, (h2 c (by simp)).1⟩
theorem On.refl {l : Lat} {a b c : Val} (h : On l a b c) : leqJ l a a = true := by rw [leqJ_on h.hc h.ha h.ha]; exact leq_refl l (check_ok h.hc) a h.ha
theorem On.anti {l : Lat} {a b c : Val} (h : On l a b c) (h1 : leqJ l a b = true) (h2 : leqJ l b a = true) : eqV a b = true := by
 rw [leqJ_on h.hc h.ha h.hb] at h1
 rw [leqJ_on h.hc h.hb h.ha] at h2
 exact (eqV_iff _ _).2 (leq_anti l (check_ok h.hc) a b h.ha h.hb h1 h2)
theorem On.trans {l : Lat} {a b c : Val} (h : On l a b c) (h1 : leqJ l a b = true) (h2 : leqJ l b c = true) : leqJ l a c = true := by
 rw [leqJ_on h.hc h.ha h.hb] at h1
 rw [leqJ_on h.hc h.hb h.hd] at h2
 rw [leqJ_on h.hc h.ha h.hd]
 exact leq_trans l (check_ok h.hc) a b c h.ha h.hb h.hd h1 h2
set_option maxRecDepth 100000 in
set_option maxHeartbeats 1000000 in
theorem lawOrder_fc (l : Lat) (a b c : Val) : FC Tryz.prog 5 [.agg (latL l), .agg (valL a), .agg (valL b), .agg (valL c)] (bl true) := by
 refine fc_of_awp [8] Tryz.func5 rfl rfl 59 Tryz.ntmps5 (Nat.le_of_ble_eq_true rfl) ?_
 intro E hN
 refine zG ?_
 refine zX hN ?_
 refine zX hN ?_
 refine zX hN ?_
 refine zX hN ?_
 refine zS hN ?_
 refine zN ?_
 refine awp_seq ?_
 refine zG ?_
 refine zP hN (q_call awake_fc rfl rfl rfl) ?_
 refine zP hN (q_not rfl rfl) ?_
 refine zN ?_
 refine c_false rfl rfl ?_
 refine awp_skip ?_
 change AWP _ _ _ _ _
 refine awp_seq ?_
 refine zG ?_
 refine zL hN ?_
 refine zL hN ?_
 refine zL hN ?_
 refine zL hN ?_
 refine zP hN (q_bslice2 rfl rfl rfl rfl (by exact rfl) (by decide) (by decide) (vals_3 a b c)) ?_
 refine zP hN (q_call (lvalid_fc l [a, b, c]) rfl rfl rfl) ?_
 refine zP hN (q_not rfl rfl) ?_
 refine zN ?_
 refine c_cond rfl (fun h14 => ?_) (fun h14 => ?_)
 ·
  have h3 := h14
  refine zG ?_
  refine zS hN ?_
  refine zQ ?_
  rfl
 ·
  have hV := on_of (n0 h14)
  refine awp_skip ?_
  change AWP _ _ _ _ _
  refine awp_seq ?_
  refine zG ?_
  refine zL hN ?_
  refine zL hN ?_
  refine zL hN ?_
  refine zP hN (q_call (fcb (leqJ_fc l a a) hV.refl) rfl rfl rfl) ?_
  refine zP hN (q_not rfl rfl) ?_
  refine zM hN ?_
  refine zL hN ?_
  refine zL hN ?_
  refine zL hN ?_
  refine zP hN (q_call (leqJ_fc l a b) rfl rfl rfl) ?_
  refine zM hN ?_
  refine s_case 28 rfl (fun h21 => ?_) (fun h21 => ?_)
  ·
   have hab := h21
   refine s_py hN (q_load rfl rfl rfl rfl rfl) rfl (w11 h21) rfl rfl ?_
   refine s_py hN (q_load rfl rfl rfl rfl rfl) rfl (w11 h21) rfl rfl ?_
   refine s_py hN (q_load rfl rfl rfl rfl rfl) rfl (w11 h21) rfl rfl ?_
   refine s_py hN (q_call (leqJ_fc l b a) rfl rfl rfl) rfl (w11 h21) rfl rfl ?_
   refine zP hN (q_pick1 rfl rfl h21 rfl) ?_
   refine zM hN ?_
   refine s_case 34 rfl (fun h25 => ?_) (fun h25 => ?_)
   ·
    have hba := h25
    refine s_py hN (q_load rfl rfl rfl rfl rfl) rfl (w11 h25) rfl rfl ?_
    refine s_py hN (q_load rfl rfl rfl rfl rfl) rfl (w11 h25) rfl rfl ?_
    refine s_py hN (q_call (fcb (rEqual_fc a b) (hV.anti hab hba)) rfl rfl rfl) rfl (w11 h25) rfl rfl ?_
    refine s_py hN (q_not rfl rfl) rfl (w11 h25) rfl rfl ?_
    refine zP hN (q_pick1 rfl rfl h25 rfl) ?_
    refine zP hN (q_pick0 rfl rfl rfl rfl) ?_
    refine zN ?_
    refine c_false rfl rfl ?_
    refine awp_skip ?_
    change AWP _ _ _ _ _
    refine zG ?_
    refine zL hN ?_
    refine zL hN ?_
    refine zL hN ?_
    refine zP hN (q_call (leqJ_fc l a b) rfl rfl rfl) ?_
    refine zP hN (q_not rfl rfl) ?_
    refine zM hN ?_
    refine s_case 46 rfl (fun h31 => ?_) (fun h31 => ?_)
    ·
     refine s_skip hN rfl (w10 (m0 (n1 h31))) rfl rfl ?_
     refine s_skip hN rfl (w10 (m0 (n1 h31))) rfl rfl ?_
     refine s_skip hN rfl (w10 (m0 (n1 h31))) rfl rfl ?_
     refine s_skip hN rfl (w10 (m0 (n1 h31))) rfl rfl ?_
     refine s_skip hN rfl (w10 (m0 (n1 h31))) rfl rfl ?_
     refine zP hN (q_pick1 rfl rfl (m0 (n1 h31)) rfl) ?_
     refine zM hN ?_
     refine zK hN ?_
     refine zK hN ?_
     refine zK hN ?_
     refine zK hN ?_
     refine zP hN (q_pick1 rfl rfl rfl rfl) ?_
     refine zS hN ?_
     refine zQ ?_
     first | rfl | exact retB (hV.trans hab' hbc)
    ·
     have hab' := n0 h31
     refine s_py hN (q_load rfl rfl rfl rfl rfl) rfl (w00 (m1 (n0 h31))) rfl rfl ?_
     refine s_py hN (q_load rfl rfl rfl rfl rfl) rfl (w00 (m1 (n0 h31))) rfl rfl ?_
     refine s_py hN (q_load rfl rfl rfl rfl rfl) rfl (w00 (m1 (n0 h31))) rfl rfl ?_
     refine s_py hN (q_call (leqJ_fc l b c) rfl rfl rfl) rfl (w00 (m1 (n0 h31))) rfl rfl ?_
     refine s_py hN (q_not rfl rfl) rfl (w00 (m1 (n0 h31))) rfl rfl ?_
     refine zP hN (q_pick0 rfl rfl (m1 (n0 h31)) rfl) ?_
     refine zM hN ?_
     refine s_case 53 rfl (fun h35 => ?_) (fun h35 => ?_)
     ·
      refine s_skip hN rfl (w10 (m0 (n1 h35))) rfl rfl ?_
      refine s_skip hN rfl (w10 (m0 (n1 h35))) rfl rfl ?_
      refine s_skip hN rfl (w10 (m0 (n1 h35))) rfl rfl ?_
      refine s_skip hN rfl (w10 (m0 (n1 h35))) rfl rfl ?_
      refine zP hN (q_pick1 rfl rfl (m0 (n1 h35)) rfl) ?_
      refine zS hN ?_
      refine zQ ?_
      first | rfl | exact retB (hV.trans hab' hbc)
     ·
      have hbc := n0 h35
      refine s_py hN (q_load rfl rfl rfl rfl rfl) rfl (w00 (m1 (n0 h35))) rfl rfl ?_
      refine s_py hN (q_load rfl rfl rfl rfl rfl) rfl (w00 (m1 (n0 h35))) rfl rfl ?_
      refine s_py hN (q_load rfl rfl rfl rfl rfl) rfl (w00 (m1 (n0 h35))) rfl rfl ?_
      refine s_py hN (q_call (leqJ_fc l a c) rfl rfl rfl) rfl (w00 (m1 (n0 h35))) rfl rfl ?_
      refine zP hN (q_pick0 rfl rfl (m1 (n0 h35)) rfl) ?_
      refine zS hN ?_
      refine zQ ?_
      first | rfl | exact retB (hV.trans hab' hbc)
   ·
    refine s_skip hN rfl (w01 h25) rfl rfl ?_
    refine s_skip hN rfl (w01 h25) rfl rfl ?_
    refine s_skip hN rfl (w01 h25) rfl rfl ?_
    refine s_skip hN rfl (w01 h25) rfl rfl ?_
    refine zP hN (q_pick0 rfl rfl h25 rfl) ?_
    refine zP hN (q_pick0 rfl rfl rfl rfl) ?_
    refine zN ?_
    refine c_false rfl rfl ?_
    refine awp_skip ?_
    change AWP _ _ _ _ _
    refine zG ?_
    refine zL hN ?_
    refine zL hN ?_
    refine zL hN ?_
    refine zP hN (q_call (leqJ_fc l a b) rfl rfl rfl) ?_
    refine zP hN (q_not rfl rfl) ?_
    refine zM hN ?_
    refine s_case 46 rfl (fun h43 => ?_) (fun h43 => ?_)
    ·
     refine s_skip hN rfl (w10 (m0 (n1 h43))) rfl rfl ?_
     refine s_skip hN rfl (w10 (m0 (n1 h43))) rfl rfl ?_
     refine s_skip hN rfl (w10 (m0 (n1 h43))) rfl rfl ?_
     refine s_skip hN rfl (w10 (m0 (n1 h43))) rfl rfl ?_
     refine s_skip hN rfl (w10 (m0 (n1 h43))) rfl rfl ?_
     refine zP hN (q_pick1 rfl rfl (m0 (n1 h43)) rfl) ?_
     refine zM hN ?_
     refine zK hN ?_
     refine zK hN ?_
     refine zK hN ?_
     refine zK hN ?_
     refine zP hN (q_pick1 rfl rfl rfl rfl) ?_
     refine zS hN ?_
     refine zQ ?_
     first | rfl | exact retB (hV.trans hab' hbc)
    ·
     have hab' := n0 h43
     refine s_py hN (q_load rfl rfl rfl rfl rfl) rfl (w00 (m1 (n0 h43))) rfl rfl ?_
     refine s_py hN (q_load rfl rfl rfl rfl rfl) rfl (w00 (m1 (n0 h43))) rfl rfl ?_
     refine s_py hN (q_load rfl rfl rfl rfl rfl) rfl (w00 (m1 (n0 h43))) rfl rfl ?_
     refine s_py hN (q_call (leqJ_fc l b c) rfl rfl rfl) rfl (w00 (m1 (n0 h43))) rfl rfl ?_
     refine s_py hN (q_not rfl rfl) rfl (w00 (m1 (n0 h43))) rfl rfl ?_
     refine zP hN (q_pick0 rfl rfl (m1 (n0 h43)) rfl) ?_
     refine zM hN ?_
     refine s_case 53 rfl (fun h47 => ?_) (fun h47 => ?_)
     ·
      refine s_skip hN rfl (w10 (m0 (n1 h47))) rfl rfl ?_
      refine s_skip hN rfl (w10 (m0 (n1 h47))) rfl rfl ?_
      refine s_skip hN rfl (w10 (m0 (n1 h47))) rfl rfl ?_
      refine s_skip hN rfl (w10 (m0 (n1 h47))) rfl rfl ?_
      refine zP hN (q_pick1 rfl rfl (m0 (n1 h47)) rfl) ?_
      refine zS hN ?_
      refine zQ ?_
      first | rfl | exact retB (hV.trans hab' hbc)
     ·
      have hbc := n0 h47
      refine s_py hN (q_load rfl rfl rfl rfl rfl) rfl (w00 (m1 (n0 h47))) rfl rfl ?_
      refine s_py hN (q_load rfl rfl rfl rfl rfl) rfl (w00 (m1 (n0 h47))) rfl rfl ?_
      refine s_py hN (q_load rfl rfl rfl rfl rfl) rfl (w00 (m1 (n0 h47))) rfl rfl ?_
      refine s_py hN (q_call (leqJ_fc l a c) rfl rfl rfl) rfl (w00 (m1 (n0 h47))) rfl rfl ?_
      refine zP hN (q_pick0 rfl rfl (m1 (n0 h47)) rfl) ?_
      refine zS hN ?_
      refine zQ ?_
      first | rfl | exact retB (hV.trans hab' hbc)
  ·
   refine s_skip hN rfl (w01 h21) rfl rfl ?_
   refine s_skip hN rfl (w01 h21) rfl rfl ?_
   refine s_skip hN rfl (w01 h21) rfl rfl ?_
   refine s_skip hN rfl (w01 h21) rfl rfl ?_
   refine zP hN (q_pick0 rfl rfl h21 rfl) ?_
   refine zM hN ?_
   refine zK hN ?_
   refine zK hN ?_
   refine zK hN ?_
   refine zK hN ?_
   refine zP hN (q_pick0 rfl rfl rfl rfl) ?_
   refine zP hN (q_pick0 rfl rfl rfl rfl) ?_
   refine zN ?_
   refine c_false rfl rfl ?_
   refine awp_skip ?_
   change AWP _ _ _ _ _
   refine zG ?_
   refine zL hN ?_
   refine zL hN ?_
   refine zL hN ?_
   refine zP hN (q_call (leqJ_fc l a b) rfl rfl rfl) ?_
   refine zP hN (q_not rfl rfl) ?_
   refine zM hN ?_
   refine s_case 46 rfl (fun h55 => ?_) (fun h55 => ?_)
   ·
    refine s_skip hN rfl (w10 (m0 (n1 h55))) rfl rfl ?_
    refine s_skip hN rfl (w10 (m0 (n1 h55))) rfl rfl ?_
    refine s_skip hN rfl (w10 (m0 (n1 h55))) rfl rfl ?_
    refine s_skip hN rfl (w10 (m0 (n1 h55))) rfl rfl ?_
    refine s_skip hN rfl (w10 (m0 (n1 h55))) rfl rfl ?_
    refine zP hN (q_pick1 rfl rfl (m0 (n1 h55)) rfl) ?_
    refine zM hN ?_
    refine zK hN ?_
    refine zK hN ?_
    refine zK hN ?_
    refine zK hN ?_
    refine zP hN (q_pick1 rfl rfl rfl rfl) ?_
    refine zS hN ?_
    refine zQ ?_
    first | rfl | exact retB (hV.trans hab' hbc)
   ·
    have hab' := n0 h55
    refine s_py hN (q_load rfl rfl rfl rfl rfl) rfl (w00 (m1 (n0 h55))) rfl rfl ?_
    refine s_py hN (q_load rfl rfl rfl rfl rfl) rfl (w00 (m1 (n0 h55))) rfl rfl ?_
    refine s_py hN (q_load rfl rfl rfl rfl rfl) rfl (w00 (m1 (n0 h55))) rfl rfl ?_
    refine s_py hN (q_call (leqJ_fc l b c) rfl rfl rfl) rfl (w00 (m1 (n0 h55))) rfl rfl ?_
    refine s_py hN (q_not rfl rfl) rfl (w00 (m1 (n0 h55))) rfl rfl ?_
    refine zP hN (q_pick0 rfl rfl (m1 (n0 h55)) rfl) ?_
    refine zM hN ?_
    refine s_case 53 rfl (fun h59 => ?_) (fun h59 => ?_)
    ·
     refine s_skip hN rfl (w10 (m0 (n1 h59))) rfl rfl ?_
     refine s_skip hN rfl (w10 (m0 (n1 h59))) rfl rfl ?_
     refine s_skip hN rfl (w10 (m0 (n1 h59))) rfl rfl ?_
     refine s_skip hN rfl (w10 (m0 (n1 h59))) rfl rfl ?_
     refine zP hN (q_pick1 rfl rfl (m0 (n1 h59)) rfl) ?_
     refine zS hN ?_
     refine zQ ?_
     first | rfl | exact retB (hV.trans hab' hbc)
    ·
     have hbc := n0 h59
     refine s_py hN (q_load rfl rfl rfl rfl rfl) rfl (w00 (m1 (n0 h59))) rfl rfl ?_
     refine s_py hN (q_load rfl rfl rfl rfl rfl) rfl (w00 (m1 (n0 h59))) rfl rfl ?_
     refine s_py hN (q_load rfl rfl rfl rfl rfl) rfl (w00 (m1 (n0 h59))) rfl rfl ?_
     refine s_py hN (q_call (leqJ_fc l a c) rfl rfl rfl) rfl (w00 (m1 (n0 h59))) rfl rfl ?_
     refine zP hN (q_pick0 rfl rfl (m1 (n0 h59)) rfl) ?_
     refine zS hN ?_
     refine zQ ?_
     first | rfl | exact retB (hV.trans hab' hbc)
end Go.Proofs.YtciojbjoijedjaaGreat
