/-
  Contracts: registers, meets.
-/
import Derived.Test.YtciojbjoijedjaaGreatB18
import Derived.Test.YtciojbjoijedjaaGreatB17
namespace Go.Proofs.YtciojbjoijedjaaGreat
open Go.RowKit
set_option maxRecDepth 100000 in
set_option maxHeartbeats 1000000 in
theorem rRegs_s (l : Lat) (hpl : l.ps.length ≤ 1000000) (ih : ∀ q ∈ l.ps, FC Tryz.prog 28 [.agg (latL q)] (bl (regsB q))) : FC Tryz.prog 28 [.agg (latL l)] (bl (regsB l)) := by
 refine fc_of_awp [2] Tryz.func28 rfl rfl 20 Tryz.ntmps28 (Nat.le_of_ble_eq_true rfl) ?_
 intro E hN
 refine zG ?_
 refine zX hN ?_
 refine zS hN ?_
 refine zN ?_
 refine awp_seq ?_
 refine zG ?_
 refine zF hN ?_
 refine zL hN ?_
 refine zB hN ?_
 refine zN ?_
 refine c_cond rfl (fun h5 => ?_) (fun h5 => ?_)
 ·
  have h1 : (l.k == 9) = true := h5
  refine zG ?_
  refine zS hN ?_
  refine zQ ?_
  exact retB (by rw [regsB_eq, h1]; rfl)
 ·
  have h1 : (l.k == 9) = false := h5
  refine awp_skip ?_
  change AWP _ _ _ _ _
  refine awp_seq ?_
  refine zG ?_
  refine zS hN ?_
  refine zN ?_
  refine awp_block ?_
  refine awp_loop (fun x : {k : Nat // k ≤ (l.ps).length ∧ (l.ps.drop k).any regsB = l.ps.any regsB} => ⟨[(1, .ptr 0 0), (3, i64 (x.1 : Nat))], [(0, .var 26 (latL l))], 1⟩) (fun x => (l.ps).length - x.1) (⟨0, Nat.zero_le _, by simp⟩) ?_ ?_
  ·
   exact weak_scrub' rfl ⟨rfl, rfl, rfl, rfl, trivial⟩ ⟨rfl, rfl, rfl, trivial⟩
  ·rintro ⟨k, hk, hg⟩
   dsimp only
   refine awp_seq ?_
   refine zG ?_
   refine zM hN ?_
   refine zF hN ?_
   refine zL hN ?_
   refine zE hN ?_
   refine zB hN ?_
   refine zN ?_
   refine c_cond rfl (fun h11 => ?_) (fun h11 => ?_)
   ·
    have hlt : k < (l.ps).length := by simpa using h11
    obtain ⟨x, hx⟩ := get_lt hlt
    refine awp_skip ?_
    change AWP _ _ _ _ _
    refine awp_seq ?_
    refine awp_block ?_
    refine zG ?_
    refine zF hN ?_
    refine zL hN ?_
    refine zM hN ?_
    refine zP hN (q_elem rfl rfl rfl k rfl _ (lat_get hx) rfl) ?_
    refine zL hN ?_
    refine zP hN (q_call (ih x (List.mem_of_getElem? hx)) rfl rfl rfl) ?_
    refine zN ?_
    refine c_cond rfl (fun h16 => ?_) (fun h16 => ?_)
    ·
     have h6 : regsB x = true := h16
     refine zG ?_
     refine zS hN ?_
     refine zQ ?_
     exact retB (by rw [regsB_eq, h1, any_yes hg hx h6]; rfl)
    ·
     have h6 : regsB x = false := h16
     refine awp_skip ?_
     change AWP _ _ _ _  _
     refine awp_region ?_
     refine zM hN ?_
     refine zP hN (q_addi rfl rfl rfl (by omega)) ?_
     refine zS hN ?_
     refine aops_nil ?_
     exact ⟨⟨k + 1, hlt, any_go hg hx h6⟩, weak_scrub' rfl ⟨rfl, rfl, (cgI (by dsimp only; omega)), rfl, trivial⟩ ⟨rfl, rfl, rfl, trivial⟩, by dsimp only; omega⟩
   ·
    have hge : (l.ps).length ≤ k := by simpa using h11
    refine awp_exit ?_
    change AWP _ _ _ _  _
    refine zG ?_
    refine zS hN ?_
    refine zQ ?_
    exact retB (by rw [regsB_eq, h1, any_end hg hge]; rfl)
theorem rRegs_fc (l : Lat) (hO : OkL l) : FC Tryz.prog 28 [.agg (latL l)] (bl (regsB l)) := rRegs_s l (by have := hO.small; omega) (fun q hq => rRegs_fc q (hO.part q hq))
termination_by l
decreasing_by exact Lat.sizeOf_ps ‹_›
theorem validV_on {l : Lat} {v : Val} (hc : checkX l = 0) (hv : elemB v l = true) : validV l v = true := by unfold validV; rw [hc, hv]; rfl
set_option maxRecDepth 100000 in
set_option maxHeartbeats 1000000 in
theorem meets_fc (l : Lat) (a b : Val) (hc : checkX l = 0) (ha : elemB a l = true) (hb : elemB b l = true) (sa : SmV 1000 a) (sb : SmV 1000 b) (hR : regsB l = false) : FC Tryz.prog 29 [.agg (latL l), .agg (valL a), .agg (valL b)] (.agg (valL (meetV l a b))) := by
 have cM : FC Tryz.prog 21 [.agg (latL l), .agg (valL a), .agg (valL b)] (.tup [.agg (valL (meetV l a b)), i64 0]) := by
  have h := Meet_fc l a b (fun _ _ => ⟨ChL.of l hc, sa.up (by decide), sb.up (by decide), (sm_meetN (N := 2000) (by decide) (by decide) l (check_ok hc) a b ha hb sa sb).up (by decide)⟩)
  rw [meetJ_of (checkJ_of hc (by simp [ha, hb])) hR rfl] at h
  exact h
 refine fc_of_awpR [.c 6 30 4 true] ⟨⟨inferInstance, rfl⟩, trivial⟩ Tryz.func29 rfl rfl 21 Tryz.ntmps29 (Nat.le_of_ble_eq_true rfl) ?_
 intro E hN
 refine zG ?_
 refine zX hN ?_
 refine zX hN ?_
 refine zX hN ?_
 refine zO hN ?_
 refine zA ?_
 refine zL hN ?_
 refine zL hN ?_
 refine zL hN ?_
 refine zP hN (q_call cM rfl rfl rfl) ?_
 refine zM hN ?_
 refine zP hN (q_extract rfl rfl rfl) ?_
 refine zP hN (q_extract rfl rfl rfl) ?_
 refine zO hN ?_
 refine zC ?_
 refine zS hN ?_
 refine zN ?_
 refine awp_seq ?_
 refine zG ?_
 refine zM hN ?_
 refine zP hN (q_binb (b := false) rfl rfl rfl rfl) ?_
 refine zN ?_
 refine c_false rfl rfl ?_
 refine awp_skip ?_
 change AWP _ _ _ _ _
 refine zG ?_
 refine zL hN ?_
 refine zC ?_
 refine zN ?_
 refine awp_ret ?_
 change (resY _ _).bind AV.fzt = some _
 refine ret_r rfl ?_
 rfl
end Go.Proofs.YtciojbjoijedjaaGreat
