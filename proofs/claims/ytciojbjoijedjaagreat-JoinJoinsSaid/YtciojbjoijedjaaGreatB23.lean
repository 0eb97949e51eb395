/-
  Contracts: registers, meets.
-/
import Derived.Test.YtciojbjoijedjaaGreatB18
import Derived.Test.YtciojbjoijedjaaGreatB17
namespace Go.Proofs.YtciojbjoijedjaaGreat
open Go.RowKit
set_option maxRecDepth 100000 in
set_option maxHeartbeats 1000000 in
theorem rRegs_s (l : Lat) (hpl : l.ps.length ≤ 1000000) (ih : ∀ q ∈ l.ps, FC Tryz.prog 28 [.agg (latL q)] (bl (regsB q))) : FC Tryz.prog 28 [.agg (latL l)] (bl (regsB l)) := by
 refine fc_of_awp [2] Tryz.func28 rfl rfl 20 Tryz.ntmps28 (Nat.le_of_ble_eq_true rfl) ?_
 intro E hN
 refine zG ?_
 refine zX ?_
 refine zT ?_
 refine zH ?_
 refine zF ?_
 refine zL ?_
 refine zB ?_
 refine zN ?_
 refine c_cond rfl (fun h5 => ?_) (fun h5 => ?_)
 ·
  have h1 : (l.k == 9) = true := h5
  refine zG ?_
  refine zS ?_
  refine zQ ?_
  exact retB (by rw [regsB_eq, h1]; rfl)
 have h1 : (l.k == 9) = false := h5
 refine zW ?_
 refine zH ?_
 refine zT ?_
 refine awp_block ?_
 refine awp_loop (fun x : {k : Nat // k ≤ (l.ps).length ∧ (l.ps.drop k).any regsB = l.ps.any regsB} => ⟨[(1, .ptr 0 0), (3, i64 (x.1 : Nat))], [(0, .var 26 (latL l))], 1⟩) (fun x => (l.ps).length - x.1) (⟨0, Nat.zero_le _, by simp⟩) ?_ ?_
 ·
  exact weak_scrub' rfl (zz2 trivial) ⟨rfl, rfl, rfl, trivial⟩
 rintro ⟨k, hk, hg⟩
 dsimp only
 refine zH ?_
 refine zM ?_
 refine zF ?_
 refine zL ?_
 refine zE ?_
 refine zB ?_
 refine zN ?_
 refine c_cond rfl (fun h11 => ?_) (fun h11 => ?_)
 ·
  have hlt : k < (l.ps).length := by simpa using h11
  obtain ⟨x, hx⟩ := get_lt hlt
  refine zW ?_
  refine awp_seq ?_
  refine awp_block ?_
  refine zG ?_
  refine zF ?_
  refine zL ?_
  refine zM ?_
  refine zP (q_elem rfl rfl rfl k rfl _ (lat_get hx) rfl) ?_
  refine zL ?_
  refine zP (q_call (ih x (List.mem_of_getElem? hx)) rfl rfl rfl) ?_
  refine zN ?_
  refine c_cond rfl (fun h16 => ?_) (fun h16 => ?_)
  ·
   have h6 : regsB x = true := h16
   refine zG ?_
   refine zS ?_
   refine zQ ?_
   exact retB (by rw [regsB_eq, h1, any_yes hg hx h6]; rfl)
  have h6 : regsB x = false := h16
  refine awp_skip ?_
  change AWP _ _ _ _  _
  refine awp_region ?_
  refine zM ?_
  refine zP (q_addi rfl rfl rfl (by omega)) ?_
  refine zS ?_
  refine aops_nil ?_
  exact ⟨⟨k + 1, hlt, any_go hg hx h6⟩, weak_scrub' rfl (zz1 ⟨(cgI (by dsimp only; omega)), rfl, trivial⟩) ⟨rfl, rfl, rfl, trivial⟩, by dsimp only; omega⟩
 have hge : (l.ps).length ≤ k := by simpa using h11
 refine awp_exit ?_
 change AWP _ _ _ _  _
 refine zG ?_
 refine zS ?_
 refine zQ ?_
 exact retB (by rw [regsB_eq, h1, any_end hg hge]; rfl)
theorem rRegs_fc (l : Lat) (hO : OkL l) : FC Tryz.prog 28 [.agg (latL l)] (bl (regsB l)) := rRegs_s l (by have := hO.small; omega) (fun q hq => rRegs_fc q (hO.part q hq))
termination_by l
decreasing_by exact Lat.sizeOf_ps ‹_›
end Go.Proofs.YtciojbjoijedjaaGreat
