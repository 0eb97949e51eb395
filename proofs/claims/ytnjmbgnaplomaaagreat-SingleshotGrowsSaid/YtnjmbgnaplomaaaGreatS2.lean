/-
  Contracts of the reference: the acceptor; ballots.
-/
import Derived.Test.YtnjmbgnaplomaaaGreatS1
namespace Go.Proofs.YtnjmbgnaplomaaaGreat
open Go.RowKit
theorem bottomC_v {l : Lat} (h : checkX l = 0) : (bottomC l).1 = bottomV l := by rw [bottomC, if_pos h]
set_option maxRecDepth 100000 in
set_option maxHeartbeats 1000000 in
theorem set34_fc (l : List Nm) : FC Tryz.prog 41 [svs l] (.agg (valL (.mk 0 l [] []))) := by
 refine fc_of_awpR [.c 2 41 4 true] ⟨⟨inferInstance, rfl⟩, trivial⟩ Tryz.func41 rfl rfl 5 Tryz.ntmps41 (Nat.le_of_ble_eq_true rfl) ?_
 intro E hN
 refine zG ?_
 refine zO ?_
 refine zA ?_
 refine zM ?_
 refine zP (q_build rfl rfl rfl) ?_
 refine zC ?_
 refine zN ?_
 refine awp_ret ?_
 change (resY _ _).bind AV.fzt = some _
 refine ret_r rfl ?_
 rfl
end Go.Proofs.YtnjmbgnaplomaaaGreat
