/-
  Contracts: Join, JoinAll, Meet, Comparable, Maximal.
  Plain words: chains.
  Contracts: chains.
-/
import Derived.Test.YtaecccdkjmipeaaGreatB13
import Derived.Test.YtaecccdkjmipeaaGreatA4
import Derived.Test.YtaecccdkjmipeaaGreatA6
namespace Go.Proofs.YtaecccdkjmipeaaGreat
open Go.RowKit
set_option maxRecDepth 100000 in
set_option maxHeartbeats 1000000 in
theorem joinAll_fc (l : Lat) (vs : List Val) (hF : checkJ l vs = 0 → FoldOk l vs) : FC Tryz.prog 96 [.agg (latL l), vals vs] (.tup [.agg (valL (joinAllV l vs).1), i64 (joinAllV l vs).2]) := by
 refine fc_of_awpR [.c 4 30 4 true, .t 5] ⟨⟨inferInstance, rfl⟩, trivial⟩ Tryz.func96 rfl rfl 32 Tryz.ntmps96 (Nat.le_of_ble_eq_true rfl) ?_
 intro E hN
 refine rn11 ?_; refine zP (q_call (checkJ_fc l vs) rfl rfl rfl) ?_; refine rn7 ?_
 refine zq ?_ ?_ <;> intro h7
 ·
  have h2 : ¬ checkJ l vs = 0 := by simpa using h7
  refine rn7 ?_; refine awp_ret ?_
  change (resY _ _).bind AV.fzt = some _
  refine ret_r rfl ?_
  rw [joinAllV, if_neg h2]; rfl
 have h2 : checkJ l vs = 0 := by simpa using h7
 have hc := checkJ_ok h2
 have hbt : (bottomC l).1 = bottomV l := by rw [bottomC, if_pos hc.1]
 refine rn4 ?_; refine zP (q_call (least_fc l) rfl rfl rfl) ?_; refine rn11 ?_
 refine awp_loop (fun x : {k : Nat // k ≤ (vs).length ∧ True} => ⟨[(2, .ptr 0 0), (4, .ptr 1 0), (7, .ptr 2 0), (19, vals vs), (20, i64 vs.length), (21, i64 (x.1 : Nat))], [(0, .var 26 (latL l)), (1, .var 30 [i64 0, .p (.slice none 0 0), .p (.slice none 0 0), .p (.slice none 0 0)]), (2, .var 30 (valL (foldJ l (vs.take x.1))))], 3⟩) (fun x => (vs).length - x.1) (⟨0, Nat.zero_le _, by simp⟩) ?_ ?_
 ·
  exact weak_scrub' rfl (zz4 ⟨(cgI (by simp)), rfl, (zz1 trivial)⟩) ⟨rfl, rfl, rfl, rfl, rfl, rfl, (cgVal (by rw [hbt]; rfl)), rfl, rfl, trivial⟩
 rintro ⟨k, hk, hg⟩
 dsimp only
 refine a_lm 19 rfl (fun hl19 => ?_)
 refine rn5 ?_
 refine zq ?_ ?_ <;> intro h21
 ·
  have hlt : k < (vs).length := by simpa using h21
  obtain ⟨x, hx⟩ := get_lt hlt
  refine rn5 ?_; refine zP (q_elem rfl rfl rfl k rfl _ (val_get hx) rfl) ?_; refine rn8 ?_
  refine zP (q_call (join_fc l (check_ok hc.1) (hF h2).1 (foldJ l (vs.take k)) x ((hF h2).2.2 k hk).1 (hc.2 x (List.mem_of_getElem? hx)) ((hF h2).2.2 k hk).2 ((hF h2).2.1 x (List.mem_of_getElem? hx))) rfl rfl rfl) ?_
  refine rn3 ?_; refine zP (q_addi rfl rfl rfl (by omega)) ?_; refine zM ?_; refine aops_nil ?_
  exact ⟨⟨k + 1, hlt, trivial⟩, weak_scrub' rfl (zz4 (zz1 ⟨(cgI (by dsimp only; omega)), rfl, trivial⟩)) ⟨rfl, rfl, rfl, rfl, rfl, rfl, (cgVal (foldJ_succ hx).symm), rfl, rfl, trivial⟩, by dsimp only; omega⟩
 have hge : (vs).length ≤ k := by simpa using h21
 rw [List.take_of_length_le hge]
 refine rn4 ?_
 refine zP (q_call (copied_fc (foldJ l vs) (by have := ((hF h2).2.2 vs.length (Nat.le_refl _)).2; rw [List.take_length] at this; exact this.up (by decide))) rfl rfl rfl) ?_
 refine rn3 ?_; refine awp_ret ?_
 change (resY _ _).bind AV.fzt = some _
 refine ret_r rfl ?_
 rw [joinAllV, if_pos h2]
set_option maxRecDepth 100000 in
set_option maxHeartbeats 1000000 in
theorem Join_fc (l : Lat) (a b : Val) (hF : checkJ l [a, b] = 0 → FoldOk l [a, b]) : FC Tryz.prog 59 [.agg (latL l), .agg (valL a), .agg (valL b)] (.tup [.agg (valL (joinAllV l [a, b]).1), i64 (joinAllV l [a, b]).2]) := by
 refine fc_of_awpR [.c 6 30 4 true, .t 7] ⟨⟨inferInstance, rfl⟩, trivial⟩ Tryz.func59 rfl rfl 15 Tryz.ntmps59 (Nat.le_of_ble_eq_true rfl) ?_
 intro E hN
 refine rn13 ?_; refine zP (q_bslice2 rfl rfl rfl rfl (by exact rfl) (by decide) (by decide) (vals_2 a b)) ?_
 refine zP (q_call (joinAll_fc l [a, b] hF) rfl rfl rfl) ?_; refine rn5 ?_; refine awp_ret ?_
 change (resY _ _).bind AV.fzt = some _
 refine ret_r rfl ?_
 rfl
end Go.Proofs.YtaecccdkjmipeaaGreat

namespace Go.Proofs.YtaecccdkjmipeaaGreat
open Go.RowKit
end Go.Proofs.YtaecccdkjmipeaaGreat

namespace Go.Proofs.YtaecccdkjmipeaaGreat
open Go.RowKit
end Go.Proofs.YtaecccdkjmipeaaGreat
