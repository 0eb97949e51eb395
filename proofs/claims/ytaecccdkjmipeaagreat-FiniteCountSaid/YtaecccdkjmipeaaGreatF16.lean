/-
  Contracts: finite.all at Map (seat r5).
  Contracts: finite.all at Product and Lex (seat r5).
-/
import Derived.Test.YtaecccdkjmipeaaGreatF15
import Derived.Test.YtaecccdkjmipeaaGreatA10
namespace Go.Proofs.YtaecccdkjmipeaaGreat
open Go.RowKit
set_option maxRecDepth 100000 in
set_option maxHeartbeats 1000000 in
theorem allMap_gx (lo hi : Int) (nm : List Nm) (a : Lat) (rs : List Ru) (hc : checkX a = 0) (La : List Val) (hA : GV 48 [.agg (latL a)] La 0 1) (hl6 : La.length ≤ 1000000) (h0 : 0 < nm.length) (h64 : nm.length ≤ 64) (hL : (La.filter fun x => !eqV x (bottomV a)).length ≤ 256) (h256 : ∀ i, i ≤ nm.length → (mapsV (nm.take i) (La.filter fun x => !eqV x (bottomV a))).length ≤ 256) : GV 48 [.agg (latL (.mk 5 lo hi nm [a] rs))] (mapsV nm (La.filter fun x => !eqV x (bottomV a))) 2 3 := by
 refine gx_of_awp [2, 3] Tryz.func48 rfl rfl 91 Tryz.ntmps48 (Nat.le_of_ble_eq_true rfl) ?_
 intro E hN
 refine rn18 ?_; refine c_false rfl rfl ?_; refine rn6 ?_; refine c_false rfl rfl ?_; refine rn4 ?_; refine c_false rfl rfl ?_; refine rn5 ?_
 refine c_false rfl rfl ?_; refine rn5 ?_; refine c_false rfl rfl ?_; refine rn5 ?_; refine c_false rfl rfl ?_; refine rn5 ?_; refine c_true rfl rfl ?_
 refine rn1 ?_; refine awp_weak (weak_freeze 1 0 rfl rfl rfl rfl) ?_; refine rn3 ?_
 refine zP (q_elem rfl rfl rfl 0 rfl _ (lat_get (l := [a]) rfl) rfl) ?_; refine zL ?_
 refine s_xcall hN [] hA (.fn _ _ _ _ rfl rfl) rfl rfl rfl trivial rfl ⟨in_fz (fzs_vals _), trivial⟩ rfl (Hn := [(1, .arr 30 4 (La.map valC))]) (ren_arr (fzs_vals _)) rfl rfl rfl rfl rfl rfl ?_
 refine rn12 ?_; refine c_false rfl rfl ?_; refine rn4 ?_; refine zP (q_func rfl rfl) ?_
 refine s_xeat hN 1 (delF_gx La (fun y _ => all3_fc (.mk 5 lo hi nm [a] rs) a rfl hc y) hl6) (.fn _ _ _ _ rfl rfl) rfl rfl (congrArg (AObj.arr _ 4) (ren_id (fzs_vals La))) rfl (big_vals La) rfl rfl rfl rfl rfl rfl rfl rfl ?_
 refine rn7 ?_
 refine s_xcall hN [] (maps_gx nm (La.filter fun x => !eqV x (bottomV a)) h0 h64 hL h256) (.fn _ _ _ _ rfl rfl) rfl rfl rfl trivial rfl ⟨in_fz (fzs_vals _), trivial⟩ rfl (Hn := [(2, .arr 30 4 ((mapsV nm (La.filter fun x => !eqV x (bottomV a))).map valC))]) (ren_arr (fzs_vals _)) rfl rfl rfl rfl rfl rfl ?_
 refine rn5 ?_; refine awp_ret ?_
 change (resX _ _).ntt = _ ∧ _
 refine ret_x rfl ?_ rfl rfl rfl ⟨rfl, rfl, ok_vals _, trivial⟩
 rfl
set_option maxRecDepth 100000 in
set_option maxHeartbeats 1000000 in
theorem allMapA_fc (lo hi : Int) (nm : List Nm) (a : Lat) (rs : List Ru) (hA : FC Tryz.prog 48 [.agg (latL a)] (.tup [.sl [] none, bl false])) : FC Tryz.prog 48 [.agg (latL (.mk 5 lo hi nm [a] rs))] (.tup [.sl [] none, bl false]) := by
 refine fc_of_awp [2, 3] Tryz.func48 rfl rfl 91 Tryz.ntmps48 (Nat.le_of_ble_eq_true rfl) ?_
 intro E hN
 refine rn18 ?_; refine c_false rfl rfl ?_; refine rn6 ?_; refine c_false rfl rfl ?_; refine rn4 ?_; refine c_false rfl rfl ?_; refine rn5 ?_
 refine c_false rfl rfl ?_; refine rn5 ?_; refine c_false rfl rfl ?_; refine rn5 ?_; refine c_false rfl rfl ?_; refine rn5 ?_; refine c_true rfl rfl ?_
 refine rn4 ?_; refine zP (q_elem rfl rfl rfl 0 rfl _ (lat_get (l := [a]) rfl) rfl) ?_; refine zL ?_; refine zP (q_call hA rfl rfl rfl) ?_
 refine rn12 ?_; refine c_true rfl rfl ?_; refine rn4 ?_; refine zQ ?_
 rfl
set_option maxRecDepth 100000 in
set_option maxHeartbeats 1000000 in
theorem allMapB_fc (lo hi : Int) (nm : List Nm) (a : Lat) (rs : List Ru) (hc : checkX a = 0) (La : List Val) (hA : GV 48 [.agg (latL a)] La 0 1) (hl6 : La.length ≤ 1000000) (i0 : Nat) (hi0 : i0 < nm.length) (h64 : nm.length ≤ 64) (hL : (La.filter fun x => !eqV x (bottomV a)).length ≤ 256) (h256 : ∀ i, i ≤ i0 → (mapsV (nm.take i) (La.filter fun x => !eqV x (bottomV a))).length ≤ 256) (hbig : 256 < (mapsV (nm.take (i0 + 1)) (La.filter fun x => !eqV x (bottomV a))).length) : FC Tryz.prog 48 [.agg (latL (.mk 5 lo hi nm [a] rs))] (.tup [.sl [] none, bl false]) := by
 refine fc_of_awp [2, 3] Tryz.func48 rfl rfl 91 Tryz.ntmps48 (Nat.le_of_ble_eq_true rfl) ?_
 intro E hN
 refine rn18 ?_; refine c_false rfl rfl ?_; refine rn6 ?_; refine c_false rfl rfl ?_; refine rn4 ?_; refine c_false rfl rfl ?_; refine rn5 ?_
 refine c_false rfl rfl ?_; refine rn5 ?_; refine c_false rfl rfl ?_; refine rn5 ?_; refine c_false rfl rfl ?_; refine rn5 ?_; refine c_true rfl rfl ?_
 refine rn1 ?_; refine awp_weak (weak_freeze 1 0 rfl rfl rfl rfl) ?_; refine rn3 ?_
 refine zP (q_elem rfl rfl rfl 0 rfl _ (lat_get (l := [a]) rfl) rfl) ?_; refine zL ?_
 refine s_xcall hN [] hA (.fn _ _ _ _ rfl rfl) rfl rfl rfl trivial rfl ⟨in_fz (fzs_vals _), trivial⟩ rfl (Hn := [(1, .arr 30 4 (La.map valC))]) (ren_arr (fzs_vals _)) rfl rfl rfl rfl rfl rfl ?_
 refine rn12 ?_; refine c_false rfl rfl ?_; refine rn4 ?_; refine zP (q_func rfl rfl) ?_
 refine s_xeat hN 1 (delF_gx La (fun y _ => all3_fc (.mk 5 lo hi nm [a] rs) a rfl hc y) hl6) (.fn _ _ _ _ rfl rfl) rfl rfl (congrArg (AObj.arr _ 4) (ren_id (fzs_vals La))) rfl (big_vals La) rfl rfl rfl rfl rfl rfl rfl rfl ?_
 refine rn7 ?_; refine zP (q_call (mapsN_fc nm (La.filter fun x => !eqV x (bottomV a)) i0 hi0 h64 hL h256 hbig) rfl rfl rfl) ?_; refine rn4 ?_
 refine zQ ?_
 rfl
end Go.Proofs.YtaecccdkjmipeaaGreat

namespace Go.Proofs.YtaecccdkjmipeaaGreat
open Go.RowKit
set_option maxRecDepth 100000 in
set_option maxHeartbeats 1000000 in
theorem allProd6_gx (lo hi : Int) (nm : List Nm) (ps : List Lat) (rs : List Ru) (L : List Val) (hP : GV 78 [.sl (ps.map latC) none] L 0 1) : GV 48 [.agg (latL (.mk 6 lo hi nm ps rs))] L 1 2 := by
 refine gx_of_awp [2, 3] Tryz.func48 rfl rfl 91 Tryz.ntmps48 (Nat.le_of_ble_eq_true rfl) ?_
 intro E hN
 refine rn18 ?_; refine c_false rfl rfl ?_; refine rn6 ?_; refine c_false rfl rfl ?_; refine rn4 ?_; refine c_false rfl rfl ?_; refine rn5 ?_
 refine c_false rfl rfl ?_; refine rn5 ?_; refine c_false rfl rfl ?_; refine rn5 ?_; refine c_false rfl rfl ?_; refine rn5 ?_
 refine c_false rfl rfl ?_; refine rn5 ?_
 refine s_xcall hN [] hP (.fn _ _ _ _ rfl rfl) rfl rfl rfl trivial rfl ⟨in_fz (fzs_vals _), trivial⟩ rfl (Hn := [(1, .arr 30 4 (L.map valC))]) (ren_arr (fzs_vals _)) rfl rfl rfl rfl rfl rfl ?_
 refine rn5 ?_; refine awp_ret ?_
 change (resX _ _).ntt = _ ∧ _
 refine ret_x rfl ?_ rfl rfl rfl ⟨rfl, rfl, ok_vals _, trivial⟩
 rfl
set_option maxRecDepth 100000 in
set_option maxHeartbeats 1000000 in
theorem allProd6N_fc (lo hi : Int) (nm : List Nm) (ps : List Lat) (rs : List Ru) (hP : FC Tryz.prog 78 [.sl (ps.map latC) none] (.tup [.sl [] none, bl false])) : FC Tryz.prog 48 [.agg (latL (.mk 6 lo hi nm ps rs))] (.tup [.sl [] none, bl false]) := by
 refine fc_of_awp [2, 3] Tryz.func48 rfl rfl 91 Tryz.ntmps48 (Nat.le_of_ble_eq_true rfl) ?_
 intro E hN
 refine rn18 ?_; refine c_false rfl rfl ?_; refine rn6 ?_; refine c_false rfl rfl ?_; refine rn4 ?_; refine c_false rfl rfl ?_; refine rn5 ?_
 refine c_false rfl rfl ?_; refine rn5 ?_; refine c_false rfl rfl ?_; refine rn5 ?_; refine c_false rfl rfl ?_; refine rn5 ?_
 refine c_false rfl rfl ?_; refine rn5 ?_; refine zP (q_call hP rfl rfl rfl) ?_; refine rn4 ?_; refine zQ ?_
 rfl
set_option maxRecDepth 100000 in
set_option maxHeartbeats 1000000 in
theorem allProd7_gx (lo hi : Int) (nm : List Nm) (ps : List Lat) (rs : List Ru) (L : List Val) (hP : GV 78 [.sl (ps.map latC) none] L 0 1) : GV 48 [.agg (latL (.mk 7 lo hi nm ps rs))] L 1 2 := by
 refine gx_of_awp [2, 3] Tryz.func48 rfl rfl 91 Tryz.ntmps48 (Nat.le_of_ble_eq_true rfl) ?_
 intro E hN
 refine rn18 ?_; refine c_false rfl rfl ?_; refine rn6 ?_; refine c_false rfl rfl ?_; refine rn4 ?_; refine c_false rfl rfl ?_; refine rn5 ?_
 refine c_false rfl rfl ?_; refine rn5 ?_; refine c_false rfl rfl ?_; refine rn5 ?_; refine c_false rfl rfl ?_; refine rn5 ?_
 refine c_false rfl rfl ?_; refine rn5 ?_
 refine s_xcall hN [] hP (.fn _ _ _ _ rfl rfl) rfl rfl rfl trivial rfl ⟨in_fz (fzs_vals _), trivial⟩ rfl (Hn := [(1, .arr 30 4 (L.map valC))]) (ren_arr (fzs_vals _)) rfl rfl rfl rfl rfl rfl ?_
 refine rn5 ?_; refine awp_ret ?_
 change (resX _ _).ntt = _ ∧ _
 refine ret_x rfl ?_ rfl rfl rfl ⟨rfl, rfl, ok_vals _, trivial⟩
 rfl
set_option maxRecDepth 100000 in
set_option maxHeartbeats 1000000 in
theorem allProd7N_fc (lo hi : Int) (nm : List Nm) (ps : List Lat) (rs : List Ru) (hP : FC Tryz.prog 78 [.sl (ps.map latC) none] (.tup [.sl [] none, bl false])) : FC Tryz.prog 48 [.agg (latL (.mk 7 lo hi nm ps rs))] (.tup [.sl [] none, bl false]) := by
 refine fc_of_awp [2, 3] Tryz.func48 rfl rfl 91 Tryz.ntmps48 (Nat.le_of_ble_eq_true rfl) ?_
 intro E hN
 refine rn18 ?_; refine c_false rfl rfl ?_; refine rn6 ?_; refine c_false rfl rfl ?_; refine rn4 ?_; refine c_false rfl rfl ?_; refine rn5 ?_
 refine c_false rfl rfl ?_; refine rn5 ?_; refine c_false rfl rfl ?_; refine rn5 ?_; refine c_false rfl rfl ?_; refine rn5 ?_
 refine c_false rfl rfl ?_; refine rn5 ?_; refine zP (q_call hP rfl rfl rfl) ?_; refine rn4 ?_; refine zQ ?_
 rfl
end Go.Proofs.YtaecccdkjmipeaaGreat
