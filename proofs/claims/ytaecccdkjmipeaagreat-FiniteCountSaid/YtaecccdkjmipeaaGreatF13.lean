/-
  Contracts: finite.all at Flat, Set, Closed; too many numbers (seat r5).
-/
import Derived.Test.YtaecccdkjmipeaaGreatF12
import Derived.Test.YtaecccdkjmipeaaGreatA10
namespace Go.Proofs.YtaecccdkjmipeaaGreat
open Go.RowKit
abbrev nilP : AV := .p (.slice none 0 0)
/-- the elements of a Flat -/
def flatV (nm : List Nm) : List Val := [Val.zero, .mk 2 [] [] []] ++ nm.map fun s => .mk 1 [s] [] []
theorem flat_cells (s : Nm) : chunkA 4 1 [i64 1, .sl [[sv s]] none, .sl [] none, .sl [] none] = [valC (.mk 1 [s] [] [])] := by rw [valC_eq]; rfl
theorem flatV_succ {nm : List Nm} {k : Nat} {s : Nm} (h : nm[k]? = some s) : flatV (nm.take (k + 1)) = flatV (nm.take k) ++ [.mk 1 [s] [] []] := by
 unfold flatV
 rw [List.take_add_one, h, List.map_append, List.append_assoc]; rfl
theorem flatV_len (nm : List Nm) : (flatV nm).length = nm.length + 2 := by simp [flatV]
set_option maxRecDepth 100000 in
set_option maxHeartbeats 1000000 in
theorem allFlat_gx (lo hi : Int) (nm : List Nm) (ps : List Lat) (rs : List Ru) (h32 : nm.length ≤ 64) : GV 48 [.agg (latL (.mk 8 lo hi nm ps rs))] (flatV nm) 1 2 := by
 refine gx_of_awp [2, 3] Tryz.func48 rfl rfl 91 Tryz.ntmps48 (Nat.le_of_ble_eq_true rfl) ?_
 intro E hN
 refine rn18 ?_; refine c_false rfl rfl ?_; refine rn6 ?_; refine c_false rfl rfl ?_; refine rn4 ?_; refine c_false rfl rfl ?_; refine rn5 ?_
 refine c_false rfl rfl ?_; refine rn5 ?_; refine c_false rfl rfl ?_; refine rn5 ?_; refine c_true rfl rfl ?_; refine rn4 ?_
 refine s_bsliceO hN rfl rfl rfl rfl (n := 4) rfl (by decide) (by decide) (es := [[i64 0, nilP, nilP, nilP], [i64 2, nilP, nilP, nilP]]) rfl rfl (by intro e he; simp at he; rcases he with rfl | rfl <;> rfl) rfl rfl rfl rfl ?_
 refine rn4 ?_
 refine awp_weak (weak_nila 1 rfl (es' := [valL Val.zero, valL (.mk 2 [] [] [])]) rfl (by intro e he; simp at he; rcases he with rfl | rfl <;> rfl) rfl) ?_
 refine rn7 ?_
 refine awp_loop (fun x : {k : Nat // k ≤ nm.length ∧ True} => ⟨[(4, .own 1 (flatV (nm.take x.1)).length), (51, svs nm), (52, i64 nm.length), (53, i64 (x.1 : Nat))], [(1, .arr 30 4 ((flatV (nm.take x.1)).map valC))], 2⟩) (fun x => nm.length - x.1) (⟨0, Nat.zero_le _, by trivial⟩) ?_ ?_
 ·
  exact weak_scrub' rfl (zz2 ⟨(cgI (by rw [List.length_map]; rfl)), rfl, (zz1 trivial)⟩) ⟨(cgA (by simp [flatV, valC_eq])), rfl, (ok_vals _), trivial⟩
 rintro ⟨k, hk, gk⟩
 dsimp only
 refine rn5 ?_
 refine zq ?_ ?_ <;> intro h21
 ·
  have ltk : k < nm.length := by simpa using h21
  obtain ⟨s, hks⟩ := get_lt ltk
  refine rn5 ?_; refine zP (q_elem rfl rfl rfl k rfl _ (map_get hks) rfl) ?_; refine rn6 ?_
  refine zP (q_bslice rfl rfl rfl rfl (by exact rfl) (by decide) (by decide)) ?_; refine rn1 ?_
  refine zP (q_bslice rfl rfl rfl rfl (by exact rfl) (by decide) (by decide)) ?_
  refine s_append_own hN rfl rfl rfl (by simp) rfl rfl (by rfl) (by have := flatV_len (nm.take k); rw [List.length_take] at this; simp [chunkA]; omega) rfl rfl rfl rfl ?_
  refine rn3 ?_; refine zP (q_addi rfl rfl rfl (by omega)) ?_; refine zM ?_; refine aops_nil ?_
  exact ⟨⟨k + 1, ltk, trivial⟩, weak_scrub' rfl ⟨(cgO (by rw [flatV_succ hks]; simp [chunkA])), rfl, (zz2 ⟨(cgI (by dsimp only; omega)), rfl, trivial⟩)⟩ ⟨(cgA (by rw [flatV_succ hks, List.map_append, List.map_cons, List.map_nil, ← flat_cells]; rfl)), rfl, (ok_vals _), trivial⟩, by dsimp only; omega⟩
 have gek : nm.length ≤ k := by simpa using h21
 have htk : nm.take k = nm := List.take_of_length_le gek
 rw [htk]
 refine rn7 ?_; refine awp_ret ?_
 change (resX _ _).ntt = _ ∧ _
 refine ret_x rfl ?_ rfl rfl rfl ⟨rfl, rfl, ok_vals _, trivial⟩
 rfl
theorem subsV_le (acc : List Nm → Bool) (l : List Nm) (B : Nat) : (subsV acc l B).length ≤ B := by
 unfold subsV
 rw [List.length_map]
 exact Nat.le_trans (List.length_filter_le _ _) (by simp)
theorem subsV_256 {acc : List Nm → Bool} {l : List Nm} (h : l.length ≤ 8) : (subsV acc l (2 ^ l.length)).length ≤ 256 := Nat.le_trans (subsV_le _ _ _) (Nat.pow_le_pow_right (by decide) h)
set_option maxRecDepth 100000 in
set_option maxHeartbeats 1000000 in
theorem allSet_gx (lo hi : Int) (nm : List Nm) (ps : List Lat) (rs : List Ru) (h8 : nm.length ≤ 8) : GV 48 [.agg (latL (.mk 4 lo hi nm ps rs))] (subsV (fun _ => true) nm (2 ^ nm.length)) 1 2 := by
 refine gx_of_awp [2, 3] Tryz.func48 rfl rfl 91 Tryz.ntmps48 (Nat.le_of_ble_eq_true rfl) ?_
 intro E hN
 refine rn18 ?_; refine c_false rfl rfl ?_; refine rn6 ?_; refine c_false rfl rfl ?_; refine rn4 ?_; refine c_false rfl rfl ?_; refine rn5 ?_
 refine c_true rfl rfl ?_; refine rn6 ?_
 refine zP (q_binb (b := false) rfl rfl rfl (by simp [show (Lat.mk 4 lo hi nm ps rs).nm = nm from rfl]; omega)) ?_
 refine zN ?_; refine c_false rfl rfl ?_; refine rn5 ?_
 refine s_xcall hN [] (subsets_gx nm (by omega) (acc := fun _ => true) (fun s => all1_fc s) (subsV_256 h8)) (.fn _ _ _ _ rfl rfl) rfl rfl rfl trivial rfl ⟨in_fz (fzs_vals _), trivial⟩ rfl (Hn := [(1, .arr 30 4 ((subsV (fun _ => true) nm (2 ^ nm.length)).map valC))]) (ren_arr (fzs_vals _)) rfl rfl rfl rfl rfl rfl ?_
 refine rn5 ?_; refine awp_ret ?_
 change (resX _ _).ntt = _ ∧ _
 refine ret_x rfl ?_ rfl rfl rfl ⟨rfl, rfl, ok_vals _, trivial⟩
 rfl
set_option maxRecDepth 100000 in
set_option maxHeartbeats 1000000 in
theorem allSetN_fc (lo hi : Int) (nm : List Nm) (ps : List Lat) (rs : List Ru) (h8 : 8 < nm.length) : FC Tryz.prog 48 [.agg (latL (.mk 4 lo hi nm ps rs))] (.tup [.sl [] none, bl false]) := by
 refine fc_of_awp [2, 3] Tryz.func48 rfl rfl 91 Tryz.ntmps48 (Nat.le_of_ble_eq_true rfl) ?_
 intro E hN
 refine rn18 ?_; refine c_false rfl rfl ?_; refine rn6 ?_; refine c_false rfl rfl ?_; refine rn4 ?_; refine c_false rfl rfl ?_; refine rn5 ?_
 refine c_true rfl rfl ?_; refine rn6 ?_
 refine zP (q_binb (b := true) rfl rfl rfl (by simp [show (Lat.mk 4 lo hi nm ps rs).nm = nm from rfl]; omega)) ?_
 refine zN ?_; refine c_true rfl rfl ?_; refine rn4 ?_; refine zQ ?_
 rfl
set_option maxRecDepth 100000 in
set_option maxHeartbeats 1000000 in
theorem allClosed_gx (lo hi : Int) (nm : List Nm) (ps : List Lat) (rs : List Ru) (h12 : nm.length ≤ 12) (h256 : (subsV (closedB rs) nm (2 ^ nm.length)).length ≤ 256) : GV 48 [.agg (latL (.mk 10 lo hi nm ps rs))] (subsV (closedB rs) nm (2 ^ nm.length)) 1 2 := by
 refine gx_of_awp [2, 3] Tryz.func48 rfl rfl 91 Tryz.ntmps48 (Nat.le_of_ble_eq_true rfl) ?_
 intro E hN
 refine rn18 ?_; refine c_false rfl rfl ?_; refine rn6 ?_; refine c_false rfl rfl ?_; refine rn4 ?_; refine c_false rfl rfl ?_; refine rn5 ?_
 refine c_false rfl rfl ?_; refine rn5 ?_; refine c_true rfl rfl ?_; refine rn1 ?_; refine awp_weak (weak_freeze 1 0 rfl rfl rfl rfl) ?_; refine rn3 ?_
 refine zP (q_func rfl rfl) ?_
 refine s_xcall hN [] (subsetsE_gx nm h12 (acc := closedB rs) (fun s => all2_fc (.mk 10 lo hi nm ps rs) s) h256) (.fn _ _ _ _ rfl rfl) rfl rfl rfl trivial rfl ⟨in_fz (fzs_vals _), trivial⟩ rfl (Hn := [(1, .arr 30 4 ((subsV (closedB rs) nm (2 ^ nm.length)).map valC))]) (ren_arr (fzs_vals _)) rfl rfl rfl rfl rfl rfl ?_
 refine rn5 ?_; refine awp_ret ?_
 change (resX _ _).ntt = _ ∧ _
 refine ret_x rfl ?_ rfl rfl rfl ⟨rfl, rfl, ok_vals _, trivial⟩
 rfl
set_option maxRecDepth 100000 in
set_option maxHeartbeats 1000000 in
theorem allClosedN_fc (lo hi : Int) (nm : List Nm) (ps : List Lat) (rs : List Ru) (h12 : nm.length ≤ 12) (h256 : 256 < (subsV (closedB rs) nm (2 ^ nm.length)).length) : FC Tryz.prog 48 [.agg (latL (.mk 10 lo hi nm ps rs))] (.tup [.sl [] none, bl false]) := by
 refine fc_of_awp [2, 3] Tryz.func48 rfl rfl 91 Tryz.ntmps48 (Nat.le_of_ble_eq_true rfl) ?_
 intro E hN
 refine rn18 ?_; refine c_false rfl rfl ?_; refine rn6 ?_; refine c_false rfl rfl ?_; refine rn4 ?_; refine c_false rfl rfl ?_; refine rn5 ?_
 refine c_false rfl rfl ?_; refine rn5 ?_; refine c_true rfl rfl ?_; refine rn1 ?_; refine awp_weak (weak_freeze 1 0 rfl rfl rfl rfl) ?_; refine rn3 ?_
 refine zP (q_func rfl rfl) ?_
 refine zP (q_call (subsetsEN_fc nm h12 (acc := closedB rs) (fun s => all2_fc (.mk 10 lo hi nm ps rs) s) h256) rfl rfl rfl) ?_; refine rn4 ?_
 refine zQ ?_
 rfl
set_option maxRecDepth 100000 in
set_option maxHeartbeats 1000000 in
theorem numbersN_fc (lo hi : Int) (h1 : 256 ≤ hi - lo) (h3 : -1000000000 ≤ lo) (h4 : hi ≤ 1000000000) : FC Tryz.prog 69 [i64 lo, i64 hi] (.tup [.sl [] none, bl false]) := by
 refine fc_of_awp [4, 5] Tryz.func69 rfl rfl 24 Tryz.ntmps69 (Nat.le_of_ble_eq_true rfl) ?_
 intro E hN
 refine rn10 ?_; refine zP (q_subi rfl rfl rfl (by omega)) ?_
 refine zP (q_binb (b := true) rfl rfl rfl (by simp; omega)) ?_
 refine zN ?_; refine c_true rfl rfl ?_; refine rn4 ?_; refine zQ ?_
 rfl
set_option maxRecDepth 100000 in
set_option maxHeartbeats 1000000 in
theorem allMaxN_fc (lo hi : Int) (nm : List Nm) (ps : List Lat) (rs : List Ru) (h1 : 256 ≤ hi - lo) (h3 : -1000000000 ≤ lo) (h4 : hi ≤ 1000000000) : FC Tryz.prog 48 [.agg (latL (.mk 2 lo hi nm ps rs))] (.tup [.sl [] none, bl false]) := by
 refine fc_of_awp [2, 3] Tryz.func48 rfl rfl 91 Tryz.ntmps48 (Nat.le_of_ble_eq_true rfl) ?_
 intro E hN
 refine rn18 ?_; refine c_false rfl rfl ?_; refine rn6 ?_; refine c_true rfl rfl ?_; refine zW ?_; refine c_true rfl rfl ?_; refine rn6 ?_
 refine zP (q_call (numbersN_fc lo hi h1 h3 h4) rfl rfl rfl) ?_; refine rn4 ?_; refine zQ ?_
 rfl
set_option maxRecDepth 100000 in
set_option maxHeartbeats 1000000 in
theorem allMinN_fc (lo hi : Int) (nm : List Nm) (ps : List Lat) (rs : List Ru) (h1 : 256 ≤ hi - lo) (h3 : -1000000000 ≤ lo) (h4 : hi ≤ 1000000000) : FC Tryz.prog 48 [.agg (latL (.mk 3 lo hi nm ps rs))] (.tup [.sl [] none, bl false]) := by
 refine fc_of_awp [2, 3] Tryz.func48 rfl rfl 91 Tryz.ntmps48 (Nat.le_of_ble_eq_true rfl) ?_
 intro E hN
 refine rn18 ?_; refine c_false rfl rfl ?_; refine rn6 ?_; refine c_false rfl rfl ?_; refine rn4 ?_; refine c_true rfl rfl ?_; refine rn6 ?_
 refine zP (q_call (numbersN_fc lo hi h1 h3 h4) rfl rfl rfl) ?_; refine rn4 ?_; refine zQ ?_
 rfl
set_option maxRecDepth 100000 in
set_option maxHeartbeats 1000000 in
theorem allMaxG_gx (lo hi : Int) (nm : List Nm) (ps : List Lat) (rs : List Ru) (N : Nat) (h1 : hi - lo + 1 = (N : Int)) (h2 : N ≤ 256) (h3 : -1000000000 ≤ lo) (h4 : hi ≤ 1000000000) : GV 48 [.agg (latL (.mk 2 lo hi nm ps rs))] (numsV lo N) 1 2 := by
 refine gx_of_awp [2, 3] Tryz.func48 rfl rfl 91 Tryz.ntmps48 (Nat.le_of_ble_eq_true rfl) ?_
 intro E hN
 refine rn18 ?_; refine c_false rfl rfl ?_; refine rn6 ?_; refine c_true rfl rfl ?_; refine zW ?_; refine c_true rfl rfl ?_; refine rn6 ?_
 refine s_xcall hN [] (numbers_gx lo hi N h1 h2 h3 h4) (.fn _ _ _ _ rfl rfl) rfl rfl rfl trivial rfl ⟨in_fz (fzs_vals _), trivial⟩ rfl (Hn := [(1, .arr 30 4 ((numsV lo N).map valC))]) (ren_arr (fzs_vals _)) rfl rfl rfl rfl rfl rfl ?_
 refine rn5 ?_; refine awp_ret ?_
 change (resX _ _).ntt = _ ∧ _
 refine ret_x rfl ?_ rfl rfl rfl ⟨rfl, rfl, ok_vals _, trivial⟩
 rfl
set_option maxRecDepth 100000 in
set_option maxHeartbeats 1000000 in
theorem allMinG_gx (lo hi : Int) (nm : List Nm) (ps : List Lat) (rs : List Ru) (N : Nat) (h1 : hi - lo + 1 = (N : Int)) (h2 : N ≤ 256) (h3 : -1000000000 ≤ lo) (h4 : hi ≤ 1000000000) : GV 48 [.agg (latL (.mk 3 lo hi nm ps rs))] (numsV lo N) 1 2 := by
 refine gx_of_awp [2, 3] Tryz.func48 rfl rfl 91 Tryz.ntmps48 (Nat.le_of_ble_eq_true rfl) ?_
 intro E hN
 refine rn18 ?_; refine c_false rfl rfl ?_; refine rn6 ?_; refine c_false rfl rfl ?_; refine rn4 ?_; refine c_true rfl rfl ?_; refine rn6 ?_
 refine s_xcall hN [] (numbers_gx lo hi N h1 h2 h3 h4) (.fn _ _ _ _ rfl rfl) rfl rfl rfl trivial rfl ⟨in_fz (fzs_vals _), trivial⟩ rfl (Hn := [(1, .arr 30 4 ((numsV lo N).map valC))]) (ren_arr (fzs_vals _)) rfl rfl rfl rfl rfl rfl ?_
 refine rn5 ?_; refine awp_ret ?_
 change (resX _ _).ntt = _ ∧ _
 refine ret_x rfl ?_ rfl rfl rfl ⟨rfl, rfl, ok_vals _, trivial⟩
 rfl
set_option maxRecDepth 100000 in
set_option maxHeartbeats 1000000 in
theorem allFlagG_gx (lo hi : Int) (nm : List Nm) (ps : List Lat) (rs : List Ru) : GV 48 [.agg (latL (.mk 1 lo hi nm ps rs))] (numsV 0 2) 1 2 := by
 refine gx_of_awp [2, 3] Tryz.func48 rfl rfl 91 Tryz.ntmps48 (Nat.le_of_ble_eq_true rfl) ?_
 intro E hN
 refine rn18 ?_; refine c_true rfl rfl ?_; refine zG ?_
 refine s_xcall hN [] (numbers_gx 0 1 2 rfl (by decide) (by decide) (by decide)) (.fn _ _ _ _ rfl rfl) rfl rfl rfl trivial rfl ⟨in_fz (fzs_vals _), trivial⟩ rfl (Hn := [(1, .arr 30 4 ((numsV 0 2).map valC))]) (ren_arr (fzs_vals _)) rfl rfl rfl rfl rfl rfl ?_
 refine rn5 ?_; refine awp_ret ?_
 change (resX _ _).ntt = _ ∧ _
 refine ret_x rfl ?_ rfl rfl rfl ⟨rfl, rfl, ok_vals _, trivial⟩
 rfl
end Go.Proofs.YtaecccdkjmipeaaGreat
