/-
  Contracts: the small functions of the Finite laws; the chapter's example (seat r5).
  Contracts: the laws FiniteCheck, FiniteMeets, FiniteIrreducibles (seat r5).
-/
import Derived.Test.YtaecccdkjmipeaaGreatF8
import Derived.Test.YtaecccdkjmipeaaGreatA10
namespace Go.Proofs.YtaecccdkjmipeaaGreat
open Go.RowKit
/-- few rows, few columns -/
def fewB (T : List (List Int)) : Bool := !decide ((T.length : Int) > 12) && T.all fun r => !decide ((r.length : Int) > 20)
set_option maxRecDepth 100000 in
set_option maxHeartbeats 1000000 in
theorem few_fc (T : List (List Int)) : FC Tryz.prog 27 [tabs T] (bl (fewB T)) := by
 refine fc_of_awp [2] Tryz.func27 rfl rfl 19 Tryz.ntmps27 (Nat.le_of_ble_eq_true rfl) ?_
 intro E hN
 refine a_lm 0 rfl (fun hl0 => ?_)
 refine zG ?_; refine zT ?_; refine zH ?_; refine zM ?_; refine zE ?_; refine zB ?_; refine zN ?_
 refine zq ?_ ?_ <;> intro h3
 ·
  have h2 := h3
  refine zG ?_; refine zS ?_; refine zQ ?_
  exact retB (by rw [fewB]; simp_all)
 have h2 := h3
 refine zW ?_; refine zH ?_; refine zT ?_; refine awp_block ?_
 refine awp_loop (fun x : {k : Nat // k ≤ (T).length ∧ (T.drop k).all (fun r => !decide ((r.length : Int) > 20)) = T.all (fun r => !decide ((r.length : Int) > 20))} => ⟨[(0, tabs T), (3, i64 (x.1 : Nat))], [], 0⟩) (fun x => (T).length - x.1) (⟨0, Nat.zero_le _, by simp⟩) ?_ ?_
 ·
  exact weak_scrub' rfl (zz2 trivial) trivial
 rintro ⟨k, hk, hg⟩
 dsimp only
 refine zH ?_; refine zM ?_; refine zM ?_; refine zE ?_; refine zB ?_; refine zN ?_
 refine zq ?_ ?_ <;> intro h7
 ·
  have hlt : k < (T).length := by simpa using h7
  obtain ⟨x, hx⟩ := get_lt hlt
  refine zW ?_; refine awp_seq ?_; refine awp_block ?_; refine zG ?_; refine zM ?_; refine zM ?_
  refine zP (q_elem rfl rfl rfl k rfl _ (map_get hx) rfl) ?_; refine zL ?_; refine zE ?_; refine zB ?_; refine zN ?_
  refine zq ?_ ?_ <;> intro h11
  ·
   refine zG ?_; refine zS ?_; refine zQ ?_
   exact retB (by rw [fewB, all_no hg hx (by simp_all), Bool.and_false])
  refine awp_skip ?_; change AWP _ _ _ _  _; refine awp_region ?_; refine zM ?_; refine zP (q_addi rfl rfl rfl (by omega)) ?_; refine zS ?_
  refine aops_nil ?_
  exact ⟨⟨k + 1, hlt, all_go hg hx (by simp_all)⟩, weak_scrub' rfl (zz1 ⟨(cgI (by dsimp only; omega)), rfl, trivial⟩) trivial, by dsimp only; omega⟩
 have hge : (T).length ≤ k := by simpa using h7
 refine awp_exit ?_; change AWP _ _ _ _  _; refine zG ?_; refine zS ?_; refine zQ ?_
 exact retB (by rw [fewB, all_end hg hge]; simp_all)
set_option maxRecDepth 100000 in
set_option maxHeartbeats 1000000 in
theorem same06_fc (l : List Int) : FC Tryz.prog 33 [ivs l, ivs l] (bl true) := by
 refine fc_of_awp [4] Tryz.func33 rfl rfl 26 Tryz.ntmps33 (Nat.le_of_ble_eq_true rfl) ?_
 intro E hN
 refine a_lm 0 rfl (fun hl0 => ?_)
 refine zG ?_; refine zT ?_; refine zH ?_; refine zM ?_; refine zE ?_; refine zM ?_; refine zE ?_
 refine zP (q_binb (b := false) rfl rfl rfl (by simp)) ?_; refine zN ?_; refine c_false rfl rfl ?_; refine zW ?_; refine zH ?_; refine zT ?_
 refine awp_block ?_
 refine awp_loop (fun x : {k : Nat // k ≤ (l).length ∧ True} => ⟨[(0, ivs l), (1, ivs l), (5, i64 (x.1 : Nat))], [], 0⟩) (fun x => (l).length - x.1) (⟨0, Nat.zero_le _, by simp⟩) ?_ ?_
 ·
  exact weak_scrub' rfl (zz3 trivial) trivial
 rintro ⟨k, hk, hg⟩
 dsimp only
 refine zH ?_; refine zM ?_; refine zM ?_; refine zE ?_; refine zB ?_; refine zN ?_
 refine zq ?_ ?_ <;> intro h9
 ·
  have hlt : k < (l).length := by simpa using h9
  obtain ⟨x, hx⟩ := get_lt hlt
  refine zW ?_; refine awp_seq ?_; refine awp_block ?_; refine awp_seq ?_; refine awp_draw 8 (by kernel_rfl) (by kernel_rfl) ?_; refine zm ?_
  refine zm ?_; refine zp (q_elem rfl rfl rfl k rfl _ (map_get hx) rfl) ?_; refine zl ?_; refine zm ?_; refine zm ?_
  refine zp (q_elem rfl rfl rfl k rfl _ (map_get hx) rfl) ?_; refine zl ?_; change AOps _ _ _ _ _ _
  refine zP (q_binb (b := false) rfl rfl rfl (by simp)) ?_; refine zN ?_; refine c_false rfl rfl ?_; refine awp_skip ?_; change AWP _ _ _ _  _
  refine awp_region ?_; refine zM ?_; refine zP (q_addi rfl rfl rfl (by omega)) ?_; refine zS ?_; refine aops_nil ?_
  exact ⟨⟨k + 1, hlt, trivial⟩, weak_scrub' rfl (zz2 ⟨(cgI (by dsimp only; omega)), rfl, trivial⟩) trivial, by dsimp only; omega⟩
 have hge : (l).length ≤ k := by simpa using h9
 refine awp_exit ?_; change AWP _ _ _ _  _; refine zG ?_; refine zS ?_; refine zQ ?_
 rfl
set_option maxRecDepth 100000 in
set_option maxHeartbeats 1000000 in
theorem tables_fc (l : List (List Int)) : FC Tryz.prog 26 [tabs l, tabs l] (bl true) := by
 refine fc_of_awp [4] Tryz.func26 rfl rfl 27 Tryz.ntmps26 (Nat.le_of_ble_eq_true rfl) ?_
 intro E hN
 refine a_lm 0 rfl (fun hl0 => ?_)
 refine zG ?_; refine zT ?_; refine zH ?_; refine zM ?_; refine zE ?_; refine zM ?_; refine zE ?_
 refine zP (q_binb (b := false) rfl rfl rfl (by simp)) ?_; refine zN ?_; refine c_false rfl rfl ?_; refine zW ?_; refine zH ?_; refine zT ?_
 refine awp_block ?_
 refine awp_loop (fun x : {k : Nat // k ≤ (l).length ∧ True} => ⟨[(0, tabs l), (1, tabs l), (5, i64 (x.1 : Nat))], [], 0⟩) (fun x => (l).length - x.1) (⟨0, Nat.zero_le _, by simp⟩) ?_ ?_
 ·
  exact weak_scrub' rfl (zz3 trivial) trivial
 rintro ⟨k, hk, hg⟩
 dsimp only
 refine zH ?_; refine zM ?_; refine zM ?_; refine zE ?_; refine zB ?_; refine zN ?_
 refine zq ?_ ?_ <;> intro h9
 ·
  have hlt : k < (l).length := by simpa using h9
  obtain ⟨x, hx⟩ := get_lt hlt
  refine zW ?_; refine awp_seq ?_; refine awp_block ?_; refine awp_seq ?_; refine awp_draw 9 (by kernel_rfl) (by kernel_rfl) ?_; refine zm ?_
  refine zm ?_; refine zp (q_elem rfl rfl rfl k rfl _ (map_get hx) rfl) ?_; refine zl ?_; refine zm ?_; refine zm ?_
  refine zp (q_elem rfl rfl rfl k rfl _ (map_get hx) rfl) ?_; refine zl ?_; refine zp (q_call (same06_fc x) rfl rfl rfl) ?_; change AOps _ _ _ _ _ _
  refine zP (q_not rfl rfl) ?_; refine zN ?_; refine c_false rfl rfl ?_; refine awp_skip ?_; change AWP _ _ _ _  _; refine awp_region ?_; refine zM ?_
  refine zP (q_addi rfl rfl rfl (by omega)) ?_; refine zS ?_; refine aops_nil ?_
  exact ⟨⟨k + 1, hlt, trivial⟩, weak_scrub' rfl (zz2 ⟨(cgI (by dsimp only; omega)), rfl, trivial⟩) trivial, by dsimp only; omega⟩
 have hge : (l).length ≤ k := by simpa using h9
 refine awp_exit ?_; change AWP _ _ _ _  _; refine zG ?_; refine zS ?_; refine zQ ?_
 rfl
set_option maxRecDepth 100000 in
set_option maxHeartbeats 1000000 in
theorem pairs_fc (l : List (Nat × Nat)) : FC Tryz.prog 45 [prs l, prs l] (bl true) := by
 refine fc_of_awp [4] Tryz.func45 rfl rfl 26 Tryz.ntmps45 (Nat.le_of_ble_eq_true rfl) ?_
 intro E hN
 refine a_lm 0 rfl (fun hl0 => ?_)
 refine zG ?_; refine zT ?_; refine zH ?_; refine zM ?_; refine zE ?_; refine zM ?_; refine zE ?_
 refine zP (q_binb (b := false) rfl rfl rfl (by simp)) ?_; refine zN ?_; refine c_false rfl rfl ?_; refine zW ?_; refine zH ?_; refine zT ?_
 refine awp_block ?_
 refine awp_loop (fun x : {k : Nat // k ≤ (l).length ∧ True} => ⟨[(0, prs l), (1, prs l), (5, i64 (x.1 : Nat))], [], 0⟩) (fun x => (l).length - x.1) (⟨0, Nat.zero_le _, by simp⟩) ?_ ?_
 ·
  exact weak_scrub' rfl (zz3 trivial) trivial
 rintro ⟨k, hk, hg⟩
 dsimp only
 refine zH ?_; refine zM ?_; refine zM ?_; refine zE ?_; refine zB ?_; refine zN ?_
 refine zq ?_ ?_ <;> intro h9
 ·
  have hlt : k < (l).length := by simpa using h9
  obtain ⟨x, hx⟩ := get_lt hlt
  refine zW ?_; refine awp_seq ?_; refine awp_block ?_; refine awp_seq ?_; refine awp_draw 8 (by kernel_rfl) (by kernel_rfl) ?_; refine zm ?_
  refine zm ?_; refine zp (q_elem rfl rfl rfl k rfl _ (pr_get hx) rfl) ?_; refine zl ?_; refine zm ?_; refine zm ?_
  refine zp (q_elem rfl rfl rfl k rfl _ (pr_get hx) rfl) ?_; refine zl ?_; change AOps _ _ _ _ _ _
  refine zP (q_eqArr rfl (.inr rfl) (by kernel_rfl) (by kernel_rfl) (by kernel_rfl) [(x.1 : Int), (x.2 : Int)] rfl rfl rfl rfl) ?_; refine zN ?_
  refine c_false rfl rfl ?_; refine awp_skip ?_; change AWP _ _ _ _  _; refine awp_region ?_; refine zM ?_
  refine zP (q_addi rfl rfl rfl (by omega)) ?_; refine zS ?_; refine aops_nil ?_
  exact ⟨⟨k + 1, hlt, trivial⟩, weak_scrub' rfl (zz2 ⟨(cgI (by dsimp only; omega)), rfl, trivial⟩) trivial, by dsimp only; omega⟩
 have hge : (l).length ≤ k := by simpa using h9
 refine awp_exit ?_; change AWP _ _ _ _  _; refine zG ?_; refine zS ?_; refine zQ ?_
 rfl
set_option maxRecDepth 100000 in
set_option maxHeartbeats 1000000 in
theorem diamond_fc : FC Tryz.prog 44 [] (tabs (tab 4 dia)) := by
 refine fc_of_awp [0] Tryz.func44 rfl rfl 6 Tryz.ntmps44 (Nat.le_of_ble_eq_true rfl) ?_
 intro E hN
 refine zG ?_; refine zS ?_; refine zA ?_; refine zP (q_bslice rfl rfl rfl rfl (by exact rfl) (by decide) (by decide)) ?_
 refine zP (q_bslice rfl rfl rfl rfl (by exact rfl) (by decide) (by decide)) ?_
 refine zP (q_bslice rfl rfl rfl rfl (by exact rfl) (by decide) (by decide)) ?_
 refine zP (q_bslice rfl rfl rfl rfl (by exact rfl) (by decide) (by decide)) ?_
 refine zP (q_bslice rfl rfl rfl rfl (by exact rfl) (by decide) (by decide)) ?_; refine zS ?_; refine zQ ?_
 rfl
def dlA : List AV := [i64 6, i64 0, i64 0, svs [[97], [98]], .sl [latL dMax, latL dFlag] none, rus []]
theorem dlA_eq : latL dl = dlA := by
 show [i64 6, i64 0, i64 0, svs [[97], [98]], AV.sl ([dMax, dFlag].map latC) none, rus []] = _
 simp only [List.map_cons, List.map_nil, latC_eq]; rfl
def v10 : Val := .mk 0 [] [.mk 1 [] [] [], .mk 0 [] [] []] []
def v10A : List AV := [i64 0, svs [], .sl [valL (.mk 1 [] [] []), valL (.mk 0 [] [] [])] none, ens []]
theorem v10A_eq : valL v10 = v10A := by
 show [i64 0, svs [], AV.sl ([Val.mk 1 [] [] [], .mk 0 [] [] []].map valC) none, ens []] = _
 simp only [List.map_cons, List.map_nil, valC_eq]; rfl
theorem dia_lat : ∃ z, LatF 4 dia z := by
 obtain ⟨z, -, h⟩ := vio_zero dia_tab.lt (by decide : (vio 4 dia).1 = 0)
 exact ⟨z, h⟩
theorem dia_us : FC Tryz.prog 63 [tabs (tab 4 dia)] (i64 0) := by
 have h := usableY_fc 4 dia dia_tab
 rw [if_pos (by decide)] at h; exact h
theorem cA : FC Tryz.prog 13 [.agg dlA] (.tup [i64 4, i64 0]) := by have h := count_fc; rw [dlA_eq] at h; exact h
theorem tA : FC Tryz.prog 23 [.agg dlA] (.tup [tabs (tab 4 dia), i64 0]) := by have h := dtable_fc; rw [dlA_eq] at h; exact h
theorem iA : FC Tryz.prog 15 [.agg dlA, .agg v10A] (.tup [i64 2, i64 0]) := by have h := dindex_fc 2 v10 rfl; rw [dlA_eq, v10A_eq] at h; exact h
theorem hA4 : FC Tryz.prog 36 [tabs (tab 4 dia)] (.tup [i64 2, i64 0]) := by
 obtain ⟨z, h⟩ := dia_lat
 exact fHeight_fc 4 dia dia_tab h dia_us
theorem covA : FC Tryz.prog 32 [tabs (tab 4 dia)] (.tup [prs [(0, 1), (0, 2), (1, 3), (2, 3)], i64 0]) := fCovers_fc 4 dia dia_tab dia_us
theorem irrA : FC Tryz.prog 31 [tabs (tab 4 dia)] (.tup [ivs [1, 2], i64 0]) := fIrr_fc 4 dia dia_tab dia_us
theorem disA : FC Tryz.prog 35 [tabs (tab 4 dia)] (.tup [bl true, i64 0]) := by
 have h := fDist_fc 4 dia dia_tab dia_us
 rw [show tdistB 4 dia = true from by decide] at h; exact h
def two (i j : Nat) : Nat := j
theorem two_tab : TabOf (tab 2 two) 2 two := ⟨rfl, by decide, by decide, fun i j hi hj => hj⟩
theorem chkA : FC Tryz.prog 25 [tabs (tab 2 two)] (.tup [.agg [i64 2, i64 0, i64 1, i64 0], i64 0]) := fcheckY_fc 2 two two_tab
set_option maxRecDepth 100000 in
set_option maxHeartbeats 1000000 in
theorem awake14_fc : FC Tryz.prog 12 [] (bl true) := by
 refine fc_of_awp [0] Tryz.func12 rfl rfl 138 Tryz.ntmps12 (Nat.le_of_ble_eq_true rfl) ?_
 intro E hN
 refine zG ?_; refine zS ?_; refine zA ?_; refine zP (q_bslice rfl rfl rfl rfl (by exact rfl) (by decide) (by decide)) ?_
 refine zP (q_build rfl rfl rfl) ?_; refine zP (q_build rfl rfl rfl) ?_; refine zP (q_bslice rfl rfl rfl rfl (by exact rfl) (by decide) (by decide)) ?_
 refine zP (q_build rfl rfl rfl) ?_; refine zO ?_; refine zC ?_; refine zA ?_; refine zL ?_; refine zP (q_call cA rfl rfl rfl) ?_; refine zM ?_
 refine zP (q_extract rfl rfl rfl) ?_; refine zP (q_extract rfl rfl rfl) ?_; refine zS ?_; refine zS ?_; refine zA ?_; refine zL ?_
 refine zP (q_call tA rfl rfl rfl) ?_; refine zM ?_; refine zP (q_extract rfl rfl rfl) ?_; refine zP (q_extract rfl rfl rfl) ?_; refine zS ?_
 refine zS ?_; refine zA ?_; refine zP (q_call diamond_fc rfl rfl rfl) ?_; refine zP (q_call covA rfl rfl rfl) ?_; refine zM ?_
 refine zP (q_extract rfl rfl rfl) ?_; refine zP (q_extract rfl rfl rfl) ?_; refine zS ?_; refine zS ?_; refine zA ?_
 refine zP (q_call diamond_fc rfl rfl rfl) ?_; refine zP (q_call hA4 rfl rfl rfl) ?_; refine zM ?_; refine zP (q_extract rfl rfl rfl) ?_
 refine zP (q_extract rfl rfl rfl) ?_; refine zS ?_; refine zS ?_; refine zA ?_; refine zP (q_call diamond_fc rfl rfl rfl) ?_
 refine zP (q_call irrA rfl rfl rfl) ?_; refine zM ?_; refine zP (q_extract rfl rfl rfl) ?_; refine zP (q_extract rfl rfl rfl) ?_; refine zS ?_
 refine zS ?_; refine zA ?_; refine zP (q_call diamond_fc rfl rfl rfl) ?_; refine zP (q_call disA rfl rfl rfl) ?_; refine zM ?_
 refine zP (q_extract rfl rfl rfl) ?_; refine zP (q_extract rfl rfl rfl) ?_; refine zS ?_; refine zS ?_; refine zA ?_
 refine zP (q_bslice rfl rfl rfl rfl (by exact rfl) (by decide) (by decide)) ?_
 refine zP (q_bslice rfl rfl rfl rfl (by exact rfl) (by decide) (by decide)) ?_
 refine zP (q_bslice rfl rfl rfl rfl (by exact rfl) (by decide) (by decide)) ?_; refine zP (q_call chkA rfl rfl rfl) ?_; refine zM ?_
 refine zP (q_extract rfl rfl rfl) ?_; refine zP (q_extract rfl rfl rfl) ?_; refine zO ?_; refine zC ?_; refine zS ?_; refine zA ?_; refine zL ?_
 refine zP (q_build rfl rfl rfl) ?_; refine zP (q_build rfl rfl rfl) ?_; refine zP (q_bslice rfl rfl rfl rfl (by exact rfl) (by decide) (by decide)) ?_
 refine zP (q_build rfl rfl rfl) ?_; refine zP (q_call iA rfl rfl rfl) ?_; refine zM ?_; refine zP (q_extract rfl rfl rfl) ?_
 refine zP (q_extract rfl rfl rfl) ?_; refine zS ?_; refine zS ?_; refine zA ?_; refine zM ?_; refine zB ?_; refine zM ?_; refine zM ?_; refine zB ?_
 refine zh1 rfl ?_; refine zM ?_; refine zM ?_; refine zB ?_; refine zh1 rfl ?_; refine zM ?_; refine zM ?_
 refine zP (q_call diamond_fc rfl rfl rfl) ?_; refine zP (q_call (tables_fc (tab 4 dia)) rfl rfl rfl) ?_; refine zh1 rfl ?_; refine zM ?_; refine zM ?_
 refine zB ?_; refine zh1 rfl ?_; refine zM ?_; refine zM ?_; refine zP (q_buildA rfl rfl rfl) ?_; refine zP (q_buildA rfl rfl rfl) ?_
 refine zP (q_buildA rfl rfl rfl) ?_; refine zP (q_buildA rfl rfl rfl) ?_
 refine zP (q_bslice rfl rfl rfl rfl (by exact rfl) (by decide) (by decide)) ?_
 refine zP (q_call (pairs_fc [(0, 1), (0, 2), (1, 3), (2, 3)]) rfl rfl rfl) ?_; refine zh1 rfl ?_; refine zM ?_; refine zM ?_; refine zB ?_
 refine zh1 rfl ?_; refine zM ?_; refine zM ?_; refine zB ?_; refine zh1 rfl ?_; refine zM ?_; refine zM ?_; refine zB ?_; refine zh1 rfl ?_
 refine zM ?_; refine zM ?_; refine zP (q_bslice rfl rfl rfl rfl (by exact rfl) (by decide) (by decide)) ?_
 refine zP (q_call (same06_fc [1, 2]) rfl rfl rfl) ?_; refine zh1 rfl ?_; refine zM ?_; refine zM ?_; refine zB ?_; refine zh1 rfl ?_; refine zM ?_
 refine zM ?_; refine zh1 rfl ?_; refine zM ?_; refine zM ?_; refine zB ?_; refine zh1 rfl ?_; refine zM ?_; refine zL ?_
 refine zP (q_build rfl rfl rfl) ?_; refine zP (q_eqStr rfl (by kernel_rfl) (by kernel_rfl) (by kernel_rfl) [2, 0, 1, 0] (by kernel_rfl) rfl rfl) ?_
 refine zh1 rfl ?_; refine zM ?_; refine zM ?_; refine zB ?_; refine zh1 rfl ?_; refine zM ?_; refine zM ?_; refine zB ?_; refine zh1 rfl ?_
 refine zS ?_; refine zQ ?_
 rfl
end Go.Proofs.YtaecccdkjmipeaaGreat

namespace Go.Proofs.YtaecccdkjmipeaaGreat
open Go.RowKit
set_option maxRecDepth 100000 in
set_option maxHeartbeats 1000000 in
theorem lawCk_f (T : List (List Int)) (hF : fewB T = false) : FC Tryz.prog 6 [tabs T] (bl true) := by
 refine fc_of_awp [2] Tryz.func6 rfl rfl 40 Tryz.ntmps6 (Nat.le_of_ble_eq_true rfl) ?_
 intro E hN
 refine zG ?_; refine zT ?_; refine zH ?_; refine zM ?_; refine zP (q_call (fcb (c := false) (few_fc T) hF) rfl rfl rfl) ?_
 refine zP (q_not rfl rfl) ?_; refine zN ?_; refine c_true rfl rfl ?_; refine zG ?_; refine zP (q_call awake14_fc rfl rfl rfl) ?_; refine zS ?_
 refine zQ ?_
 rfl
set_option maxRecDepth 100000 in
set_option maxHeartbeats 1000000 in
theorem lawCk_n (T : List (List Int)) (hF : fewB T = true) (hT : isT T = false) : FC Tryz.prog 6 [tabs T] (bl true) := by
 refine fc_of_awp [2] Tryz.func6 rfl rfl 40 Tryz.ntmps6 (Nat.le_of_ble_eq_true rfl) ?_
 intro E hN
 refine zG ?_; refine zT ?_; refine zH ?_; refine zM ?_; refine zP (q_call (fcb (c := true) (few_fc T) hF) rfl rfl rfl) ?_
 refine zP (q_not rfl rfl) ?_; refine zN ?_; refine c_false rfl rfl ?_; refine zW ?_; refine zG ?_; refine zM ?_
 refine zP (q_call (fcheckN_fc T hT) rfl rfl rfl) ?_; refine zM ?_; refine zP (q_extract rfl rfl rfl) ?_; refine zP (q_extract rfl rfl rfl) ?_
 refine zO ?_; refine zC ?_; refine zS ?_; refine zA ?_; refine zM ?_; refine zP (q_call (rCheckN_fc T hT) rfl rfl rfl) ?_; refine zM ?_
 refine zP (q_extract rfl rfl rfl) ?_; refine zP (q_extract rfl rfl rfl) ?_; refine zO ?_; refine zC ?_; refine zS ?_; refine zA ?_
 refine zP (q_call awake14_fc rfl rfl rfl) ?_; refine zM ?_; refine zM ?_; refine zM ?_; refine zB ?_; refine zh1 rfl ?_; refine zM ?_; refine zF ?_
 refine zL ?_; refine zF ?_; refine zL ?_; refine zF ?_; refine zL ?_; refine zF ?_; refine zL ?_; refine zP (q_buildA rfl rfl rfl) ?_; refine zL ?_
 refine zP (q_eqArr rfl (.inl rfl) (by kernel_rfl) (by kernel_rfl) (by kernel_rfl) [0, 0, 0, 0] rfl rfl rfl rfl) ?_; refine zh1 rfl ?_; refine zS ?_
 refine zQ ?_
 rfl
set_option maxRecDepth 100000 in
set_option maxHeartbeats 1000000 in
theorem lawCk_y (n : Nat) (f : Nat → Nat → Nat) (ht : TabOf (tab n f) n f) (hF : fewB (tab n f) = true) : FC Tryz.prog 6 [tabs (tab n f)] (bl true) := by
 refine fc_of_awp [2] Tryz.func6 rfl rfl 40 Tryz.ntmps6 (Nat.le_of_ble_eq_true rfl) ?_
 intro E hN
 refine zG ?_; refine zT ?_; refine zH ?_; refine zM ?_; refine zP (q_call (fcb (c := true) (few_fc (tab n f)) hF) rfl rfl rfl) ?_
 refine zP (q_not rfl rfl) ?_; refine zN ?_; refine c_false rfl rfl ?_; refine zW ?_; refine zG ?_; refine zM ?_
 refine zP (q_call (fcheckY_fc n f ht) rfl rfl rfl) ?_; refine zM ?_; refine zP (q_extract rfl rfl rfl) ?_; refine zP (q_extract rfl rfl rfl) ?_
 refine zO ?_; refine zC ?_; refine zS ?_; refine zA ?_; refine zM ?_; refine zP (q_call (rCheckY_fc n f ht) rfl rfl rfl) ?_; refine zM ?_
 refine zP (q_extract rfl rfl rfl) ?_; refine zP (q_extract rfl rfl rfl) ?_; refine zO ?_; refine zC ?_; refine zS ?_; refine zA ?_
 refine zP (q_call awake14_fc rfl rfl rfl) ?_; refine zM ?_; refine zM ?_; refine zM ?_; refine zB ?_; refine zh1 rfl ?_; refine zM ?_; refine zF ?_
 refine zL ?_; refine zF ?_; refine zL ?_; refine zF ?_; refine zL ?_; refine zF ?_; refine zL ?_; refine zP (q_buildA rfl rfl rfl) ?_; refine zL ?_
 refine zP (q_eqArr rfl (.inl rfl) (by kernel_rfl) (by kernel_rfl) (by kernel_rfl) [((vio n f).1 : Int), ((vio n f).2.1 : Int), ((vio n f).2.2.1 : Int), ((vio n f).2.2.2 : Int)] rfl rfl rfl rfl) ?_
 refine zh1 rfl ?_; refine zS ?_; refine zQ ?_
 rfl
theorem lawFCheck_fc (T : List (List Int)) : FC Tryz.prog 6 [tabs T] (bl true) := by
 cases hF : fewB T with
 | false => exact lawCk_f T hF
 | true =>
  cases hT : isT T with
  | false => exact lawCk_n T hF hT
  | true =>
   obtain ⟨n, f, h⟩ := isT_of hT
   have e := h.eq
   subst e
   exact lawCk_y n f h hF
theorem us0 {n : Nat} {f : Nat → Nat → Nat} (ht : TabOf (tab n f) n f) (h : (vio n f).1 = 0) : FC Tryz.prog 63 [tabs (tab n f)] (i64 0) := by
 have hu := usableY_fc n f ht
 rw [if_pos h] at hu; exact hu
theorem same06N (L : List Nat) : FC Tryz.prog 33 [nvs L, nvs L] (bl true) := by
 have e : (nvs L : AV) = ivs (L.map fun x : Nat => (x : Int)) := by
  show AV.sl _ _ = AV.sl _ _
  rw [List.map_map]; rfl
 rw [e]
 exact same06_fc _
set_option maxRecDepth 100000 in
set_option maxHeartbeats 1000000 in
theorem lawFMeets_f (T : List (List Int)) (hF : fewB T = false) : FC Tryz.prog 10 [tabs T] (bl true) := by
 refine fc_of_awp [2] Tryz.func10 rfl rfl 153 Tryz.ntmps10 (Nat.le_of_ble_eq_true rfl) ?_
 intro E hN
 refine zG ?_; refine zT ?_; refine zH ?_; refine zM ?_; refine zP (q_call (fcb (c := false) (few_fc T) hF) rfl rfl rfl) ?_
 refine zP (q_not rfl rfl) ?_; refine zM ?_
 iterate 3 refine zK ?_
 refine zh1 rfl ?_; refine zM ?_
 iterate 3 refine zK ?_
 refine zh1 rfl ?_; refine zN ?_; refine c_true rfl rfl ?_; refine zG ?_; refine zP (q_call awake14_fc rfl rfl rfl) ?_; refine zS ?_; refine zQ ?_
 rfl
set_option maxRecDepth 100000 in
set_option maxHeartbeats 1000000 in
theorem lawFMeets_n (T : List (List Int)) (hF : fewB T = true) (hT : isT T = false) : FC Tryz.prog 10 [tabs T] (bl true) := by
 refine fc_of_awp [2] Tryz.func10 rfl rfl 153 Tryz.ntmps10 (Nat.le_of_ble_eq_true rfl) ?_
 intro E hN
 refine zG ?_; refine zT ?_; refine zH ?_; refine zM ?_; refine zP (q_call (fcb (c := true) (few_fc T) hF) rfl rfl rfl) ?_
 refine zP (q_not rfl rfl) ?_; refine zM ?_; refine zM ?_; refine zP (q_call (fcb (c := false) (rIs_fc T) hT) rfl rfl rfl) ?_
 refine zP (q_not rfl rfl) ?_; refine zh0 rfl ?_; refine zM ?_
 iterate 3 refine zK ?_
 refine zh1 rfl ?_; refine zN ?_; refine c_true rfl rfl ?_; refine zG ?_; refine zP (q_call awake14_fc rfl rfl rfl) ?_; refine zS ?_; refine zQ ?_
 rfl
set_option maxRecDepth 100000 in
set_option maxHeartbeats 1000000 in
theorem lawFMeets_v (n : Nat) (f : Nat → Nat → Nat) (ht : TabOf (tab n f) n f) (hF : fewB (tab n f) = true) (h0 : ¬ (vio n f).1 = 0) : FC Tryz.prog 10 [tabs (tab n f)] (bl true) := by
 refine fc_of_awp [2] Tryz.func10 rfl rfl 153 Tryz.ntmps10 (Nat.le_of_ble_eq_true rfl) ?_
 intro E hN
 refine zG ?_; refine zT ?_; refine zH ?_; refine zM ?_; refine zP (q_call (fcb (c := true) (few_fc (tab n f)) hF) rfl rfl rfl) ?_
 refine zP (q_not rfl rfl) ?_; refine zM ?_; refine zM ?_; refine zP (q_call (fcb (c := true) (rIs_fc (tab n f)) ht.is) rfl rfl rfl) ?_
 refine zP (q_not rfl rfl) ?_; refine zh0 rfl ?_; refine zM ?_; refine zM ?_
 refine zP (q_call (fcb (c := false) (rLatY_fc n f ht) (decide_eq_false h0)) rfl rfl rfl) ?_; refine zP (q_not rfl rfl) ?_; refine zh0 rfl ?_
 refine zN ?_; refine c_true rfl rfl ?_; refine zG ?_; refine zP (q_call awake14_fc rfl rfl rfl) ?_; refine zS ?_; refine zQ ?_
 rfl
set_option maxRecDepth 100000 in
set_option maxHeartbeats 1000000 in
theorem lawFMeets_y (n : Nat) (f : Nat → Nat → Nat) (ht : TabOf (tab n f) n f) (hF : fewB (tab n f) = true) (h0 : (vio n f).1 = 0) (z : Nat) (hz : bot n f = some z) (Lf : LatF n f z) : FC Tryz.prog 10 [tabs (tab n f)] (bl true) := by
 refine fc_of_awp [2] Tryz.func10 rfl rfl 153 Tryz.ntmps10 (Nat.le_of_ble_eq_true rfl) ?_
 intro E hN
 have h256 := ht.le
 have hlt := ht.lt
 have h1n := ht.pos
 have hm := tmeet_lt h1n hlt
 have tm : TabOf (tab n (tmeetF n f)) n (tmeetF n f) := ⟨rfl, h1n, h256, fun i j _ _ => hm i j⟩
 refine zG ?_; refine zT ?_; refine zH ?_; refine zM ?_; refine zP (q_call (fcb (c := true) (few_fc (tab n f)) hF) rfl rfl rfl) ?_
 refine zP (q_not rfl rfl) ?_; refine zM ?_; refine zM ?_; refine zP (q_call (fcb (c := true) (rIs_fc (tab n f)) ht.is) rfl rfl rfl) ?_
 refine zP (q_not rfl rfl) ?_; refine zh0 rfl ?_; refine zM ?_; refine zM ?_
 refine zP (q_call (fcb (c := true) (rLatY_fc n f ht) (decide_eq_true h0)) rfl rfl rfl) ?_; refine zP (q_not rfl rfl) ?_; refine zh0 rfl ?_
 refine zN ?_; refine c_false rfl rfl ?_; refine zW ?_; refine zG ?_; refine zM ?_; refine zP (q_call (fMeets_fc n f ht (us0 ht h0)) rfl rfl rfl) ?_
 refine zM ?_; refine zP (q_extract rfl rfl rfl) ?_; refine zP (q_extract rfl rfl rfl) ?_; refine zS ?_; refine zT ?_; refine zH ?_; refine zM ?_
 refine zB ?_; refine zM ?_; refine zM ?_; refine zP (q_call (fcb (c := true) (rIs_fc (tab n (tmeetF n f))) tm.is) rfl rfl rfl) ?_
 refine zP (q_not rfl rfl) ?_; refine zh0 rfl ?_; refine zM ?_; refine zM ?_; refine zE ?_; refine zM ?_; refine zE ?_
 refine zP (q_binb (b := false) rfl rfl rfl (by simp [tab])) ?_; refine zh0 rfl ?_; refine zN ?_; refine c_false rfl rfl ?_; refine zW ?_; refine zH ?_
 refine zT ?_; refine awp_block ?_
 refine awp_loop (fun x : {i : Nat // i ≤ n ∧ True} => ⟨[(0, tabs (tab n f)), (3, tabs (tab n (tmeetF n f))), (5, i64 (x.1 : Nat))], [], 0⟩) (fun x => n - x.1) (⟨0, Nat.zero_le _, by trivial⟩) ?_ ?_
 ·
  exact weak_scrub' rfl (zz3 trivial) trivial
 rintro ⟨i, hi, gi⟩
 dsimp only
 refine zH ?_; refine zM ?_; refine zM ?_; refine zE ?_; refine zB ?_; refine zN ?_
 refine zq ?_ ?_ <;> intro h12
 ·
  have lti : i < n := by simpa [tab] using h12
  refine zW ?_; refine awp_seq ?_; refine awp_block ?_; refine zG ?_; refine zT ?_; refine awp_block ?_
  refine awp_loop (fun x : {j : Nat // j ≤ n ∧ True} => ⟨[(0, tabs (tab n f)), (3, tabs (tab n (tmeetF n f))), (5, i64 (i : Nat)), (6, i64 (x.1 : Nat))], [], 0⟩) (fun x => n - x.1) (⟨0, Nat.zero_le _, by trivial⟩) ?_ ?_
  ·
   exact weak_scrub' rfl (zz4 trivial) trivial
  rintro ⟨j, hj, gj⟩
  dsimp only
  refine zH ?_; refine zM ?_; refine zM ?_; refine zE ?_; refine zB ?_; refine zN ?_
  refine zq ?_ ?_ <;> intro h18
  ·
   have ltj : j < n := by simpa [tab] using h18
   obtain ⟨hx, e1, e2, e3⟩ := Lf.meetF_spec hz lti ltj
   have e4 : f i (tmeetF n f i j) = i := by rw [Lf.comm i _ lti hx]; exact e1
   have hij := hlt i j lti ltj
   have e5 : tmeetF n f i (f i j) = i := Lf.meet_le hz lti hij (Lf.le_join lti ltj)
   refine zW ?_; refine awp_seq ?_; refine awp_block ?_; refine zG ?_; refine zM ?_; refine zM ?_
   refine zP (q_elem rfl rfl rfl i rfl _ (tab_get lti) rfl) ?_; refine zL ?_; refine zM ?_
   refine zP (q_elem rfl rfl rfl j rfl _ (rowL_get ltj) rfl) ?_; refine zL ?_; refine zT ?_; refine awp_seq ?_; refine awp_seq ?_
   refine awp_draw 53 (by kernel_rfl) (by kernel_rfl) ?_; refine zm ?_; refine zm ?_
   refine zp (q_elem rfl rfl rfl (tmeetF n f i j) rfl _ (tab_get hx) rfl) ?_; refine zl ?_; refine zm ?_
   refine zp (q_elem rfl rfl rfl i rfl _ (rowL_get lti) rfl) ?_; refine zl ?_; refine zm ?_
   refine zp (q_binb (b := false) rfl rfl rfl (congrArg Value.bool (by rw [bneN, e1]; simp))) ?_
   refine zm ?_; refine zm ?_; refine zm ?_; refine zp (q_elem rfl rfl rfl (tmeetF n f i j) rfl _ (tab_get hx) rfl) ?_; refine zl ?_; refine zm ?_
   refine zp (q_elem rfl rfl rfl j rfl _ (rowL_get ltj) rfl) ?_; refine zl ?_; refine zm ?_
   refine zp (q_binb (b := false) rfl rfl rfl (congrArg Value.bool (by rw [bneN, e2]; simp))) ?_
   refine zp (q_pick0 rfl rfl rfl rfl) ?_; refine zm ?_; refine zm ?_; refine zm ?_; refine zp (q_elem rfl rfl rfl i rfl _ (tab_get lti) rfl) ?_
   refine zl ?_; refine zm ?_; refine zm ?_; refine zp (q_elem rfl rfl rfl i rfl _ (tab_get lti) rfl) ?_; refine zl ?_; refine zm ?_
   refine zp (q_elem rfl rfl rfl j rfl _ (rowL_get ltj) rfl) ?_; refine zl ?_
   refine zp (q_elem rfl rfl rfl (tmeetF n f i j) rfl _ (rowL_get hx) rfl) ?_; refine zl ?_; refine zm ?_
   refine zp (q_binb (b := false) rfl rfl rfl (congrArg Value.bool (by rw [bneN, e4]; simp))) ?_
   refine zp (q_pick0 rfl rfl rfl rfl) ?_; refine zm ?_; refine zm ?_; refine zm ?_; refine zp (q_elem rfl rfl rfl i rfl _ (tab_get lti) rfl) ?_
   refine zl ?_; refine zm ?_; refine zm ?_; refine zp (q_elem rfl rfl rfl i rfl _ (tab_get lti) rfl) ?_; refine zl ?_; refine zm ?_
   refine zp (q_elem rfl rfl rfl j rfl _ (rowL_get ltj) rfl) ?_; refine zl ?_; refine zp (q_elem rfl rfl rfl (f i j) rfl _ (rowL_get hij) rfl) ?_
   refine zl ?_; refine zm ?_
   refine zp (q_binb (b := false) rfl rfl rfl (congrArg Value.bool (by rw [bneN, e5]; simp))) ?_
   change AOps _ _ _ _ _ _; refine zh0 rfl ?_; refine zN ?_; refine c_false rfl rfl ?_; refine zW ?_; refine zG ?_; refine zT ?_; refine awp_block ?_
   refine awp_loop (fun x : {k : Nat // k ≤ n ∧ True} => ⟨[(0, tabs (tab n f)), (3, tabs (tab n (tmeetF n f))), (5, i64 (i : Nat)), (6, i64 (j : Nat)), (7, i64 ((tmeetF n f i j) : Nat)), (8, i64 (x.1 : Nat))], [], 0⟩) (fun x => n - x.1) (⟨0, Nat.zero_le _, by trivial⟩) ?_ ?_
   ·
    exact weak_scrub' rfl (zz4 (zz2 trivial)) trivial
   rintro ⟨k, hk, gk⟩
   dsimp only
   refine zH ?_; refine zM ?_; refine zM ?_; refine zE ?_; refine zB ?_; refine zN ?_
   refine zq ?_ ?_ <;> intro h54
   ·
    have ltk : k < n := by simpa [tab] using h54
    refine zW ?_; refine awp_seq ?_; refine awp_block ?_; refine zG ?_; refine zM ?_; refine zM ?_
    refine zP (q_elem rfl rfl rfl k rfl _ (tab_get ltk) rfl) ?_; refine zL ?_; refine zM ?_
    refine zP (q_elem rfl rfl rfl i rfl _ (rowL_get lti) rfl) ?_; refine zL ?_; refine zM ?_; refine zB ?_; refine zM ?_
    refine zc 130 ?_ ?_ <;> intro h59
    ·
     have g1 : f k i = i := by have := h59; rw [beqN] at this; simpa using this
     refine uM (w11 h59) ?_; refine uM (w11 h59) ?_; refine uP (w11 h59) (q_elem rfl rfl rfl k rfl _ (tab_get ltk) rfl) ?_; refine uL (w11 h59) ?_
     refine uM (w11 h59) ?_; refine uP (w11 h59) (q_elem rfl rfl rfl j rfl _ (rowL_get ltj) rfl) ?_; refine uL (w11 h59) ?_; refine uM (w11 h59) ?_
     refine uP (w11 h59) (q_bin rfl rfl rfl) ?_; refine zh1 h59 ?_; refine zM ?_
     refine zc 141 ?_ ?_ <;> intro h64
     ·
      have g2 : f k j = j := by have := h64; rw [beqN] at this; simpa using this
      refine uM (w11 h64) ?_; refine uM (w11 h64) ?_; refine uP (w11 h64) (q_elem rfl rfl rfl k rfl _ (tab_get ltk) rfl) ?_; refine uL (w11 h64) ?_
      refine uM (w11 h64) ?_; refine uP (w11 h64) (q_elem rfl rfl rfl (tmeetF n f i j) rfl _ (rowL_get hx) rfl) ?_; refine uL (w11 h64) ?_
      refine uM (w11 h64) ?_
      refine uP (w11 h64) (q_binb (b := false) rfl rfl rfl (congrArg Value.bool (by rw [bneN, e3 k ltk g1 g2]; simp))) ?_
      refine zh1 h64 ?_; refine zN ?_; refine c_false rfl rfl ?_; refine awp_skip ?_; change AWP _ _ _ _  _; refine awp_region ?_; refine zM ?_
      refine zP (q_addi rfl rfl rfl (by omega)) ?_; refine zS ?_; refine aops_nil ?_
      exact ⟨⟨k + 1, ltk, trivial⟩, weak_scrub' rfl (zz4 (zz1 ⟨(cgI (by dsimp only; omega)), rfl, trivial⟩)) trivial, by dsimp only; omega⟩
     iterate 9 refine uK (w01 h64) ?_
     refine zh0 h64 ?_; refine zN ?_; refine c_false rfl rfl ?_; refine awp_skip ?_; change AWP _ _ _ _  _; refine awp_region ?_; refine zM ?_
     refine zP (q_addi rfl rfl rfl (by omega)) ?_; refine zS ?_; refine aops_nil ?_
     exact ⟨⟨k + 1, ltk, trivial⟩, weak_scrub' rfl (zz4 (zz1 ⟨(cgI (by dsimp only; omega)), rfl, trivial⟩)) trivial, by dsimp only; omega⟩
    iterate 9 refine uK (w01 h59) ?_
    refine zh0 h59 ?_; refine zM ?_
    iterate 9 refine zK ?_
    refine zh0 rfl ?_; refine zN ?_; refine c_false rfl rfl ?_; refine awp_skip ?_; change AWP _ _ _ _  _; refine awp_region ?_; refine zM ?_
    refine zP (q_addi rfl rfl rfl (by omega)) ?_; refine zS ?_; refine aops_nil ?_
    exact ⟨⟨k + 1, ltk, trivial⟩, weak_scrub' rfl (zz4 (zz1 ⟨(cgI (by dsimp only; omega)), rfl, trivial⟩)) trivial, by dsimp only; omega⟩
   have gek : n ≤ k := by simpa [tab] using h54
   refine awp_exit ?_; change AWP _ _ _ _  _; refine awp_region ?_; refine zM ?_; refine zP (q_addi rfl rfl rfl (by omega)) ?_; refine zS ?_
   refine aops_nil ?_
   exact ⟨⟨j + 1, ltj, trivial⟩, weak_scrub' rfl (zz3 ⟨(cgI (by dsimp only; omega)), rfl, trivial⟩) trivial, by dsimp only; omega⟩
  have gej : n ≤ j := by simpa [tab] using h18
  refine awp_exit ?_; change AWP _ _ _ _  _; refine awp_region ?_; refine zM ?_; refine zP (q_addi rfl rfl rfl (by omega)) ?_; refine zS ?_
  refine aops_nil ?_
  exact ⟨⟨i + 1, lti, trivial⟩, weak_scrub' rfl (zz2 ⟨(cgI (by dsimp only; omega)), rfl, trivial⟩) trivial, by dsimp only; omega⟩
 have gei : n ≤ i := by simpa [tab] using h12
 refine awp_exit ?_; change AWP _ _ _ _  _; refine zG ?_; refine zP (q_call awake14_fc rfl rfl rfl) ?_; refine zS ?_; refine zQ ?_
 rfl
theorem lawFMeets_fc (T : List (List Int)) : FC Tryz.prog 10 [tabs T] (bl true) := by
 cases hF : fewB T with
 | false => exact lawFMeets_f T hF
 | true =>
  cases hT : isT T with
  | false => exact lawFMeets_n T hF hT
  | true =>
   obtain ⟨n, f, h⟩ := isT_of hT
   have e := h.eq
   subst e
   by_cases h0 : (vio n f).1 = 0
   ·obtain ⟨z, hz, Lf⟩ := vio_zero h.lt h0
    exact lawFMeets_y n f h hF h0 z hz Lf
   exact lawFMeets_v n f h hF h0
end Go.Proofs.YtaecccdkjmipeaaGreat
