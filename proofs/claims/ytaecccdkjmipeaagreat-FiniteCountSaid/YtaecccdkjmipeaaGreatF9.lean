/-
  Contracts: the small functions of the Finite laws; the chapter's example (seat r5).
  Contracts: the laws FiniteCheck, FiniteMeets, FiniteIrreducibles (seat r5).
-/
import Derived.Test.YtaecccdkjmipeaaGreatF8
import Derived.Test.YtaecccdkjmipeaaGreatA10
namespace Go.Proofs.YtaecccdkjmipeaaGreat
open Go.RowKit
set_option maxRecDepth 100000 in
set_option maxHeartbeats 1000000 in
theorem same06_fc (l : List Int) : FC Tryz.prog 33 [ivs l, ivs l] (bl true) := by
 refine fc_of_awp [4] Tryz.func33 rfl rfl 26 Tryz.ntmps33 (Nat.le_of_ble_eq_true rfl) ?_
 intro E hN
 refine a_lm 0 rfl (fun hl0 => ?_)
 refine rn11 ?_; refine zP (q_binb (b := false) rfl rfl rfl (by simp)) ?_; refine zN ?_; refine c_false rfl rfl ?_; refine rn7 ?_
 refine awp_loop (fun x : {k : Nat // k ≤ (l).length ∧ True} => ⟨[(0, ivs l), (1, ivs l), (5, i64 (x.1 : Nat))], [], 0⟩) (fun x => (l).length - x.1) (⟨0, Nat.zero_le _, by simp⟩) ?_ ?_
 ·
  exact weak_scrub' rfl (zz3 trivial) trivial
 rintro ⟨k, hk, hg⟩
 dsimp only
 refine rn8 ?_
 refine zq ?_ ?_ <;> intro h9
 ·
  have hlt : k < (l).length := by simpa using h9
  obtain ⟨x, hx⟩ := get_lt hlt
  refine rn4 ?_; refine awp_draw 8 (by kernel_rfl) (by kernel_rfl) ?_; refine rn2 ?_; refine zp (q_elem rfl rfl rfl k rfl _ (map_get hx) rfl) ?_
  refine rn3 ?_; refine zp (q_elem rfl rfl rfl k rfl _ (map_get hx) rfl) ?_; refine zl ?_; change AOps _ _ _ _ _ _
  refine zP (q_binb (b := false) rfl rfl rfl (by simp)) ?_; refine zN ?_; refine c_false rfl rfl ?_; refine rn3 ?_
  refine zP (q_addi rfl rfl rfl (by omega)) ?_; refine zS ?_; refine aops_nil ?_
  exact ⟨⟨k + 1, hlt, trivial⟩, weak_scrub' rfl (zz2 ⟨(cgI (by dsimp only; omega)), rfl, trivial⟩) trivial, by dsimp only; omega⟩
 have hge : (l).length ≤ k := by simpa using h9
 refine rn4 ?_; refine zQ ?_
 rfl
set_option maxRecDepth 100000 in
set_option maxHeartbeats 1000000 in
theorem tables_fc (l : List (List Int)) : FC Tryz.prog 26 [tabs l, tabs l] (bl true) := by
 refine fc_of_awp [4] Tryz.func26 rfl rfl 27 Tryz.ntmps26 (Nat.le_of_ble_eq_true rfl) ?_
 intro E hN
 refine a_lm 0 rfl (fun hl0 => ?_)
 refine rn11 ?_; refine zP (q_binb (b := false) rfl rfl rfl (by simp)) ?_; refine zN ?_; refine c_false rfl rfl ?_; refine rn7 ?_
 refine awp_loop (fun x : {k : Nat // k ≤ (l).length ∧ True} => ⟨[(0, tabs l), (1, tabs l), (5, i64 (x.1 : Nat))], [], 0⟩) (fun x => (l).length - x.1) (⟨0, Nat.zero_le _, by simp⟩) ?_ ?_
 ·
  exact weak_scrub' rfl (zz3 trivial) trivial
 rintro ⟨k, hk, hg⟩
 dsimp only
 refine rn8 ?_
 refine zq ?_ ?_ <;> intro h9
 ·
  have hlt : k < (l).length := by simpa using h9
  obtain ⟨x, hx⟩ := get_lt hlt
  refine rn4 ?_; refine awp_draw 9 (by kernel_rfl) (by kernel_rfl) ?_; refine rn2 ?_; refine zp (q_elem rfl rfl rfl k rfl _ (map_get hx) rfl) ?_
  refine rn3 ?_; refine zp (q_elem rfl rfl rfl k rfl _ (map_get hx) rfl) ?_; refine zl ?_; refine zp (q_call (same06_fc x) rfl rfl rfl) ?_
  change AOps _ _ _ _ _ _; refine rn2 ?_; refine c_false rfl rfl ?_; refine rn3 ?_; refine zP (q_addi rfl rfl rfl (by omega)) ?_; refine zS ?_
  refine aops_nil ?_
  exact ⟨⟨k + 1, hlt, trivial⟩, weak_scrub' rfl (zz2 ⟨(cgI (by dsimp only; omega)), rfl, trivial⟩) trivial, by dsimp only; omega⟩
 have hge : (l).length ≤ k := by simpa using h9
 refine rn4 ?_; refine zQ ?_
 rfl
set_option maxRecDepth 100000 in
set_option maxHeartbeats 1000000 in
theorem pairs_fc (l : List (Nat × Nat)) : FC Tryz.prog 45 [prs l, prs l] (bl true) := by
 refine fc_of_awp [4] Tryz.func45 rfl rfl 26 Tryz.ntmps45 (Nat.le_of_ble_eq_true rfl) ?_
 intro E hN
 refine a_lm 0 rfl (fun hl0 => ?_)
 refine rn11 ?_; refine zP (q_binb (b := false) rfl rfl rfl (by simp)) ?_; refine zN ?_; refine c_false rfl rfl ?_; refine rn7 ?_
 refine awp_loop (fun x : {k : Nat // k ≤ (l).length ∧ True} => ⟨[(0, prs l), (1, prs l), (5, i64 (x.1 : Nat))], [], 0⟩) (fun x => (l).length - x.1) (⟨0, Nat.zero_le _, by simp⟩) ?_ ?_
 ·
  exact weak_scrub' rfl (zz3 trivial) trivial
 rintro ⟨k, hk, hg⟩
 dsimp only
 refine rn8 ?_
 refine zq ?_ ?_ <;> intro h9
 ·
  have hlt : k < (l).length := by simpa using h9
  obtain ⟨x, hx⟩ := get_lt hlt
  refine rn4 ?_; refine awp_draw 8 (by kernel_rfl) (by kernel_rfl) ?_; refine rn2 ?_; refine zp (q_elem rfl rfl rfl k rfl _ (pr_get hx) rfl) ?_
  refine rn3 ?_; refine zp (q_elem rfl rfl rfl k rfl _ (pr_get hx) rfl) ?_; refine zl ?_; change AOps _ _ _ _ _ _
  refine zP (q_eqArr rfl (.inr rfl) (by kernel_rfl) (by kernel_rfl) (by kernel_rfl) [(x.1 : Int), (x.2 : Int)] rfl rfl rfl rfl) ?_; refine zN ?_
  refine c_false rfl rfl ?_; refine rn3 ?_; refine zP (q_addi rfl rfl rfl (by omega)) ?_; refine zS ?_; refine aops_nil ?_
  exact ⟨⟨k + 1, hlt, trivial⟩, weak_scrub' rfl (zz2 ⟨(cgI (by dsimp only; omega)), rfl, trivial⟩) trivial, by dsimp only; omega⟩
 have hge : (l).length ≤ k := by simpa using h9
 refine rn4 ?_; refine zQ ?_
 rfl
set_option maxRecDepth 100000 in
set_option maxHeartbeats 1000000 in
theorem diamond_fc : FC Tryz.prog 44 [] (tabs (tab 4 dia)) := by
 refine fc_of_awp [0] Tryz.func44 rfl rfl 6 Tryz.ntmps44 (Nat.le_of_ble_eq_true rfl) ?_
 intro E hN
 refine rn6 ?_; refine zP (q_bslice rfl rfl rfl rfl (by exact rfl) (by decide) (by decide)) ?_
 refine zP (q_bslice rfl rfl rfl rfl (by exact rfl) (by decide) (by decide)) ?_
 refine zP (q_bslice rfl rfl rfl rfl (by exact rfl) (by decide) (by decide)) ?_
 refine zP (q_bslice rfl rfl rfl rfl (by exact rfl) (by decide) (by decide)) ?_
 refine zP (q_bslice rfl rfl rfl rfl (by exact rfl) (by decide) (by decide)) ?_; refine zS ?_; refine zQ ?_
 rfl
def dlA : List AV := [i64 6, i64 0, i64 0, svs [[97], [98]], .sl [latL dMax, latL dFlag] none, rus []]
theorem dlA_eq : latL dl = dlA := by
 show [i64 6, i64 0, i64 0, svs [[97], [98]], AV.sl ([dMax, dFlag].map latC) none, rus []] = _
 simp only [List.map_cons, List.map_nil, latC_eq]; rfl
def v10 : Val := .mk 0 [] [.mk 1 [] [] [], .mk 0 [] [] []] []
def v10A : List AV := [i64 0, svs [], .sl [valL (.mk 1 [] [] []), valL (.mk 0 [] [] [])] none, ens []]
theorem v10A_eq : valL v10 = v10A := by
 show [i64 0, svs [], AV.sl ([Val.mk 1 [] [] [], .mk 0 [] [] []].map valC) none, ens []] = _
 simp only [List.map_cons, List.map_nil, valC_eq]; rfl
theorem dia_lat : ∃ z, LatF 4 dia z := by
 obtain ⟨z, -, h⟩ := vio_zero dia_tab.lt (by decide : (vio 4 dia).1 = 0)
 exact ⟨z, h⟩
theorem dia_us : FC Tryz.prog 63 [tabs (tab 4 dia)] (i64 0) := by
 have h := usableY_fc 4 dia dia_tab
 rw [if_pos (by decide)] at h; exact h
theorem cA : FC Tryz.prog 13 [.agg dlA] (.tup [i64 4, i64 0]) := by have h := count_fc; rw [dlA_eq] at h; exact h
theorem tA : FC Tryz.prog 23 [.agg dlA] (.tup [tabs (tab 4 dia), i64 0]) := by have h := dtable_fc; rw [dlA_eq] at h; exact h
theorem iA : FC Tryz.prog 15 [.agg dlA, .agg v10A] (.tup [i64 2, i64 0]) := by have h := dindex_fc 2 v10 rfl; rw [dlA_eq, v10A_eq] at h; exact h
theorem hA4 : FC Tryz.prog 36 [tabs (tab 4 dia)] (.tup [i64 2, i64 0]) := by
 obtain ⟨z, h⟩ := dia_lat
 exact fHeight_fc 4 dia dia_tab h dia_us
theorem covA : FC Tryz.prog 32 [tabs (tab 4 dia)] (.tup [prs [(0, 1), (0, 2), (1, 3), (2, 3)], i64 0]) := fCovers_fc 4 dia dia_tab dia_us
theorem irrA : FC Tryz.prog 31 [tabs (tab 4 dia)] (.tup [ivs [1, 2], i64 0]) := fIrr_fc 4 dia dia_tab dia_us
theorem disA : FC Tryz.prog 35 [tabs (tab 4 dia)] (.tup [bl true, i64 0]) := by
 have h := fDist_fc 4 dia dia_tab dia_us
 rw [show tdistB 4 dia = true from by decide] at h; exact h
def two (i j : Nat) : Nat := j
theorem two_tab : TabOf (tab 2 two) 2 two := ⟨rfl, by decide, by decide, fun i j hi hj => hj⟩
theorem chkA : FC Tryz.prog 25 [tabs (tab 2 two)] (.tup [.agg [i64 2, i64 0, i64 1, i64 0], i64 0]) := fcheckY_fc 2 two two_tab
set_option maxRecDepth 100000 in
set_option maxHeartbeats 1000000 in
theorem awake14_fc : FC Tryz.prog 12 [] (bl true) := by
 refine fc_of_awp [0] Tryz.func12 rfl rfl 138 Tryz.ntmps12 (Nat.le_of_ble_eq_true rfl) ?_
 intro E hN
 refine rn6 ?_; refine zP (q_bslice rfl rfl rfl rfl (by exact rfl) (by decide) (by decide)) ?_; refine rn2 ?_
 refine zP (q_bslice rfl rfl rfl rfl (by exact rfl) (by decide) (by decide)) ?_; refine rn7 ?_; refine zP (q_call cA rfl rfl rfl) ?_; refine rn9 ?_
 refine zP (q_call tA rfl rfl rfl) ?_; refine rn8 ?_; refine zP (q_call diamond_fc rfl rfl rfl) ?_; refine zP (q_call covA rfl rfl rfl) ?_
 refine rn8 ?_; refine zP (q_call diamond_fc rfl rfl rfl) ?_; refine zP (q_call hA4 rfl rfl rfl) ?_; refine rn8 ?_
 refine zP (q_call diamond_fc rfl rfl rfl) ?_; refine zP (q_call irrA rfl rfl rfl) ?_; refine rn8 ?_; refine zP (q_call diamond_fc rfl rfl rfl) ?_
 refine zP (q_call disA rfl rfl rfl) ?_; refine rn8 ?_; refine zP (q_bslice rfl rfl rfl rfl (by exact rfl) (by decide) (by decide)) ?_
 refine zP (q_bslice rfl rfl rfl rfl (by exact rfl) (by decide) (by decide)) ?_
 refine zP (q_bslice rfl rfl rfl rfl (by exact rfl) (by decide) (by decide)) ?_; refine zP (q_call chkA rfl rfl rfl) ?_; refine rn12 ?_
 refine zP (q_bslice rfl rfl rfl rfl (by exact rfl) (by decide) (by decide)) ?_; refine rn1 ?_; refine zP (q_call iA rfl rfl rfl) ?_; refine rn13 ?_
 refine zh1 rfl ?_; refine rn3 ?_; refine zh1 rfl ?_; refine rn2 ?_; refine zP (q_call diamond_fc rfl rfl rfl) ?_
 refine zP (q_call (tables_fc (tab 4 dia)) rfl rfl rfl) ?_; refine zh1 rfl ?_; refine rn3 ?_; refine zh1 rfl ?_; refine rn2 ?_
 refine zP (q_buildA rfl rfl rfl) ?_; refine zP (q_buildA rfl rfl rfl) ?_; refine zP (q_buildA rfl rfl rfl) ?_; refine zP (q_buildA rfl rfl rfl) ?_
 refine zP (q_bslice rfl rfl rfl rfl (by exact rfl) (by decide) (by decide)) ?_
 refine zP (q_call (pairs_fc [(0, 1), (0, 2), (1, 3), (2, 3)]) rfl rfl rfl) ?_; refine zh1 rfl ?_; refine rn3 ?_; refine zh1 rfl ?_; refine rn3 ?_
 refine zh1 rfl ?_; refine rn3 ?_; refine zh1 rfl ?_; refine rn2 ?_; refine zP (q_bslice rfl rfl rfl rfl (by exact rfl) (by decide) (by decide)) ?_
 refine zP (q_call (same06_fc [1, 2]) rfl rfl rfl) ?_; refine zh1 rfl ?_; refine rn3 ?_; refine zh1 rfl ?_; refine rn2 ?_; refine zh1 rfl ?_
 refine rn3 ?_; refine zh1 rfl ?_; refine rn3 ?_
 refine zP (q_eqStr rfl (by kernel_rfl) (by kernel_rfl) (by kernel_rfl) [2, 0, 1, 0] (by kernel_rfl) rfl rfl) ?_; refine zh1 rfl ?_; refine rn3 ?_
 refine zh1 rfl ?_; refine rn3 ?_; refine zh1 rfl ?_; refine zS ?_; refine zQ ?_
 rfl
end Go.Proofs.YtaecccdkjmipeaaGreat

namespace Go.Proofs.YtaecccdkjmipeaaGreat
open Go.RowKit
end Go.Proofs.YtaecccdkjmipeaaGreat
