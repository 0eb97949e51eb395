/-
  Contracts: the law FiniteIrreducibles (seat r5).
-/
import Derived.Test.YtaecccdkjmipeaaGreatF9
namespace Go.Proofs.YtaecccdkjmipeaaGreat
open Go.RowKit
set_option maxRecDepth 100000 in
set_option maxHeartbeats 1000000 in
theorem lawFIrr_f (T : List (List Int)) (hF : fewB T = false) : FC Tryz.prog 7 [tabs T] (bl true) := by
 refine fc_of_awp [2] Tryz.func7 rfl rfl 116 Tryz.ntmps7 (Nat.le_of_ble_eq_true rfl) ?_
 intro E hN
 refine zG ?_; refine zT ?_; refine zH ?_; refine zM ?_; refine zP (q_call (fcb (c := false) (few_fc T) hF) rfl rfl rfl) ?_
 refine zP (q_not rfl rfl) ?_; refine zM ?_
 iterate 3 refine zK ?_
 refine zh1 rfl ?_; refine zM ?_
 iterate 3 refine zK ?_
 refine zh1 rfl ?_; refine zN ?_; refine c_true rfl rfl ?_; refine zG ?_; refine zP (q_call awake14_fc rfl rfl rfl) ?_; refine zS ?_; refine zQ ?_
 rfl
set_option maxRecDepth 100000 in
set_option maxHeartbeats 1000000 in
theorem lawFIrr_n (T : List (List Int)) (hF : fewB T = true) (hT : isT T = false) : FC Tryz.prog 7 [tabs T] (bl true) := by
 refine fc_of_awp [2] Tryz.func7 rfl rfl 116 Tryz.ntmps7 (Nat.le_of_ble_eq_true rfl) ?_
 intro E hN
 refine zG ?_; refine zT ?_; refine zH ?_; refine zM ?_; refine zP (q_call (fcb (c := true) (few_fc T) hF) rfl rfl rfl) ?_
 refine zP (q_not rfl rfl) ?_; refine zM ?_; refine zM ?_; refine zP (q_call (fcb (c := false) (rIs_fc T) hT) rfl rfl rfl) ?_
 refine zP (q_not rfl rfl) ?_; refine zh0 rfl ?_; refine zM ?_
 iterate 3 refine zK ?_
 refine zh1 rfl ?_; refine zN ?_; refine c_true rfl rfl ?_; refine zG ?_; refine zP (q_call awake14_fc rfl rfl rfl) ?_; refine zS ?_; refine zQ ?_
 rfl
set_option maxRecDepth 100000 in
set_option maxHeartbeats 1000000 in
theorem lawFIrr_v (n : Nat) (f : Nat → Nat → Nat) (ht : TabOf (tab n f) n f) (hF : fewB (tab n f) = true) (h0 : ¬ (vio n f).1 = 0) : FC Tryz.prog 7 [tabs (tab n f)] (bl true) := by
 refine fc_of_awp [2] Tryz.func7 rfl rfl 116 Tryz.ntmps7 (Nat.le_of_ble_eq_true rfl) ?_
 intro E hN
 refine zG ?_; refine zT ?_; refine zH ?_; refine zM ?_; refine zP (q_call (fcb (c := true) (few_fc (tab n f)) hF) rfl rfl rfl) ?_
 refine zP (q_not rfl rfl) ?_; refine zM ?_; refine zM ?_; refine zP (q_call (fcb (c := true) (rIs_fc (tab n f)) ht.is) rfl rfl rfl) ?_
 refine zP (q_not rfl rfl) ?_; refine zh0 rfl ?_; refine zM ?_; refine zM ?_
 refine zP (q_call (fcb (c := false) (rLatY_fc n f ht) (decide_eq_false h0)) rfl rfl rfl) ?_; refine zP (q_not rfl rfl) ?_; refine zh0 rfl ?_
 refine zN ?_; refine c_true rfl rfl ?_; refine zG ?_; refine zP (q_call awake14_fc rfl rfl rfl) ?_; refine zS ?_; refine zQ ?_
 rfl
theorem joinB_take {f : Nat → Nat → Nat} {z i w k : Nat} {l : List Nat} (h : l[k]? = some w) : joinB f z i (l.take (k + 1)) = if f w i = i then f (joinB f z i (l.take k)) w else joinB f z i (l.take k) := by
 unfold joinB
 rw [List.take_add_one, h, List.foldl_append]; rfl
theorem lowN_take {l : List (Nat × Nat)} {i k : Nat} {e : Nat × Nat} (h : l[k]? = some e) : lowN (l.take (k + 1)) i = lowN (l.take k) i + if e.2 = i then 1 else 0 := by
 rw [List.take_add_one, h]
 exact lowN_one _ _ _
theorem irr_lt {n : Nat} {f : Nat → Nat → Nat} {w k : Nat} (h : (irrL n f)[k]? = some w) : w < n := (irr_mem.1 (List.mem_of_getElem? h)).1
set_option maxRecDepth 100000 in
set_option maxHeartbeats 1000000 in
theorem lawFIrr_y (n : Nat) (f : Nat → Nat → Nat) (ht : TabOf (tab n f) n f) (hF : fewB (tab n f) = true) (h0 : (vio n f).1 = 0) (z : Nat) (hz : bot n f = some z) (Lf : LatF n f z) : FC Tryz.prog 7 [tabs (tab n f)] (bl true) := by
 refine fc_of_awp [2] Tryz.func7 rfl rfl 116 Tryz.ntmps7 (Nat.le_of_ble_eq_true rfl) ?_
 intro E hN
 have h256 := ht.le
 have hlt := ht.lt
 have h1n := ht.pos
 have hb : rBot n f = (z : Int) := by rw [rBot, hz]
 refine zG ?_; refine zT ?_; refine zH ?_; refine zM ?_; refine zP (q_call (fcb (c := true) (few_fc (tab n f)) hF) rfl rfl rfl) ?_
 refine zP (q_not rfl rfl) ?_; refine zM ?_; refine zM ?_; refine zP (q_call (fcb (c := true) (rIs_fc (tab n f)) ht.is) rfl rfl rfl) ?_
 refine zP (q_not rfl rfl) ?_; refine zh0 rfl ?_; refine zM ?_; refine zM ?_
 refine zP (q_call (fcb (c := true) (rLatY_fc n f ht) (decide_eq_true h0)) rfl rfl rfl) ?_; refine zP (q_not rfl rfl) ?_; refine zh0 rfl ?_
 refine zN ?_; refine c_false rfl rfl ?_; refine zW ?_; refine zG ?_; refine zM ?_; refine zP (q_call (fIrr_fc n f ht (us0 ht h0)) rfl rfl rfl) ?_
 refine zM ?_; refine zP (q_extract rfl rfl rfl) ?_; refine zP (q_extract rfl rfl rfl) ?_; refine zS ?_; refine zS ?_; refine zA ?_; refine zM ?_
 refine zP (q_call (fCovers_fc n f ht (us0 ht h0)) rfl rfl rfl) ?_; refine zM ?_; refine zP (q_extract rfl rfl rfl) ?_
 refine zP (q_extract rfl rfl rfl) ?_; refine zS ?_; refine zT ?_; refine zH ?_; refine zM ?_; refine zB ?_; refine zM ?_; refine zM ?_; refine zB ?_
 refine zh0 rfl ?_; refine zN ?_; refine c_false rfl rfl ?_; refine zW ?_; refine zG ?_; refine s_bslice0 hN rfl rfl rfl rfl rfl rfl ?_; refine zT ?_
 refine zH ?_; refine zT ?_; refine awp_block ?_
 refine awp_loop (fun x : {i : Nat // i ≤ n ∧ True} => ⟨[(0, tabs (tab n f)), (3, nvs (irrL n f)), (5, prs (covL n f)), (7, .own 0 (irrK n f x.1).length), (8, i64 (x.1 : Nat))], [(0, .arr 3 1 ((irrK n f x.1).map nvv1))], 1⟩) (fun x => n - x.1) (⟨0, Nat.zero_le _, by trivial⟩) ?_ ?_
 ·
  exact weak_scrub' rfl (zz4 (zz1 trivial)) ⟨rfl, rfl, (ok_arr (fun _ => rfl) _), trivial⟩
 rintro ⟨i, hi, gi⟩
 dsimp only
 refine zH ?_; refine zM ?_; refine zM ?_; refine zE ?_; refine zB ?_; refine zN ?_
 refine zq ?_ ?_ <;> intro h17
 ·
  have lti : i < n := by simpa [tab] using h17
  refine zW ?_; refine awp_seq ?_; refine awp_block ?_; refine zG ?_; refine zT ?_; refine zH ?_; refine zT ?_; refine awp_block ?_
  refine awp_loop (fun x : {k : Nat // k ≤ (covL n f).length ∧ True} => ⟨[(0, tabs (tab n f)), (3, nvs (irrL n f)), (5, prs (covL n f)), (7, .own 0 (irrK n f i).length), (8, i64 (i : Nat)), (9, i64 (lowN ((covL n f).take x.1) i : Nat)), (10, i64 (x.1 : Nat))], [(0, .arr 3 1 ((irrK n f i).map nvv1))], 1⟩) (fun x => (covL n f).length - x.1) (⟨0, Nat.zero_le _, by trivial⟩) ?_ ?_
  ·
   exact weak_scrub' rfl (zz4 (zz3 trivial)) ⟨rfl, rfl, (ok_arr (fun _ => rfl) _), trivial⟩
  rintro ⟨k, hk, gk⟩
  dsimp only
  refine a_lm 5 rfl (fun hl5 => ?_)
  refine zH ?_; refine zM ?_; refine zM ?_; refine zE ?_; refine zB ?_; refine zN ?_
  refine zq ?_ ?_ <;> intro h26
  ·
   have ltk : k < (covL n f).length := by simpa using h26
   obtain ⟨e, hke⟩ := get_lt ltk
   have he := cov_mem hke
   refine zW ?_; refine awp_seq ?_; refine awp_block ?_; refine zG ?_; refine zM ?_; refine zM ?_
   refine zP (q_elem rfl rfl rfl k rfl _ (pr_get hke) rfl) ?_; refine zP (q_arr rfl rfl rfl 1 rfl (by decide) rfl rfl) ?_; refine zL ?_; refine zM ?_
   refine zB ?_; refine zN ?_
   refine zq ?_ ?_ <;> intro h30
   ·
    refine awp_region ?_; refine zM ?_
    refine zP (q_addi rfl rfl rfl (by have := low_le (covL n f) i k; omega)) ?_
    refine zS ?_; refine aops_nil ?_; change AWP _ _ _ _  _; refine awp_region ?_; refine zM ?_; refine zP (q_addi rfl rfl rfl (by omega)) ?_
    refine zS ?_; refine aops_nil ?_
    exact ⟨⟨k + 1, ltk, trivial⟩, weak_scrub' rfl (zz4 (zz1 ⟨(cgI (by rw [lowN_take hke]; split <;> first | omega | (exfalso; simp_all <;> omega))), rfl, (cgI (by dsimp only; omega)), rfl, trivial⟩)) ⟨rfl, rfl, (ok_arr (fun _ => rfl) _), trivial⟩, by dsimp only; omega⟩
   refine awp_skip ?_; change AWP _ _ _ _  _; refine awp_region ?_; refine zM ?_; refine zP (q_addi rfl rfl rfl (by omega)) ?_; refine zS ?_
   refine aops_nil ?_
   exact ⟨⟨k + 1, ltk, trivial⟩, weak_scrub' rfl (zz4 (zz1 ⟨(cgI (by rw [lowN_take hke]; split <;> first | omega | (exfalso; simp_all <;> omega))), rfl, (cgI (by dsimp only; omega)), rfl, trivial⟩)) ⟨rfl, rfl, (ok_arr (fun _ => rfl) _), trivial⟩, by dsimp only; omega⟩
  have gek : (covL n f).length ≤ k := by simpa using h26
  refine awp_exit ?_; change AWP _ _ _ _  _; refine zG ?_; refine zM ?_; refine zB ?_; refine zN ?_
  refine zq ?_ ?_ <;> intro h34
  ·
   have h17 : lowN (covL n f) i = 1 := by have := h34; rw [List.take_of_length_le gek] at this; simp at this; omega
   refine awp_region ?_; refine zM ?_; refine zM ?_; refine zP (q_bslice rfl rfl rfl rfl (by exact rfl) (by decide) (by decide)) ?_
   refine s_append_own hN rfl rfl rfl (by simp) rfl rfl (by rfl) (by have := irrK_len n f i; simp [chunk_nvv]; omega) rfl rfl rfl rfl ?_
   refine zS ?_; refine aops_nil ?_; change AWP _ _ _ _  _; refine awp_region ?_; refine zM ?_; refine zP (q_addi rfl rfl rfl (by omega)) ?_
   refine zS ?_; refine aops_nil ?_
   exact ⟨⟨i + 1, lti, trivial⟩, weak_scrub' rfl (zz3 ⟨(cgO (by first | rw [irrK_no h17] | (rw [irrK_yes h17]; simp [chunk_nvv]))), rfl, (cgI (by dsimp only; omega)), rfl, trivial⟩) ⟨(cgA (by first | rw [irrK_no h17] | (rw [irrK_yes h17]; simp [chunk_nvv]))), rfl, (ok_arr (fun _ => rfl) _), trivial⟩, by dsimp only; omega⟩
  have h17 : ¬ lowN (covL n f) i = 1 := by have := h34; rw [List.take_of_length_le gek] at this; simp at this; omega
  refine awp_skip ?_; change AWP _ _ _ _  _; refine awp_region ?_; refine zM ?_; refine zP (q_addi rfl rfl rfl (by omega)) ?_; refine zS ?_
  refine aops_nil ?_
  exact ⟨⟨i + 1, lti, trivial⟩, weak_scrub' rfl (zz3 ⟨(cgO (by first | rw [irrK_no h17] | (rw [irrK_yes h17]; simp [chunk_nvv]))), rfl, (cgI (by dsimp only; omega)), rfl, trivial⟩) ⟨(cgA (by first | rw [irrK_no h17] | (rw [irrK_yes h17]; simp [chunk_nvv]))), rfl, (ok_arr (fun _ => rfl) _), trivial⟩, by dsimp only; omega⟩
 have gei : n ≤ i := by simpa [tab] using h17
 obtain rfl : n = i := by omega
 refine awp_exit ?_; change AWP _ _ _ _  _; refine awp_seq ?_; refine awp_seq ?_
 refine awp_weak (weak_frow 7 0 rfl (es := (irrL n f).map nvv1) (by exact cgA rfl) (by simp; rfl) (okE_map (fun _ => rfl) _) (fz_map (fun _ => rfl) _) rfl) ?_
 refine awp_region ?_; refine zM ?_; refine zM ?_; refine zP (q_call (same06N (irrL n f)) rfl rfl rfl) ?_; refine zP (q_not rfl rfl) ?_; refine zN ?_
 refine c_false rfl rfl ?_; refine zW ?_; refine zH ?_; refine zT ?_; refine awp_block ?_
 refine awp_loop (fun x : {i : Nat // i ≤ n ∧ True} => ⟨[(0, tabs (tab n f)), (7, nvs (irrL n f)), (11, i64 (x.1 : Nat))], [], 1⟩) (fun x => n - x.1) (⟨0, Nat.zero_le _, by trivial⟩) ?_ ?_
 ·
  exact weak_scrub' rfl (zz3 trivial) trivial
 rintro ⟨i, hi, gi⟩
 dsimp only
 refine zH ?_; refine zM ?_; refine zM ?_; refine zE ?_; refine zB ?_; refine zN ?_
 refine zq ?_ ?_ <;> intro h43
 ·
  have lti : i < n := by simpa [tab] using h43
  refine zW ?_; refine awp_seq ?_; refine awp_block ?_; refine zG ?_; refine zM ?_
  refine zP (q_call (by have h := rBot_fc n f ht; rw [hb] at h; exact h) rfl rfl rfl) ?_
  refine zT ?_; refine zH ?_; refine zT ?_; refine awp_block ?_
  refine awp_loop (fun x : {k : Nat // k ≤ (irrL n f).length ∧ True} => ⟨[(0, tabs (tab n f)), (7, nvs (irrL n f)), (11, i64 (i : Nat)), (12, i64 (joinB f z i ((irrL n f).take x.1) : Nat)), (13, i64 (x.1 : Nat))], [], 1⟩) (fun x => (irrL n f).length - x.1) (⟨0, Nat.zero_le _, by trivial⟩) ?_ ?_
  ·
   exact weak_scrub' rfl (zz4 (zz1 trivial)) trivial
  rintro ⟨k, hk, gk⟩
  dsimp only
  refine a_lm 7 rfl (fun hl7 => ?_)
  refine zH ?_; refine zM ?_; refine zM ?_; refine zE ?_; refine zB ?_; refine zN ?_
  refine zq ?_ ?_ <;> intro h51
  ·
   have ltk : k < (irrL n f).length := by simpa using h51
   obtain ⟨w, hkw⟩ := get_lt ltk
   have hwn := irr_lt hkw
   have hjb := (Lf.joinB_spec lti ((irrL n f).take k) z (fun q hq => (irr_mem.1 (List.mem_of_mem_take hq)).1) Lf.zlt (Lf.zl i lti)).1
   refine zW ?_; refine awp_seq ?_; refine awp_block ?_; refine zG ?_; refine zM ?_; refine zM ?_; refine zM ?_
   refine zP (q_elem rfl rfl rfl k rfl _ (map_get hkw) rfl) ?_; refine zL ?_; refine zP (q_elem rfl rfl rfl w rfl _ (tab_get hwn) rfl) ?_; refine zL ?_
   refine zM ?_; refine zP (q_elem rfl rfl rfl i rfl _ (rowL_get lti) rfl) ?_; refine zL ?_; refine zM ?_; refine zB ?_; refine zN ?_
   refine zq ?_ ?_ <;> intro h58
   ·
    refine awp_draw 10 (by kernel_rfl) (by kernel_rfl) ?_; refine zm ?_; refine zm ?_
    refine zp (q_elem rfl rfl rfl (joinB f z i ((irrL n f).take k)) rfl _ (tab_get hjb) rfl) ?_; refine zl ?_; refine zm ?_; refine zm ?_
    refine zp (q_elem rfl rfl rfl k rfl _ (map_get hkw) rfl) ?_; refine zl ?_; refine zp (q_elem rfl rfl rfl w rfl _ (rowL_get hwn) rfl) ?_
    refine zl ?_; change AOps _ _ _ _ _ _; refine zS ?_; refine aops_nil ?_; change AWP _ _ _ _  _; refine awp_region ?_; refine zM ?_
    refine zP (q_addi rfl rfl rfl (by omega)) ?_; refine zS ?_; refine aops_nil ?_
    exact ⟨⟨k + 1, ltk, trivial⟩, weak_scrub' rfl (zz3 ⟨(cgI (by rw [joinB_take hkw]; split <;> first | rfl | (exfalso; simp_all <;> omega))), rfl, (cgI (by dsimp only; omega)), rfl, trivial⟩) trivial, by dsimp only; omega⟩
   refine awp_skip ?_; change AWP _ _ _ _  _; refine awp_region ?_; refine zM ?_; refine zP (q_addi rfl rfl rfl (by omega)) ?_; refine zS ?_
   refine aops_nil ?_
   exact ⟨⟨k + 1, ltk, trivial⟩, weak_scrub' rfl (zz3 ⟨(cgI (by rw [joinB_take hkw]; split <;> first | rfl | (exfalso; simp_all <;> omega))), rfl, (cgI (by dsimp only; omega)), rfl, trivial⟩) trivial, by dsimp only; omega⟩
  have gek : (irrL n f).length ≤ k := by simpa using h51
  refine awp_exit ?_; change AWP _ _ _ _  _; refine zG ?_; refine zM ?_; refine zM ?_
  refine zP (q_binb (b := false) rfl rfl rfl (congrArg Value.bool (by rw [bneN, List.take_of_length_le gek, Lf.irr_join lti]; simp))) ?_
  refine zN ?_; refine c_false rfl rfl ?_; refine awp_skip ?_; change AWP _ _ _ _  _; refine awp_region ?_; refine zM ?_
  refine zP (q_addi rfl rfl rfl (by omega)) ?_; refine zS ?_; refine aops_nil ?_
  exact ⟨⟨i + 1, lti, trivial⟩, weak_scrub' rfl (zz2 ⟨(cgI (by dsimp only; omega)), rfl, trivial⟩) trivial, by dsimp only; omega⟩
 have gei : n ≤ i := by simpa [tab] using h43
 refine awp_exit ?_; change AWP _ _ _ _  _; refine zG ?_; refine zP (q_call awake14_fc rfl rfl rfl) ?_; refine zS ?_; refine zQ ?_
 rfl
theorem lawFIrr_fc (T : List (List Int)) : FC Tryz.prog 7 [tabs T] (bl true) := by
 cases hF : fewB T with
 | false => exact lawFIrr_f T hF
 | true =>
  cases hT : isT T with
  | false => exact lawFIrr_n T hF hT
  | true =>
   obtain ⟨n, f, h⟩ := isT_of hT
   have e := h.eq
   subst e
   by_cases h0 : (vio n f).1 = 0
   ·obtain ⟨z, hz, Lf⟩ := vio_zero h.lt h0
    exact lawFIrr_y n f h hF h0 z hz Lf
   exact lawFIrr_v n f h hF h0
end Go.Proofs.YtaecccdkjmipeaaGreat
