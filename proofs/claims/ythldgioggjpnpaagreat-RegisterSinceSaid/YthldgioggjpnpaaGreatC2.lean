/-
  Contracts of the reference: clocks, descriptions.
  Contracts of the reference: descriptions.
-/
import Derived.Test.YthldgioggjpnpaaGreatC1
import Derived.Test.YthldgioggjpnpaaGreatB3
namespace Go.Proofs.YthldgioggjpnpaaGreat
open Go.RowKit
instance tpairTick : TPair Tryz.prog 40 := ⟨by kernel_rfl, by kernel_rfl, by kernel_rfl, by kernel_rfl⟩
theorem fzs_iv2 (l : List Int) : ∀ e ∈ l.map iv1, fzs e = some e := fun e he => by
 obtain ⟨x, -, rfl⟩ := List.mem_map.1 he
 rfl
/-- of clocks -/
def lastT (l : List Tk) (k : Nat) : Int := match k with
 | 0 => -1
 | k + 1 => match l[k]? with
  | some y => y.1
  | none => -1
theorem lastT_succ {l : List Tk} {k : Nat} {x : Tk} (h : l[k]? = some x) : lastT l (k + 1) = x.1 := by
 show (match l[k]? with | some y => y.1 | none => -1) = x.1
 rw [h]
theorem okTk_split {last : Int} {t : Tk} (hl : -1 ≤ last) : okTk last t = (!(decide (t.1 < 0) || decide (t.1 > 63) || decide (t.2 < 1) || decide (t.2 > 1000000000000000)) && !(decide (0 ≤ last) && decide (t.1 ≤ last))) := by
 unfold okTk
 by_cases h1 : t.1 ≤ last <;> by_cases h2 : t.1 < 0 <;> by_cases h3 : 0 ≤ last <;> simp [h1, h2, h3] <;> omega
def nums (c : List Tk) : List Int := (List.range 64).map fun (p : Nat) => getC c ((p : Nat) : Int)
theorem nums_len {c : List Tk} : (nums c).length = 64 := by simp [nums]
theorem nums_at {c : List Tk} {k : Nat} (h : k < 64) : (nums c)[k]? = some (getC c (k : Int)) := by unfold nums; rw [List.getElem?_map, List.getElem?_range h]; rfl
def leqN (a b : List Tk) : Bool := (List.range 64).all fun (p : Nat) => decide (getC a ((p : Nat) : Int) ≤ getC b ((p : Nat) : Int))
def belowN (a b : List Tk) : Bool := validC (-1) a && validC (-1) b && leqN a b && !leqN b a
theorem rng_at {k : Nat} (h : k < 64) : (List.range 64)[k]? = some k := List.getElem?_range h
set_option maxRecDepth 100000 in
set_option maxHeartbeats 1000000 in
theorem rvalidC_fc (l : List Tk) : FC Tryz.prog 58 [tks l] (bl (validC (-1) l)) := by
 refine fc_of_awp [2] Tryz.func58 rfl rfl 56 Tryz.ntmps58 (Nat.le_of_ble_eq_true rfl) ?_
 intro E hN
 refine a_lm 0 rfl (fun hl0 => ?_)
 refine zG ?_; refine zT ?_; refine zH ?_; refine zT ?_; refine awp_block ?_
 refine awp_loop (fun x : {k : Nat // k ≤ l.length ∧ validC (lastT l k) (l.drop k) = validC (-1) l ∧ -1 ≤ lastT l k ∧ (0 < k → 0 ≤ lastT l k)} => ⟨[(0, tks l), (3, i64 (x.1 : Nat))], [], 0⟩) (fun x => l.length - x.1) (⟨0, Nat.zero_le _, rfl, Int.le_refl _, fun h => absurd h (Nat.lt_irrefl 0)⟩) ?_ ?_
 ·
  exact weak_scrub' rfl (zz2 trivial) trivial
 rintro ⟨k, hk, hg, hl1, hl2⟩
 dsimp only
 refine zH ?_; refine zM ?_; refine zM ?_; refine zE ?_; refine zB ?_; refine zN ?_
 refine zq ?_ ?_ <;> intro h5
 ·
  have hlt : k < (l).length := by simpa using h5
  obtain ⟨x, hx⟩ := get_lt hlt
  have hs := vc_step hg hx
  have hsp := okTk_split (t := x) hl1
  refine zW ?_; refine awp_seq ?_; refine awp_block ?_; refine zH ?_; refine zM ?_; refine zM ?_
  refine zP (q_elem rfl rfl rfl k rfl _ (map_get hx) rfl) ?_; refine zF ?_; refine zL ?_; refine zB ?_; refine zM ?_
  refine zc 16 ?_ ?_ <;> intro h9
  ·
   iterate 6 refine uK (w10 h9) ?_
   refine zh1 h9 ?_; refine zM ?_
   iterate 6 refine zK ?_
   refine zh1 rfl ?_; refine zM ?_
   iterate 6 refine zK ?_
   refine zh1 rfl ?_; refine zN ?_; refine c_true rfl rfl ?_; refine zG ?_; refine zS ?_; refine zQ ?_
   exact retB (by rw [hs, hsp]; simp_all)
  refine uM (w00 h9) ?_; refine uM (w00 h9) ?_; refine uP (w00 h9) (q_elem rfl rfl rfl k rfl _ (map_get hx) rfl) ?_; refine uF (w00 h9) ?_
  refine uL (w00 h9) ?_; refine uP (w00 h9) (q_bin rfl rfl rfl) ?_; refine zh0 h9 ?_; refine zM ?_
  refine zc 24 ?_ ?_ <;> intro h13
  ·
   iterate 6 refine uK (w10 h13) ?_
   refine zh1 h13 ?_; refine zM ?_
   iterate 6 refine zK ?_
   refine zh1 rfl ?_; refine zN ?_; refine c_true rfl rfl ?_; refine zG ?_; refine zS ?_; refine zQ ?_
   exact retB (by rw [hs, hsp]; simp_all)
  refine uM (w00 h13) ?_; refine uM (w00 h13) ?_; refine uP (w00 h13) (q_elem rfl rfl rfl k rfl _ (map_get hx) rfl) ?_; refine uF (w00 h13) ?_
  refine uL (w00 h13) ?_; refine uP (w00 h13) (q_bin rfl rfl rfl) ?_; refine zh0 h13 ?_; refine zM ?_
  refine zc 32 ?_ ?_ <;> intro h17
  ·
   iterate 6 refine uK (w10 h17) ?_
   refine zh1 h17 ?_; refine zN ?_; refine c_true rfl rfl ?_; refine zG ?_; refine zS ?_; refine zQ ?_
   exact retB (by rw [hs, hsp]; simp_all)
  refine uM (w00 h17) ?_; refine uM (w00 h17) ?_; refine uP (w00 h17) (q_elem rfl rfl rfl k rfl _ (map_get hx) rfl) ?_; refine uF (w00 h17) ?_
  refine uL (w00 h17) ?_; refine uP (w00 h17) (q_bin rfl rfl rfl) ?_; refine zh0 h17 ?_; refine zN ?_
  refine zq ?_ ?_ <;> intro h21
  ·
   refine zG ?_; refine zS ?_; refine zQ ?_
   exact retB (by rw [hs, hsp]; simp_all)
  have h4 : x.1 ≥ 0 ∧ x.1 ≤ 63 ∧ x.2 ≥ 1 ∧ x.2 ≤ 1000000000000000 := by simp at *; omega
  have h0 : 0 ≤ x.1 := h4.1
  refine zW ?_; refine awp_seq ?_; refine awp_draw 15 (by kernel_rfl) (by kernel_rfl) ?_; refine zm ?_; refine zp (q_bin rfl rfl rfl) ?_; refine zm ?_
  refine zd 42 ?_ ?_ <;> intro h22
  ·
   have hk0 : 0 < k := by have := of_decide_eq_true h22; omega
   obtain ⟨y, hy⟩ := get_lt (show k - 1 < l.length by omega)
   have hlast : lastT l k = y.1 := by
    have e : k = k - 1 + 1 := by omega
    rw [e, lastT_succ hy]
   have hl3 : 0 ≤ y.1 := by rw [← hlast]; exact hl2 hk0
   refine vP (w11 h22) (q_move rfl rfl) ?_; refine vP (w11 h22) (q_move rfl rfl) ?_
   refine vP (w11 h22) (q_elem rfl rfl rfl k rfl _ (map_get hx) rfl) ?_; refine vP (w11 h22) (q_fieldAddr rfl rfl rfl rfl) ?_
   refine vP (w11 h22) (q_load rfl rfl rfl rfl rfl) ?_; refine vP (w11 h22) (q_move rfl rfl) ?_; refine vP (w11 h22) (q_move rfl rfl) ?_
   refine vP (w11 h22) (q_subi rfl rfl rfl (by omega)) ?_; refine vP (w11 h22) (q_elem rfl rfl rfl (k - 1) (by omega) _ (map_get hy) rfl) ?_
   refine vP (w11 h22) (q_fieldAddr rfl rfl rfl rfl) ?_; refine vP (w11 h22) (q_load rfl rfl rfl rfl rfl) ?_
   refine vP (w11 h22) (q_bin rfl rfl rfl) ?_; change AOps _ _ _ _ _ _; refine zh1 h22 ?_; refine zN ?_
   refine zq ?_ ?_ <;> intro h30
   ·
    have hno : okTk (lastT l k) x = false := by
     rw [hlast] at hsp; rw [hlast, hsp]
     have := of_decide_eq_true h30
     simp [hl3, this]
    refine zG ?_; refine zS ?_; refine zQ ?_
    exact retB (by rw [hs, hno]; rfl)
   have hok : okTk (lastT l k) x = true := by
    rw [hlast] at hsp; rw [hlast, hsp]
    have := of_decide_eq_false h30
    simp [this]
    omega
   refine awp_skip ?_; change AWP _ _ _ _  _; refine awp_region ?_; refine zM ?_; refine zP (q_addi rfl rfl rfl (by omega)) ?_; refine zS ?_
   refine aops_nil ?_
   exact ⟨⟨k + 1, hlt, by rw [hs, hok, lastT_succ hx]; rfl, by rw [lastT_succ hx]; omega, fun _ => by rw [lastT_succ hx]; exact h0⟩, weak_scrub' rfl (zz1 ⟨(cgI (by dsimp only; omega)), rfl, trivial⟩) trivial, by dsimp only; omega⟩
  have hk0 : k = 0 := by have := of_decide_eq_false h22; omega
  have hlz : lastT l k = -1 := by rw [hk0]; rfl
  have hok : okTk (lastT l k) x = true := by
   rw [hlz] at hsp
   rw [hlz, hsp]
   simp
   omega
  iterate 12 refine vK (w01 h22) ?_
  change AOps _ _ _ _ _ _; refine zh0 h22 ?_; refine zN ?_; refine c_false rfl rfl ?_; refine awp_skip ?_; change AWP _ _ _ _  _; refine awp_region ?_
  refine zM ?_; refine zP (q_addi rfl rfl rfl (by omega)) ?_; refine zS ?_; refine aops_nil ?_
  exact ⟨⟨k + 1, hlt, by rw [hs, hok, lastT_succ hx]; rfl, by rw [lastT_succ hx]; omega, fun _ => by rw [lastT_succ hx]; exact h0⟩, weak_scrub' rfl (zz1 ⟨(cgI (by dsimp only; omega)), rfl, trivial⟩) trivial, by dsimp only; omega⟩
 have hge : (l).length ≤ k := by simpa using h5
 refine awp_exit ?_; change AWP _ _ _ _  _; refine zG ?_; refine zS ?_; refine zQ ?_
 exact retB (by rw [← hg, List.drop_of_length_le hge]; rfl)
set_option maxRecDepth 100000 in
set_option maxHeartbeats 1000000 in
theorem rgetC_fc (l : List Tk) (q : Int) : FC Tryz.prog 89 [tks l, i64 q] (i64 (getC l q)) := by
 refine fc_of_awp [4] Tryz.func89 rfl rfl 27 Tryz.ntmps89 (Nat.le_of_ble_eq_true rfl) ?_
 intro E hN
 refine a_lm 0 rfl (fun hl0 => ?_)
 refine zG ?_; refine zT ?_; refine zH ?_; refine zM ?_; refine zP (q_call (rvalidC_fc l) rfl rfl rfl) ?_; refine zP (q_not rfl rfl) ?_; refine zN ?_
 refine zq ?_ ?_ <;> intro h3
 ·
  have h1 := h3
  refine zG ?_; refine zS ?_; refine zQ ?_
  exact retI (by simp_all [getC])
 have h1 := h3
 refine zW ?_; refine zH ?_; refine zT ?_; refine awp_block ?_
 refine awp_loop (fun x : {k : Nat // k ≤ (l).length ∧ getB (l.drop k) q = getB l q} => ⟨[(0, tks l), (1, i64 q), (5, i64 (x.1 : Nat))], [], 0⟩) (fun x => (l).length - x.1) (⟨0, Nat.zero_le _, by simp⟩) ?_ ?_
 ·
  exact weak_scrub' rfl (zz3 trivial) trivial
 rintro ⟨k, hk, hg⟩
 dsimp only
 refine zH ?_; refine zM ?_; refine zM ?_; refine zE ?_; refine zB ?_; refine zN ?_
 refine zq ?_ ?_ <;> intro h8
 ·
  have hlt : k < (l).length := by simpa using h8
  obtain ⟨x, hx⟩ := get_lt hlt
  refine zW ?_; refine awp_seq ?_; refine awp_block ?_; refine zG ?_; refine zM ?_; refine zM ?_
  refine zP (q_elem rfl rfl rfl k rfl _ (map_get hx) rfl) ?_; refine zF ?_; refine zL ?_; refine zM ?_; refine zB ?_; refine zN ?_
  refine zq ?_ ?_ <;> intro h12
  ·
   have h6 := h12
   refine zG ?_; refine zM ?_; refine zM ?_; refine zP (q_elem rfl rfl rfl k rfl _ (map_get hx) rfl) ?_; refine zF ?_; refine zL ?_; refine zS ?_
   refine zQ ?_
   exact retI (by rw [getC, if_pos (by simpa using h1), ← hg, drop_get hx]; simp_all [getB])
  have h6 := h12
  refine awp_skip ?_; change AWP _ _ _ _  _; refine awp_region ?_; refine zM ?_; refine zP (q_addi rfl rfl rfl (by omega)) ?_; refine zS ?_
  refine aops_nil ?_
  exact ⟨⟨k + 1, hlt, by rw [← hg, drop_get hx]; simp_all [getB]⟩, weak_scrub' rfl (zz2 ⟨(cgI (by dsimp only; omega)), rfl, trivial⟩) trivial, by dsimp only; omega⟩
 have hge : (l).length ≤ k := by simpa using h8
 refine awp_exit ?_; change AWP _ _ _ _  _; refine zG ?_; refine zS ?_; refine zQ ?_
 exact retI (by rw [getC, if_pos (by simpa using h1), ← hg, List.drop_of_length_le hge]; rfl)
set_option maxRecDepth 100000 in
set_option maxHeartbeats 1000000 in
theorem rall_fc (c : List Tk) : FC Tryz.prog 59 [tks c] (ivs (nums c)) := by
 refine fc_of_awp [2] Tryz.func59 rfl rfl 16 Tryz.ntmps59 (Nat.le_of_ble_eq_true rfl) ?_
 intro E hN
 refine zG ?_; refine zS ?_; refine zA ?_; refine zT ?_; refine zH ?_; refine zT ?_; refine awp_block ?_
 refine awp_weak (weak_own rfl 3 2 1 rfl) ?_
 refine awp_loop (fun x : {k : Nat // k ≤ 64} => ⟨[(0, tks c), (3, .own 0 ((nums c).take x.1).length), (4, i64 (x.1 : Nat))], [(0, .arr 2 1 (((nums c).take x.1).map iv1))], 1⟩) (fun x => 64 - x.1) (⟨0, by decide⟩) ?_ ?_
 ·
  exact weak_scrub' rfl (zz3 trivial) ⟨rfl, rfl, (ok_arr (fun _ => rfl) _), trivial⟩
 rintro ⟨k, hk⟩
 dsimp only
 refine zH ?_; refine zM ?_; refine zB ?_; refine zN ?_
 refine zq ?_ ?_ <;> intro h5
 ·
  have hlt : k < 64 := by have := of_decide_eq_true h5; omega
  refine zW ?_; refine awp_seq ?_; refine awp_block ?_; refine awp_region ?_; refine zM ?_; refine zM ?_; refine zM ?_
  refine zP (q_call (rgetC_fc c (k : Int)) rfl rfl rfl) ?_; refine zP (q_bslice rfl rfl rfl rfl (by exact rfl) (by decide) (by decide)) ?_
  refine s_append_own hN rfl rfl rfl (by simp) rfl rfl rfl (by simp [chunk_1, nums_len]; omega) rfl rfl rfl rfl ?_
  refine zS ?_; refine aops_nil ?_; change AWP _ _ _ _  _; refine awp_region ?_; refine zM ?_; refine zP (q_addi rfl rfl rfl (by omega)) ?_
  refine zS ?_; refine aops_nil ?_
  exact ⟨⟨k + 1, by omega⟩, weak_scrub' rfl (zz1 ⟨(cgO (by rw [List.take_add_one, nums_at hlt]; simp [chunk_1])), rfl, (cgI (by dsimp only; omega)), rfl, trivial⟩) ⟨(cgA (by rw [List.take_add_one, nums_at hlt]; simp [chunk_1, iv1])), rfl, (ok_arr (fun _ => rfl) _), trivial⟩, by dsimp only; omega⟩
 have hge : 64 ≤ k := by have := of_decide_eq_false h5; omega
 rw [List.take_of_length_le (show (nums c).length ≤ k by rw [nums_len]; exact hge)]
 refine awp_exit ?_; change AWP _ _ _ _  _; refine zG ?_; refine zM ?_; refine zT ?_
 refine awp_weak (weak_frow 2 0 rfl rfl (by simp) (all_okE (fun _ => rfl) _) (fzs_iv2 _) rfl) ?_; refine zR ?_
 rfl
set_option maxRecDepth 100000 in
set_option maxHeartbeats 1000000 in
theorem rleqC_fc (a b : List Tk) : FC Tryz.prog 104 [tks a, tks b] (bl (leqN a b)) := by
 refine fc_of_awp [4] Tryz.func104 rfl rfl 27 Tryz.ntmps104 (Nat.le_of_ble_eq_true rfl) ?_
 intro E hN
 refine zG ?_; refine zS ?_; refine zA ?_; refine zM ?_; refine zP (q_call (rall_fc a) rfl rfl rfl) ?_; refine zM ?_
 refine zP (q_call (rall_fc b) rfl rfl rfl) ?_; refine zS ?_; refine zT ?_; refine zH ?_; refine zT ?_; refine awp_block ?_
 refine awp_loop (fun x : {k : Nat // k ≤ 64 ∧ ((List.range 64).drop k).all (fun (p : Nat) => decide (getC a ((p : Nat) : Int) ≤ getC b ((p : Nat) : Int))) = leqN a b} => ⟨[(5, ivs (nums a)), (6, ivs (nums b)), (7, i64 (x.1 : Nat))], [], 0⟩) (fun x => 64 - x.1) (⟨0, by decide, rfl⟩) ?_ ?_
 ·
  exact weak_scrub' rfl (zz3 trivial) trivial
 rintro ⟨k, hk, hg⟩
 dsimp only
 refine zH ?_; refine zM ?_; refine zM ?_; refine zE ?_; refine zB ?_; refine zN ?_
 refine zq ?_ ?_ <;> intro h9
 ·
  have hlt : k < 64 := by have := of_decide_eq_true h9; simp [nums_len] at this; omega
  refine zW ?_; refine awp_seq ?_; refine awp_block ?_; refine awp_seq ?_; refine awp_draw 8 (by kernel_rfl) (by kernel_rfl) ?_; refine zm ?_
  refine zm ?_; refine zp (q_elem rfl rfl rfl k rfl _ (map_get (nums_at hlt)) rfl) ?_; refine zl ?_; refine zm ?_; refine zm ?_
  refine zp (q_elem rfl rfl rfl k rfl _ (map_get (nums_at hlt)) rfl) ?_; refine zl ?_; change AOps _ _ _ _ _ _; refine zB ?_; refine zN ?_
  refine zq ?_ ?_ <;> intro h14
  ·
   have h5 := h14
   refine zG ?_; refine zS ?_; refine zQ ?_
   exact retB (all_no hg (rng_at hlt) (by have := of_decide_eq_true h5; exact decide_eq_false (by omega))).symm
  have h5 := h14
  refine awp_skip ?_; change AWP _ _ _ _  _; refine awp_region ?_; refine zM ?_; refine zP (q_addi rfl rfl rfl (by omega)) ?_; refine zS ?_
  refine aops_nil ?_
  exact ⟨⟨k + 1, by omega, all_go hg (rng_at hlt) (by have := of_decide_eq_false h5; exact decide_eq_true (by omega))⟩, weak_scrub' rfl (zz2 ⟨(cgI (by dsimp only; omega)), rfl, trivial⟩) trivial, by dsimp only; omega⟩
 have hge : 64 ≤ k := by have := of_decide_eq_false h9; simp [nums_len] at this; omega
 refine awp_exit ?_; change AWP _ _ _ _  _; refine zG ?_; refine zS ?_; refine zQ ?_
 exact retB (all_end hg (by simpa using hge)).symm
set_option maxRecDepth 100000 in
set_option maxHeartbeats 1000000 in
theorem rbelow_fc (a b : List Tk) : FC Tryz.prog 71 [tks a, tks b] (bl (belowN a b)) := by
 refine fc_of_awp [4] Tryz.func71 rfl rfl 22 Tryz.ntmps71 (Nat.le_of_ble_eq_true rfl) ?_
 intro E hN
 refine zG ?_; refine zS ?_; refine zA ?_; refine zM ?_; refine zP (q_call (rvalidC_fc a) rfl rfl rfl) ?_; refine zM ?_
 refine zc 7 ?_ ?_ <;> intro h3
 ·
  refine uM (w11 h3) ?_; refine uP (w11 h3) (q_call (rvalidC_fc b) rfl rfl rfl) ?_; refine zh1 h3 ?_; refine zM ?_
  refine zc 11 ?_ ?_ <;> intro h4
  ·
   refine uM (w11 h4) ?_; refine uM (w11 h4) ?_; refine uP (w11 h4) (q_call (rleqC_fc a b) rfl rfl rfl) ?_; refine zh1 h4 ?_; refine zM ?_
   refine zc 16 ?_ ?_ <;> intro h5
   ·
    refine uM (w11 h5) ?_; refine uM (w11 h5) ?_; refine uP (w11 h5) (q_call (rleqC_fc b a) rfl rfl rfl) ?_; refine uP (w11 h5) (q_not rfl rfl) ?_
    refine zh1 h5 ?_; refine zS ?_; refine zQ ?_
    exact retB (by simp_all [belowN])
   iterate 4 refine uK (w01 h5) ?_
   refine zh0 h5 ?_; refine zS ?_; refine zQ ?_
   exact retB (by simp_all [belowN])
  iterate 3 refine uK (w01 h4) ?_
  refine zh0 h4 ?_; refine zM ?_
  iterate 4 refine zK ?_
  refine zh0 rfl ?_; refine zS ?_; refine zQ ?_
  exact retB (by simp_all [belowN])
 iterate 2 refine uK (w01 h3) ?_
 refine zh0 h3 ?_; refine zM ?_
 iterate 3 refine zK ?_
 refine zh0 rfl ?_; refine zM ?_
 iterate 4 refine zK ?_
 refine zh0 rfl ?_; refine zS ?_; refine zQ ?_
 exact retB (by simp_all [belowN])
end Go.Proofs.YthldgioggjpnpaaGreat

namespace Go.Proofs.YthldgioggjpnpaaGreat
open Go.RowKit
set_option maxRecDepth 100000 in
set_option maxHeartbeats 1000000 in
theorem r9Name_fc (s : Nm) : FC Tryz.prog 40 [sv s] (bl (validB s)) := by
 refine fc_of_awp [2] Tryz.func40 rfl rfl 56 Tryz.ntmps40 (Nat.le_of_ble_eq_true rfl) ?_
 intro E hN
 refine zG ?_; refine zT ?_; refine zH ?_; refine zM ?_; refine zE ?_; refine zB ?_; refine zM ?_
 refine zc 7 ?_ ?_ <;> intro h3
 ·
  have hv := validB_no (s := s) (.inl (by have := of_decide_eq_true h3; omega))
  iterate 3 refine uK (w10 h3) ?_
  refine zh1 h3 ?_; refine zM ?_
  iterate 3 refine zK ?_
  refine zh1 rfl ?_; refine zM ?_
  iterate 3 refine zK ?_
  refine zh1 rfl ?_; refine zN ?_; refine c_true rfl rfl ?_; refine zG ?_; refine zS ?_; refine zQ ?_
  exact retB hv.symm
 obtain ⟨c0, hc0, hh⟩ := head_of (s := s) (by have := of_decide_eq_false h3; omega)
 refine uM (w00 h3) ?_; refine uE (w00 h3) ?_; refine uP (w00 h3) (q_bin rfl rfl rfl) ?_; refine zh0 h3 ?_; refine zM ?_
 refine zc 12 ?_ ?_ <;> intro h5
 ·
  have hv := validB_no (s := s) (.inr (.inl (by have := of_decide_eq_true h5; omega)))
  iterate 3 refine uK (w10 h5) ?_
  refine zh1 h5 ?_; refine zM ?_
  iterate 3 refine zK ?_
  refine zh1 rfl ?_; refine zN ?_; refine c_true rfl rfl ?_; refine zG ?_; refine zS ?_; refine zQ ?_
  exact retB hv.symm
 have h16 : s.length ≤ 16 := by have := of_decide_eq_false h5; omega
 refine uM (w00 h5) ?_; refine uP (w00 h5) (q_byte rfl rfl rfl 0 rfl _ hc0) ?_; refine uP (w00 h5) (q_bin rfl rfl rfl) ?_; refine zh0 h5 ?_
 refine zM ?_
 refine zc 17 ?_ ?_ <;> intro h7
 ·
  have hv := validB_no (s := s) (.inr (.inr (by rw [hh]; have := of_decide_eq_true h7; rw [decide_eq_false (by omega)]; rfl)))
  iterate 3 refine uK (w10 h7) ?_
  refine zh1 h7 ?_; refine zN ?_; refine c_true rfl rfl ?_; refine zG ?_; refine zS ?_; refine zQ ?_
  exact retB hv.symm
 have h97 : 97 ≤ (c0.toNat : Int) := by have := of_decide_eq_false h7; omega
 refine uM (w00 h7) ?_; refine uP (w00 h7) (q_byte rfl rfl rfl 0 rfl _ hc0) ?_; refine uP (w00 h7) (q_bin rfl rfl rfl) ?_; refine zh0 h7 ?_
 refine zN ?_
 refine zq ?_ ?_ <;> intro h9
 ·
  have hv := validB_no (s := s) (.inr (.inr (by rw [hh]; have := of_decide_eq_true h9; rw [decide_eq_false (show ¬ (c0.toNat : Int) ≤ 122 by omega), Bool.and_false])))
  refine zG ?_; refine zS ?_; refine zQ ?_
  exact retB hv.symm
 have hv : validB s = s.all (fun c => wordB c.toNat) := by
  have := of_decide_eq_false h9
  rw [validB, hh, decide_eq_true h16, decide_eq_true h97, decide_eq_true (by omega)]; rfl
 refine zW ?_; refine zH ?_; refine zT ?_; refine awp_block ?_
 refine awp_loop (fun x : {k : Nat // k ≤ (s).length ∧ (s.drop k).all (fun c => wordB c.toNat) = s.all (fun c => wordB c.toNat)} => ⟨[(0, sv s), (3, i64 (x.1 : Nat))], [], 0⟩) (fun x => (s).length - x.1) (⟨0, Nat.zero_le _, by simp⟩) ?_ ?_
 ·
  exact weak_scrub' rfl (zz2 trivial) trivial
 rintro ⟨k, hk, hg⟩
 dsimp only
 refine zH ?_; refine zM ?_; refine zM ?_; refine zE ?_; refine zB ?_; refine zN ?_
 refine zq ?_ ?_ <;> intro h13
 ·
  have hlt : k < (s).length := by simpa using h13
  obtain ⟨x, hx⟩ := get_lt hlt
  refine zW ?_; refine awp_seq ?_; refine awp_block ?_; refine zG ?_; refine zM ?_; refine zM ?_; refine zP (q_byte rfl rfl rfl k rfl _ hx) ?_
  refine zB ?_; refine zM ?_
  refine zc 32 ?_ ?_ <;> intro h15
  ·
   iterate 4 refine uK (w10 h15) ?_
   refine zh1 h15 ?_; refine zM ?_; refine zM ?_; refine zM ?_; refine zP (q_byte rfl rfl rfl k rfl _ hx) ?_; refine zB ?_; refine zM ?_
   refine zc 43 ?_ ?_ <;> intro h17
   ·
    iterate 4 refine uK (w10 h17) ?_
    refine zh1 h17 ?_; refine zh1 rfl ?_; refine zM ?_; refine zM ?_; refine zM ?_; refine zP (q_byte rfl rfl rfl k rfl _ hx) ?_; refine zB ?_
    refine zh1 rfl ?_; refine zN ?_
    refine zq ?_ ?_ <;> intro h19
    ·
     refine zG ?_; refine zS ?_; refine zQ ?_
     exact retB (by rw [hv, all_no hg hx (by first | (simp_all; done) | (simp_all [wordB]; done) | (simp_all [wordB]; omega))])
    refine awp_skip ?_; change AWP _ _ _ _  _; refine awp_region ?_; refine zM ?_; refine zP (q_addi rfl rfl rfl (by omega)) ?_; refine zS ?_
    refine aops_nil ?_
    exact ⟨⟨k + 1, hlt, all_go hg hx (by first | (simp_all; done) | (simp_all [wordB]; done) | (simp_all [wordB]; omega))⟩, weak_scrub' rfl (zz1 ⟨(cgI (by dsimp only; omega)), rfl, trivial⟩) trivial, by dsimp only; omega⟩
   refine uM (w00 h17) ?_; refine uM (w00 h17) ?_; refine uP (w00 h17) (q_byte rfl rfl rfl k rfl _ hx) ?_; refine uP (w00 h17) (q_bin rfl rfl rfl) ?_
   refine zh0 h17 ?_; refine zh1 rfl ?_; refine zM ?_
   refine zc 50 ?_ ?_ <;> intro h22
   ·
    refine uM (w11 h22) ?_; refine uM (w11 h22) ?_; refine uP (w11 h22) (q_byte rfl rfl rfl k rfl _ hx) ?_; refine uP (w11 h22) (q_bin rfl rfl rfl) ?_
    refine zh1 h22 ?_; refine zN ?_
    refine zq ?_ ?_ <;> intro h24
    ·
     refine zG ?_; refine zS ?_; refine zQ ?_
     exact retB (by rw [hv, all_no hg hx (by first | (simp_all; done) | (simp_all [wordB]; done) | (simp_all [wordB]; omega))])
    refine awp_skip ?_; change AWP _ _ _ _  _; refine awp_region ?_; refine zM ?_; refine zP (q_addi rfl rfl rfl (by omega)) ?_; refine zS ?_
    refine aops_nil ?_
    exact ⟨⟨k + 1, hlt, all_go hg hx (by first | (simp_all; done) | (simp_all [wordB]; done) | (simp_all [wordB]; omega))⟩, weak_scrub' rfl (zz1 ⟨(cgI (by dsimp only; omega)), rfl, trivial⟩) trivial, by dsimp only; omega⟩
   iterate 4 refine uK (w01 h22) ?_
   refine zh0 h22 ?_; refine zN ?_; refine c_false rfl rfl ?_; refine awp_skip ?_; change AWP _ _ _ _  _; refine awp_region ?_; refine zM ?_
   refine zP (q_addi rfl rfl rfl (by omega)) ?_; refine zS ?_; refine aops_nil ?_
   exact ⟨⟨k + 1, hlt, all_go hg hx (by first | (simp_all; done) | (simp_all [wordB]; done) | (simp_all [wordB]; omega))⟩, weak_scrub' rfl (zz1 ⟨(cgI (by dsimp only; omega)), rfl, trivial⟩) trivial, by dsimp only; omega⟩
  refine uM (w00 h15) ?_; refine uM (w00 h15) ?_; refine uP (w00 h15) (q_byte rfl rfl rfl k rfl _ hx) ?_; refine uP (w00 h15) (q_bin rfl rfl rfl) ?_
  refine zh0 h15 ?_; refine zM ?_
  refine zc 38 ?_ ?_ <;> intro h28
  ·
   refine uM (w11 h28) ?_; refine uM (w11 h28) ?_; refine uP (w11 h28) (q_byte rfl rfl rfl k rfl _ hx) ?_; refine uP (w11 h28) (q_bin rfl rfl rfl) ?_
   refine uM (w11 h28) ?_
   refine zc 43 ?_ ?_ <;> intro h30
   ·
    iterate 4 refine uK (w10 h30) ?_
    refine uP (w11 h28) (q_pick1 rfl rfl h30 rfl) ?_; refine zh1 h28 ?_; refine zM ?_; refine zM ?_; refine zM ?_
    refine zP (q_byte rfl rfl rfl k rfl _ hx) ?_; refine zB ?_; refine zh1 rfl ?_; refine zN ?_
    refine zq ?_ ?_ <;> intro h32
    ·
     refine zG ?_; refine zS ?_; refine zQ ?_
     exact retB (by rw [hv, all_no hg hx (by first | (simp_all; done) | (simp_all [wordB]; done) | (simp_all [wordB]; omega))])
    refine awp_skip ?_; change AWP _ _ _ _  _; refine awp_region ?_; refine zM ?_; refine zP (q_addi rfl rfl rfl (by omega)) ?_; refine zS ?_
    refine aops_nil ?_
    exact ⟨⟨k + 1, hlt, all_go hg hx (by first | (simp_all; done) | (simp_all [wordB]; done) | (simp_all [wordB]; omega))⟩, weak_scrub' rfl (zz1 ⟨(cgI (by dsimp only; omega)), rfl, trivial⟩) trivial, by dsimp only; omega⟩
   refine uM (w00 h30) ?_; refine uM (w00 h30) ?_; refine uP (w00 h30) (q_byte rfl rfl rfl k rfl _ hx) ?_; refine uP (w00 h30) (q_bin rfl rfl rfl) ?_
   refine uP (w11 h28) (q_pick0 rfl rfl h30 rfl) ?_; refine zh1 h28 ?_; refine zM ?_
   refine zc 50 ?_ ?_ <;> intro h35
   ·
    refine uM (w11 h35) ?_; refine uM (w11 h35) ?_; refine uP (w11 h35) (q_byte rfl rfl rfl k rfl _ hx) ?_; refine uP (w11 h35) (q_bin rfl rfl rfl) ?_
    refine zh1 h35 ?_; refine zN ?_
    refine zq ?_ ?_ <;> intro h37
    ·
     refine zG ?_; refine zS ?_; refine zQ ?_
     exact retB (by rw [hv, all_no hg hx (by first | (simp_all; done) | (simp_all [wordB]; done) | (simp_all [wordB]; omega))])
    refine awp_skip ?_; change AWP _ _ _ _  _; refine awp_region ?_; refine zM ?_; refine zP (q_addi rfl rfl rfl (by omega)) ?_; refine zS ?_
    refine aops_nil ?_
    exact ⟨⟨k + 1, hlt, all_go hg hx (by first | (simp_all; done) | (simp_all [wordB]; done) | (simp_all [wordB]; omega))⟩, weak_scrub' rfl (zz1 ⟨(cgI (by dsimp only; omega)), rfl, trivial⟩) trivial, by dsimp only; omega⟩
   iterate 4 refine uK (w01 h35) ?_
   refine zh0 h35 ?_; refine zN ?_; refine c_false rfl rfl ?_; refine awp_skip ?_; change AWP _ _ _ _  _; refine awp_region ?_; refine zM ?_
   refine zP (q_addi rfl rfl rfl (by omega)) ?_; refine zS ?_; refine aops_nil ?_
   exact ⟨⟨k + 1, hlt, all_go hg hx (by first | (simp_all; done) | (simp_all [wordB]; done) | (simp_all [wordB]; omega))⟩, weak_scrub' rfl (zz1 ⟨(cgI (by dsimp only; omega)), rfl, trivial⟩) trivial, by dsimp only; omega⟩
  iterate 5 refine uK (w01 h28) ?_
  iterate 4 refine zK ?_
  refine uK (w01 h28) ?_; refine zh0 h28 ?_; refine zM ?_
  iterate 4 refine zK ?_
  refine zh0 rfl ?_; refine zN ?_; refine c_false rfl rfl ?_; refine awp_skip ?_; change AWP _ _ _ _  _; refine awp_region ?_; refine zM ?_
  refine zP (q_addi rfl rfl rfl (by omega)) ?_; refine zS ?_; refine aops_nil ?_
  exact ⟨⟨k + 1, hlt, all_go hg hx (by first | (simp_all; done) | (simp_all [wordB]; done) | (simp_all [wordB]; omega))⟩, weak_scrub' rfl (zz1 ⟨(cgI (by dsimp only; omega)), rfl, trivial⟩) trivial, by dsimp only; omega⟩
 have hge : (s).length ≤ k := by simpa using h13
 refine awp_exit ?_; change AWP _ _ _ _  _; refine zG ?_; refine zS ?_; refine zQ ?_
 exact retB (by rw [hv, all_end hg hge])
set_option maxRecDepth 100000 in
set_option maxHeartbeats 1000000 in
theorem r9In_fc (l : List Nm) (s : Nm) : FC Tryz.prog 188 [svs l, sv s] (bl (hasB l s)) := by
 refine fc_of_awp [4] Tryz.func188 rfl rfl 18 Tryz.ntmps188 (Nat.le_of_ble_eq_true rfl) ?_
 intro E hN
 refine a_lm 0 rfl (fun hl0 => ?_)
 refine zG ?_; refine zT ?_; refine zH ?_; refine zT ?_; refine awp_block ?_
 refine awp_loop (fun x : {k : Nat // k ≤ (l).length ∧ (l.drop k).any (s == ·) = l.any (s == ·)} => ⟨[(0, svs l), (1, sv s), (5, i64 (x.1 : Nat))], [], 0⟩) (fun x => (l).length - x.1) (⟨0, Nat.zero_le _, by simp⟩) ?_ ?_
 ·
  exact weak_scrub' rfl (zz3 trivial) trivial
 rintro ⟨k, hk, hg⟩
 dsimp only
 refine zH ?_; refine zM ?_; refine zM ?_; refine zE ?_; refine zB ?_; refine zN ?_
 refine zq ?_ ?_ <;> intro h7
 ·
  have hlt : k < (l).length := by simpa using h7
  obtain ⟨x, hx⟩ := get_lt hlt
  refine zW ?_; refine awp_seq ?_; refine awp_block ?_; refine zG ?_; refine zM ?_; refine zM ?_
  refine zP (q_elem rfl rfl rfl k rfl _ (map_get hx) rfl) ?_; refine zL ?_; refine zM ?_; refine zB ?_; refine zN ?_
  refine zq ?_ ?_ <;> intro h10
  ·
   have hxs : x = s := by simpa using h10
   refine zG ?_; refine zS ?_; refine zQ ?_
   exact retB (any_yes hg hx (by rw [hxs]; simp)).symm
  have hxs : x ≠ s := by simpa using h10
  refine awp_skip ?_; change AWP _ _ _ _  _; refine awp_region ?_; refine zM ?_; refine zP (q_addi rfl rfl rfl (by omega)) ?_; refine zS ?_
  refine aops_nil ?_
  exact ⟨⟨k + 1, hlt, any_go hg hx (beq_eq_false_iff_ne.2 fun e => hxs e.symm)⟩, weak_scrub' rfl (zz2 ⟨(cgI (by dsimp only; omega)), rfl, trivial⟩) trivial, by dsimp only; omega⟩
 have hge : (l).length ≤ k := by simpa using h7
 refine awp_exit ?_; change AWP _ _ _ _  _; refine zG ?_; refine zS ?_; refine zQ ?_
 exact retB (any_end hg hge).symm
theorem rise_step {l : List Nm} {k : Nat} {x y : Nm} (hk : 0 < k) (hg : sortedB (l.drop (k - 1)) = sortedB l) (hy : l[k - 1]? = some y) (hx : l[k]? = some x) : sortedB l = (Op.bytesLess y x && sortedB (l.drop (k + 1 - 1))) := by
 rw [sorted_go hk hg hy hx, Nat.add_sub_cancel]
def riseB (l : List Nm) : Bool := l.all validB && sortedB l
set_option maxRecDepth 100000 in
set_option maxHeartbeats 1000000 in
theorem rise_fc (l : List Nm) : FC Tryz.prog 189 [svs l] (bl (riseB l)) := by
 refine fc_of_awp [2] Tryz.func189 rfl rfl 32 Tryz.ntmps189 (Nat.le_of_ble_eq_true rfl) ?_
 intro E hN
 refine a_lm 0 rfl (fun hl0 => ?_)
 refine zG ?_; refine zT ?_; refine zH ?_; refine zT ?_; refine awp_block ?_
 refine awp_loop (fun x : {k : Nat // k ≤ l.length ∧ (l.drop k).all validB = l.all validB ∧ sortedB (l.drop (k - 1)) = sortedB l} => ⟨[(0, svs l), (3, i64 (x.1 : Nat))], [], 0⟩) (fun x => l.length - x.1) (⟨0, Nat.zero_le _, rfl, rfl⟩) ?_ ?_
 ·
  exact weak_scrub' rfl (zz2 trivial) trivial
 rintro ⟨k, hk, hg, hg2⟩
 dsimp only
 refine zH ?_; refine zM ?_; refine zM ?_; refine zE ?_; refine zB ?_; refine zN ?_
 refine zq ?_ ?_ <;> intro h5
 ·
  have hlt : k < (l).length := by simpa using h5
  obtain ⟨x, hx⟩ := get_lt hlt
  refine zW ?_; refine awp_seq ?_; refine awp_block ?_; refine awp_seq ?_; refine awp_draw 21 (by kernel_rfl) (by kernel_rfl) ?_; refine zm ?_
  refine zm ?_; refine zp (q_elem rfl rfl rfl k rfl _ (map_get hx) rfl) ?_; refine zl ?_; refine zp (q_call (r9Name_fc x) rfl rfl rfl) ?_
  refine zp (q_not rfl rfl) ?_; refine zm ?_
  refine zd 16 ?_ ?_ <;> intro h8
  ·
   have hno : riseB l = false := by rw [riseB, all_no hg hx (n1 h8)]; rfl
   iterate 3 refine vK (w10 (m0 (n1 h8))) ?_
   iterate 10 refine zk ?_
   refine vK (w10 (m0 (n1 h8))) ?_; change AOps _ _ _ _ _ _; refine zh1 (m0 (n1 h8)) ?_; refine zN ?_; refine c_true rfl rfl ?_; refine zG ?_
   refine zS ?_; refine zQ ?_
   exact retB hno.symm
  have hv : validB x = true := n0 h8
  refine vP (w00 (m1 (n0 h8))) (q_move rfl rfl) ?_; refine vP (w00 (m1 (n0 h8))) (q_bin rfl rfl rfl) ?_
  refine vP (w00 (m1 (n0 h8))) (q_move rfl rfl) ?_
  refine zd 19 ?_ ?_ <;> intro h9
  ·
   have hk0 : 0 < k := by have := of_decide_eq_true h9; omega
   obtain ⟨y, hy⟩ := get_lt (show k - 1 < l.length by omega)
   have hrs := rise_step hk0 hg2 hy hx
   refine vP (w11 h9) (q_move rfl rfl) ?_; refine vP (w11 h9) (q_move rfl rfl) ?_; refine vP (w11 h9) (q_subi rfl rfl rfl (by omega)) ?_
   refine vP (w11 h9) (q_elem rfl rfl rfl (k - 1) (by omega) _ (map_get hy) rfl) ?_; refine vP (w11 h9) (q_load rfl rfl rfl rfl rfl) ?_
   refine vP (w11 h9) (q_move rfl rfl) ?_; refine vP (w11 h9) (q_move rfl rfl) ?_; refine vP (w11 h9) (q_elem rfl rfl rfl k rfl _ (map_get hx) rfl) ?_
   refine vP (w11 h9) (q_load rfl rfl rfl rfl rfl) ?_; refine vP (w11 h9) (q_bin rfl rfl rfl) ?_
   refine vP (w00 (m1 (n0 h8))) (q_pick1 rfl rfl h9 rfl) ?_; change AOps _ _ _ _ _ _; refine zh0 (m1 (n0 h8)) ?_; refine zN ?_
   refine zq ?_ ?_ <;> intro h15
   ·
    have hno : riseB l = false := by rw [riseB, hrs]; simp_all
    refine zG ?_; refine zS ?_; refine zQ ?_
    exact retB hno.symm
   have hnx : sortedB (l.drop (k + 1 - 1)) = sortedB l := by rw [hrs]; simp_all
   refine awp_skip ?_; change AWP _ _ _ _  _; refine awp_region ?_; refine zM ?_; refine zP (q_addi rfl rfl rfl (by omega)) ?_; refine zS ?_
   refine aops_nil ?_
   exact ⟨⟨k + 1, hlt, all_go hg hx hv, hnx⟩, weak_scrub' rfl (zz1 ⟨(cgI (by dsimp only; omega)), rfl, trivial⟩) trivial, by dsimp only; omega⟩
  have hk0 : k = 0 := by have := of_decide_eq_false h9; omega
  have hnx : sortedB (l.drop (k + 1 - 1)) = sortedB l := by rw [hk0]; rfl
  iterate 10 refine vK (w01 h9) ?_
  refine vP (w00 (m1 (n0 h8))) (q_pick0 rfl rfl h9 rfl) ?_; change AOps _ _ _ _ _ _; refine zh0 (m1 (n0 h8)) ?_; refine zN ?_
  refine c_false rfl rfl ?_; refine awp_skip ?_; change AWP _ _ _ _  _; refine awp_region ?_; refine zM ?_
  refine zP (q_addi rfl rfl rfl (by omega)) ?_; refine zS ?_; refine aops_nil ?_
  exact ⟨⟨k + 1, hlt, all_go hg hx hv, hnx⟩, weak_scrub' rfl (zz1 ⟨(cgI (by dsimp only; omega)), rfl, trivial⟩) trivial, by dsimp only; omega⟩
 have hge : (l).length ≤ k := by simpa using h5
 refine awp_exit ?_; change AWP _ _ _ _  _; refine zG ?_; refine zS ?_; refine zQ ?_
 exact retB (by rw [riseB, all_end hg hge, sorted_end hg2 hge]; rfl)
set_option maxRecDepth 100000 in
set_option maxHeartbeats 1000000 in
theorem r9Chain_s (l : Lat) (ih : ∀ q ∈ l.ps, FC Tryz.prog 172 [.agg (latL q)] (bl (chainB q))) : FC Tryz.prog 172 [.agg (latL l)] (bl (chainB l)) := by
 refine fc_of_awp [2] Tryz.func172 rfl rfl 29 Tryz.ntmps172 (Nat.le_of_ble_eq_true rfl) ?_
 intro E hN
 refine zG ?_; refine zX ?_; refine zT ?_; refine zH ?_; refine zF ?_; refine zL ?_; refine zN ?_; refine awp_block ?_
 refine c_cut (⟨[(1, .ptr 0 0), (4, i64 l.k), (5, bl (l.k == 1 || l.k == 2 || l.k == 3))], [(0, .var 46 (latL l))], 1⟩) ?_ ?_
 ·
  refine zG ?_; refine zB ?_; refine zT ?_
  refine zq ?_ ?_ <;> intro h5
  ·
   refine awp_skip ?_
   exact weak_scrub' rfl (zz2 ⟨(cgB (by simp_all)), rfl, trivial⟩) ⟨rfl, rfl, rfl, trivial⟩
  refine zG ?_; refine zB ?_; refine zT ?_
  refine zq ?_ ?_ <;> intro h6
  ·
   refine awp_skip ?_
   exact weak_scrub' rfl (zz2 ⟨(cgB (by simp_all)), rfl, trivial⟩) ⟨rfl, rfl, rfl, trivial⟩
  refine awp_region ?_; refine zB ?_; refine zS ?_; refine aops_nil ?_
  exact weak_scrub' rfl (zz2 ⟨(cgB (by simp_all)), rfl, trivial⟩) ⟨rfl, rfl, rfl, trivial⟩
 refine zq ?_ ?_ <;> intro h10
 ·
  have h123 := h10
  refine zG ?_; refine zS ?_; refine zQ ?_
  exact retB (chainB_1 h123).symm
 have h123 : (l.k == 1 || l.k == 2 || l.k == 3) = false := h10
 refine zG ?_; refine zB ?_; refine zT ?_
 refine zq ?_ ?_ <;> intro h11
 ·
  have h7 := h11
  refine zG ?_; refine zF ?_; refine zL ?_; refine zE ?_; refine zB ?_; refine zM ?_
  refine zc 15 ?_ ?_ <;> intro h15
  ·
   obtain ⟨a, b, hps⟩ : ∃ a b, l.ps = [a, b] := by
    have h2 : l.ps.length = 2 := by have e := h15; simp at e; omega
    match l.ps, h2 with
    | [a, b], _ => exact ⟨a, b, rfl⟩
   have ha : l.ps[0]? = some a := by rw [hps]; rfl
   have hb : l.ps[1]? = some b := by rw [hps]; rfl
   have h72 := chainB_7 h7 hps
   refine uF (w11 h15) ?_; refine uL (w11 h15) ?_; refine uP (w11 h15) (q_elem rfl rfl rfl 0 rfl _ (lat_get ha) rfl) ?_; refine uL (w11 h15) ?_
   refine uP (w11 h15) (q_call (ih a (List.mem_of_getElem? ha)) rfl rfl rfl) ?_; refine zh1 h15 ?_; refine zM ?_
   refine zc 22 ?_ ?_ <;> intro h20
   ·
    refine uF (w11 h20) ?_; refine uL (w11 h20) ?_; refine uP (w11 h20) (q_elem rfl rfl rfl 1 rfl _ (lat_get hb) rfl) ?_; refine uL (w11 h20) ?_
    refine uP (w11 h20) (q_call (ih b (List.mem_of_getElem? hb)) rfl rfl rfl) ?_; refine zh1 h20 ?_; refine zS ?_; refine zQ ?_
    exact retB (by first | exact h72.symm | (rw [h72]; simp_all))
   iterate 5 refine uK (w01 h20) ?_
   refine zh0 h20 ?_; refine zS ?_; refine zQ ?_
   exact retB (by first | exact h72.symm | (rw [h72]; simp_all))
  have h72 : chainB l = false := by
   have e := h15
   simp only [Bool.or_eq_false_iff] at h123
   exact chainB_no h123.1.1 h123.1.2 h123.2 (.inr (by intro e2; simp [e2] at e))
  iterate 5 refine uK (w01 h15) ?_
  refine zh0 h15 ?_; refine zM ?_
  iterate 5 refine zK ?_
  refine zh0 rfl ?_; refine zS ?_; refine zQ ?_
  exact retB (by first | exact h72.symm | (rw [h72]; simp_all))
 have h7 := h11
 refine awp_skip ?_; change AWP _ _ _ _  _; refine zG ?_; refine zS ?_; refine zQ ?_
 exact retB (by
  simp only [Bool.or_eq_false_iff] at h123
  exact (chainB_no h123.1.1 h123.1.2 h123.2 (.inl h7)).symm)
theorem r9Chain_fc (l : Lat) : FC Tryz.prog 172 [.agg (latL l)] (bl (chainB l)) := r9Chain_s l (fun q hq => r9Chain_fc q)
termination_by l
decreasing_by exact Lat.sizeOf_ps ‹_›
end Go.Proofs.YthldgioggjpnpaaGreat
