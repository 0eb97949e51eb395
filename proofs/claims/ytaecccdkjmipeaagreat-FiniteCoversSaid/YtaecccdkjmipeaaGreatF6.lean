/-
  Contracts: ref14.Is, Bottom, Check, Lattice (seat r5).
  Contracts: finite.numbers, products, all: the elements of finite descriptions (seat r5).
-/
import Derived.Test.YtaecccdkjmipeaaGreatF5
import Derived.Test.YtaecccdkjmipeaaGreatA10
import Derived.Test.YtaecccdkjmipeaaGreatA6
import Derived.Test.YtaecccdkjmipeaaGreatB18
namespace Go.Proofs.YtaecccdkjmipeaaGreat
open Go.RowKit
def okc (n : Int) (x : Int) : Bool := !(decide (x < 0) || decide (x ≥ n))
theorem rowOk_eq (n : Int) (r : List Int) : rowOk n r = (decide ((r.length : Int) = n) && r.all (okc n)) := rfl
set_option maxRecDepth 100000 in
set_option maxHeartbeats 1000000 in
theorem rIs_fc (T : List (List Int)) : FC Tryz.prog 29 [tabs T] (bl (isT T)) := by
 refine fc_of_awp [2] Tryz.func29 rfl rfl 53 Tryz.ntmps29 (Nat.le_of_ble_eq_true rfl) ?_
 intro E hN
 refine a_lm 0 rfl (fun hl0 => ?_)
 refine zG ?_; refine zT ?_; refine zH ?_; refine zM ?_; refine zE ?_; refine zB ?_; refine zM ?_
 refine zc 8 ?_ ?_ <;> intro h3
 ·
  iterate 3 refine uK (w10 h3) ?_
  refine zh1 h3 ?_; refine zN ?_; refine c_true rfl rfl ?_; refine zG ?_; refine zS ?_; refine zQ ?_
  all_goals exact retB (by rw [isT_eq]; simp_all)
 refine uM (w00 h3) ?_; refine uE (w00 h3) ?_; refine uP (w00 h3) (q_bin rfl rfl rfl) ?_; refine zh0 h3 ?_; refine zN ?_
 refine zq ?_ ?_ <;> intro h5
 ·
  have h2 := h5
  refine zG ?_; refine zS ?_; refine zQ ?_
  all_goals exact retB (by rw [isT_eq]; simp_all)
 have h2 := h5
 refine zW ?_; refine zH ?_; refine zT ?_; refine awp_block ?_
 refine awp_loop (fun x : {k : Nat // k ≤ (T).length ∧ (T.drop k).all (rowOk T.length) = T.all (rowOk T.length)} => ⟨[(0, tabs T), (3, i64 (x.1 : Nat))], [], 0⟩) (fun x => (T).length - x.1) (⟨0, Nat.zero_le _, by simp⟩) ?_ ?_
 ·
  exact weak_scrub' rfl (zz2 trivial) trivial
 rintro ⟨k, hk, hg⟩
 dsimp only
 refine zH ?_; refine zM ?_; refine zM ?_; refine zE ?_; refine zB ?_; refine zN ?_
 refine zq ?_ ?_ <;> intro h9
 ·
  have hlt : k < (T).length := by simpa using h9
  obtain ⟨x, hx⟩ := get_lt hlt
  refine zW ?_; refine awp_seq ?_; refine awp_block ?_; refine zH ?_; refine zM ?_; refine zM ?_
  refine zP (q_elem rfl rfl rfl k rfl _ (map_get hx) rfl) ?_; refine zL ?_; refine zE ?_; refine zM ?_; refine zE ?_; refine zB ?_; refine zN ?_
  refine zq ?_ ?_ <;> intro h14
  ·
   have h6 : ¬ x.length = T.length := by have := h14; simp at this; omega
   refine zG ?_; refine zS ?_; refine zQ ?_
   all_goals exact retB (by rw [isT_eq, all_no hg hx (by rw [rowOk_eq]; simp; omega), Bool.and_false])
  have h6 : x.length = T.length := by have := h14; simp at this; omega
  refine zW ?_; refine zG ?_; refine zT ?_; refine awp_block ?_
  refine awp_loop (fun x : {j : Nat // j ≤ T.length ∧ (x.drop j).all (okc T.length) = x.all (okc T.length)} => ⟨[(0, tabs T), (3, i64 (k : Nat)), (4, i64 (x.1 : Nat))], [], 0⟩) (fun x => T.length - x.1) (⟨0, Nat.zero_le _, by rfl⟩) ?_ ?_
  ·
   exact weak_scrub' rfl (zz3 trivial) trivial
  rintro ⟨j, hj, gj⟩
  dsimp only
  refine zH ?_; refine zM ?_; refine zM ?_; refine zE ?_; refine zB ?_; refine zN ?_
  refine zq ?_ ?_ <;> intro h19
  ·
   have ltj : j < T.length := by simpa using h19
   obtain ⟨y, hy⟩ := get_lt (show j < x.length by omega)
   refine zW ?_; refine awp_seq ?_; refine awp_block ?_; refine zG ?_; refine zM ?_; refine zM ?_
   refine zP (q_elem rfl rfl rfl k rfl _ (map_get hx) rfl) ?_; refine zL ?_; refine zM ?_; refine zP (q_elem rfl rfl rfl j rfl _ (map_get hy) rfl) ?_
   refine zL ?_; refine zB ?_; refine zM ?_
   refine zc 41 ?_ ?_ <;> intro h24
   ·
    iterate 10 refine uK (w10 h24) ?_
    refine zh1 h24 ?_; refine zN ?_; refine c_true rfl rfl ?_; refine zG ?_; refine zS ?_; refine zQ ?_
    all_goals exact retB (by rw [isT_eq, all_no hg hx (by rw [rowOk_eq, all_no gj hy (by unfold okc; simp_all), Bool.and_false]), Bool.and_false])
   refine uM (w00 h24) ?_; refine uM (w00 h24) ?_; refine uP (w00 h24) (q_elem rfl rfl rfl k rfl _ (map_get hx) rfl) ?_; refine uL (w00 h24) ?_
   refine uM (w00 h24) ?_; refine uP (w00 h24) (q_elem rfl rfl rfl j rfl _ (map_get hy) rfl) ?_; refine uL (w00 h24) ?_; refine uM (w00 h24) ?_
   refine uE (w00 h24) ?_; refine uP (w00 h24) (q_bin rfl rfl rfl) ?_; refine zh0 h24 ?_; refine zN ?_
   refine zq ?_ ?_ <;> intro h30
   ·
    refine zG ?_; refine zS ?_; refine zQ ?_
    all_goals exact retB (by rw [isT_eq, all_no hg hx (by rw [rowOk_eq, all_no gj hy (by unfold okc; simp_all), Bool.and_false]), Bool.and_false])
   refine awp_skip ?_; change AWP _ _ _ _  _; refine awp_region ?_; refine zM ?_; refine zP (q_addi rfl rfl rfl (by omega)) ?_; refine zS ?_
   refine aops_nil ?_
   exact ⟨⟨j + 1, ltj, all_go gj hy (by unfold okc; simp_all)⟩, weak_scrub' rfl (zz2 ⟨(cgI (by dsimp only; omega)), rfl, trivial⟩) trivial, by dsimp only; omega⟩
  have gej : T.length ≤ j := by simpa using h19
  refine awp_exit ?_; change AWP _ _ _ _  _; refine awp_region ?_; refine zM ?_; refine zP (q_addi rfl rfl rfl (by omega)) ?_; refine zS ?_
  refine aops_nil ?_
  exact ⟨⟨k + 1, hlt, all_go hg hx (by rw [rowOk_eq, Bool.and_eq_true]; exact ⟨decide_eq_true (by omega), all_end gj (by omega)⟩)⟩, weak_scrub' rfl (zz1 ⟨(cgI (by dsimp only; omega)), rfl, trivial⟩) trivial, by dsimp only; omega⟩
 have hge : (T).length ≤ k := by simpa using h9
 refine awp_exit ?_; change AWP _ _ _ _  _; refine zG ?_; refine zS ?_; refine zQ ?_
 all_goals exact retB (by rw [isT_eq, all_end hg hge]; simp_all)
/-- what the reference's Bottom returns -/
def rBot (n : Nat) (f : Nat → Nat → Nat) : Int := match bot n f with | some b => b | none => -1
theorem rBot_neg (n : Nat) (f : Nat → Nat → Nat) : decide (rBot n f < 0) = (bot n f).isNone := by
 unfold rBot
 cases bot n f with
 | none => rfl
 | some b => simp
set_option maxRecDepth 100000 in
set_option maxHeartbeats 1000000 in
theorem rBot_fc (n : Nat) (f : Nat → Nat → Nat) (ht : TabOf (tab n f) n f) : FC Tryz.prog 34 [tabs (tab n f)] (i64 (rBot n f)) := by
 refine fc_of_awp [2] Tryz.func34 rfl rfl 43 Tryz.ntmps34 (Nat.le_of_ble_eq_true rfl) ?_
 intro E hN
 have h256 := ht.le
 have hlt := ht.lt
 have h1n := ht.pos
 refine zG ?_; refine zT ?_; refine zH ?_; refine zT ?_; refine awp_block ?_
 refine awp_loop (fun x : {b : Nat // b ≤ n ∧ ff (fun b => if neu f b n then some b else none) n b = bot n f} => ⟨[(0, tabs (tab n f)), (3, i64 (x.1 : Nat))], [], 0⟩) (fun x => n - x.1) (⟨0, Nat.zero_le _, by rfl⟩) ?_ ?_
 ·
  exact weak_scrub' rfl (zz2 trivial) trivial
 rintro ⟨b, hb, gb⟩
 dsimp only
 refine zH ?_; refine zM ?_; refine zM ?_; refine zE ?_; refine zB ?_; refine zN ?_
 refine zq ?_ ?_ <;> intro h5
 ·
  have ltb : b < n := by simpa [tab] using h5
  refine zW ?_; refine awp_seq ?_; refine awp_block ?_; refine zG ?_; refine zT ?_; refine zH ?_; refine zT ?_; refine awp_block ?_
  refine awp_loop (fun x : {i : Nat // i ≤ n ∧ True} => ⟨[(0, tabs (tab n f)), (3, i64 (b : Nat)), (4, bl (neu f b x.1)), (5, i64 (x.1 : Nat))], [], 0⟩) (fun x => n - x.1) (⟨0, Nat.zero_le _, by trivial⟩) ?_ ?_
  ·
   exact weak_scrub' rfl (zz4 trivial) trivial
  rintro ⟨i, hi, gi⟩
  dsimp only
  refine zH ?_; refine zM ?_; refine zM ?_; refine zE ?_; refine zB ?_; refine zN ?_
  refine zq ?_ ?_ <;> intro h11
  ·
   have lti : i < n := by simpa [tab] using h11
   refine zW ?_; refine awp_seq ?_; refine awp_block ?_; refine awp_region ?_; refine zM ?_; refine zM ?_
   refine zc 19 ?_ ?_ <;> intro h8
   ·
    refine uM (w11 h8) ?_; refine uM (w11 h8) ?_; refine uP (w11 h8) (q_elem rfl rfl rfl b rfl _ (tab_get ltb) rfl) ?_; refine uL (w11 h8) ?_
    refine uM (w11 h8) ?_; refine uP (w11 h8) (q_elem rfl rfl rfl i rfl _ (rowL_get lti) rfl) ?_; refine uL (w11 h8) ?_; refine uM (w11 h8) ?_
    refine uP (w11 h8) (q_bin rfl rfl rfl) ?_; refine zh1 h8 ?_; refine zM ?_
    refine zc 30 ?_ ?_ <;> intro h16
    ·
     refine uM (w11 h16) ?_; refine uM (w11 h16) ?_; refine uP (w11 h16) (q_elem rfl rfl rfl i rfl _ (tab_get lti) rfl) ?_; refine uL (w11 h16) ?_
     refine uM (w11 h16) ?_; refine uP (w11 h16) (q_elem rfl rfl rfl b rfl _ (rowL_get ltb) rfl) ?_; refine uL (w11 h16) ?_; refine uM (w11 h16) ?_
     refine uP (w11 h16) (q_bin rfl rfl rfl) ?_; refine zh1 h16 ?_; refine zS ?_; refine aops_nil ?_; change AWP _ _ _ _  _; refine awp_region ?_
     refine zM ?_; refine zP (q_addi rfl rfl rfl (by omega)) ?_; refine zS ?_; refine aops_nil ?_
     exact ⟨⟨i + 1, lti, trivial⟩, weak_scrub' rfl (zz2 ⟨(cgB (by rw [neu_succ]; simp_all [beqN])), rfl, (cgI (by dsimp only; omega)), rfl, trivial⟩) trivial, by dsimp only; omega⟩
    iterate 9 refine uK (w01 h16) ?_
    refine zh0 h16 ?_; refine zS ?_; refine aops_nil ?_; change AWP _ _ _ _  _; refine awp_region ?_; refine zM ?_
    refine zP (q_addi rfl rfl rfl (by omega)) ?_; refine zS ?_; refine aops_nil ?_
    exact ⟨⟨i + 1, lti, trivial⟩, weak_scrub' rfl (zz2 ⟨(cgB (by rw [neu_succ]; simp_all [beqN])), rfl, (cgI (by dsimp only; omega)), rfl, trivial⟩) trivial, by dsimp only; omega⟩
   iterate 9 refine uK (w01 h8) ?_
   refine zh0 h8 ?_; refine zM ?_
   iterate 9 refine zK ?_
   refine zh0 rfl ?_; refine zS ?_; refine aops_nil ?_; change AWP _ _ _ _  _; refine awp_region ?_; refine zM ?_
   refine zP (q_addi rfl rfl rfl (by omega)) ?_; refine zS ?_; refine aops_nil ?_
   exact ⟨⟨i + 1, lti, trivial⟩, weak_scrub' rfl (zz2 ⟨(cgB (by rw [neu_succ]; simp_all [beqN])), rfl, (cgI (by dsimp only; omega)), rfl, trivial⟩) trivial, by dsimp only; omega⟩
  have gei : n ≤ i := by simpa [tab] using h11
  obtain rfl : n = i := by omega
  refine awp_exit ?_; change AWP _ _ _ _  _; refine zG ?_; refine zV ?_
  refine zq ?_ ?_ <;> intro h8
  ·
   have h10 := h8
   refine zG ?_; refine zM ?_; refine zS ?_; refine zQ ?_
   have e : bot n f = some b := by rw [← gb, ff_lt ltb, if_pos h10]; rfl
   rw [rBot, e]
  have h10 := h8
  refine awp_skip ?_; change AWP _ _ _ _  _; refine awp_region ?_; refine zM ?_; refine zP (q_addi rfl rfl rfl (by omega)) ?_; refine zS ?_
  refine aops_nil ?_
  exact ⟨⟨b + 1, ltb, by rw [← gb, ff_lt ltb, if_neg (by simp_all)]; rfl⟩, weak_scrub' rfl (zz1 ⟨(cgI (by dsimp only; omega)), rfl, trivial⟩) trivial, by dsimp only; omega⟩
 have geb : n ≤ b := by simpa [tab] using h5
 refine awp_exit ?_; change AWP _ _ _ _  _; refine zG ?_; refine zS ?_; refine zQ ?_
 have e : bot n f = none := by rw [← gb, ff_ge geb]
 rw [rBot, e]
set_option maxRecDepth 100000 in
set_option maxHeartbeats 1000000 in
theorem rCheckN_fc (T : List (List Int)) (hT : isT T = false) : FC Tryz.prog 28 [tabs T] (.tup [.agg [i64 0, i64 0, i64 0, i64 0], i64 1]) := by
 refine fc_of_awpR [.c 2 53 4 true, .t 3] ⟨⟨inferInstance, rfl⟩, trivial⟩ Tryz.func28 rfl rfl 117 Tryz.ntmps28 (Nat.le_of_ble_eq_true rfl) ?_
 intro E hN
 refine zG ?_; refine zO ?_; refine zT ?_; refine zH ?_; refine zM ?_; refine zP (q_call (fcb (c := false) (rIs_fc T) hT) rfl rfl rfl) ?_
 refine zP (q_not rfl rfl) ?_; refine zN ?_; refine c_true rfl rfl ?_; refine zG ?_; refine zP (q_build0 rfl) ?_; refine zC ?_; refine zT ?_
 refine awp_ret ?_
 change (resY _ _).bind AV.fzt = some _
 refine ret_r rfl ?_
 rfl
set_option maxRecDepth 100000 in
set_option maxHeartbeats 1000000 in
theorem rCheckY_fc (n : Nat) (f : Nat → Nat → Nat) (ht : TabOf (tab n f) n f) : FC Tryz.prog 28 [tabs (tab n f)] (.tup [.agg (nat4 (vio n f)), i64 0]) := by
 refine fc_of_awpR [.c 2 53 4 true, .t 3] ⟨⟨inferInstance, rfl⟩, trivial⟩ Tryz.func28 rfl rfl 117 Tryz.ntmps28 (Nat.le_of_ble_eq_true rfl) ?_
 intro E hN
 have h256 := ht.le
 have hlt := ht.lt
 have h1n := ht.pos
 refine zG ?_; refine zO ?_; refine zT ?_; refine zH ?_; refine zM ?_; refine zP (q_call (fcb (c := true) (rIs_fc (tab n f)) ht.is) rfl rfl rfl) ?_
 refine zP (q_not rfl rfl) ?_; refine zN ?_; refine c_false rfl rfl ?_; refine zW ?_; refine zH ?_; refine zT ?_; refine awp_block ?_
 refine awp_loop (fun x : {a : Nat // a ≤ n ∧ ff (fun a => if f a a = a then none else some (1, a, 0, 0)) n a = vio1 n f} => ⟨[(2, .ptr 0 0), (0, tabs (tab n f)), (4, i64 (x.1 : Nat))], [(0, .var 53 [i64 0, i64 0, i64 0, i64 0])], 1⟩) (fun x => n - x.1) (⟨0, Nat.zero_le _, by rfl⟩) ?_ ?_
 ·
  exact weak_scrub' rfl (zz3 trivial) ⟨rfl, rfl, rfl, trivial⟩
 rintro ⟨a, ha, ga⟩
 dsimp only
 refine zH ?_; refine zM ?_; refine zM ?_; refine zE ?_; refine zB ?_; refine zN ?_
 refine zq ?_ ?_ <;> intro h7
 ·
  have lta : a < n := by simpa [tab] using h7
  refine zW ?_; refine awp_seq ?_; refine awp_block ?_; refine zG ?_; refine zM ?_; refine zM ?_
  refine zP (q_elem rfl rfl rfl a rfl _ (tab_get lta) rfl) ?_; refine zL ?_; refine zM ?_; refine zP (q_elem rfl rfl rfl a rfl _ (rowL_get lta) rfl) ?_
  refine zL ?_; refine zM ?_; refine zB ?_; refine zN ?_
  refine zq ?_ ?_ <;> intro h12
  ·
   have h4 : f a a ≠ a := by simpa [bneN] using h12
   refine zG ?_; refine zM ?_; refine zP (q_buildA rfl rfl rfl) ?_; refine zC ?_; refine zT ?_; refine awp_ret ?_
   change (resY _ _).bind AV.fzt = some _
   refine ret_r rfl ?_
   rw [vio_1 (ff_at lta ga (if_neg h4))]; rfl
  have h4 : f a a = a := by simpa [bneN] using h12
  refine awp_skip ?_; change AWP _ _ _ _  _; refine awp_region ?_; refine zM ?_; refine zP (q_addi rfl rfl rfl (by omega)) ?_; refine zS ?_
  refine aops_nil ?_
  exact ⟨⟨a + 1, lta, ff_go lta ga (if_pos h4)⟩, weak_scrub' rfl (zz2 ⟨(cgI (by dsimp only; omega)), rfl, trivial⟩) ⟨rfl, rfl, rfl, trivial⟩, by dsimp only; omega⟩
 have gea : n ≤ a := by simpa [tab] using h7
 have e1 := ff_no gea ga
 refine awp_exit ?_; change AWP _ _ _ _  _; refine zH ?_; refine zT ?_; refine awp_block ?_
 refine awp_loop (fun x : {a : Nat // a ≤ n ∧ ff (fun a => ff (vio2a f a) n (a + 1)) n a = vio2 n f} => ⟨[(2, .ptr 0 0), (0, tabs (tab n f)), (5, i64 (x.1 : Nat))], [(0, .var 53 [i64 0, i64 0, i64 0, i64 0])], 1⟩) (fun x => n - x.1) (⟨0, Nat.zero_le _, by rfl⟩) ?_ ?_
 ·
  exact weak_scrub' rfl (zz3 trivial) ⟨rfl, rfl, rfl, trivial⟩
 rintro ⟨a, ha, ga⟩
 dsimp only
 refine zH ?_; refine zM ?_; refine zM ?_; refine zE ?_; refine zB ?_; refine zN ?_
 refine zq ?_ ?_ <;> intro h20
 ·
  have lta : a < n := by simpa [tab] using h20
  refine zW ?_; refine awp_seq ?_; refine awp_block ?_; refine zG ?_; refine zM ?_; refine zP (q_addi rfl rfl rfl (by omega)) ?_; refine zT ?_
  refine awp_block ?_
  refine awp_loop (fun x : {b : Nat // a + 1 ≤ b ∧ b ≤ n ∧ (ff (vio2a f a) n b).or (ff (fun a => ff (vio2a f a) n (a + 1)) n (a + 1)) = vio2 n f} => ⟨[(2, .ptr 0 0), (0, tabs (tab n f)), (5, i64 (a : Nat)), (6, i64 (x.1 : Nat))], [(0, .var 53 [i64 0, i64 0, i64 0, i64 0])], 1⟩) (fun x => n - x.1) (⟨a + 1, Nat.le_refl _, by omega, fo_in lta ga rfl⟩) ?_ ?_
  ·
   exact weak_scrub' rfl (zz3 ⟨(cgI (by dsimp only; omega)), rfl, trivial⟩) ⟨rfl, rfl, rfl, trivial⟩
  rintro ⟨b, hab, hb, gb⟩
  dsimp only
  refine zH ?_; refine zM ?_; refine zM ?_; refine zE ?_; refine zB ?_; refine zN ?_
  refine zq ?_ ?_ <;> intro h27
  ·
   have ltb : b < n := by simpa [tab] using h27
   refine zW ?_; refine awp_seq ?_; refine awp_block ?_; refine awp_seq ?_; refine awp_draw 14 (by kernel_rfl) (by kernel_rfl) ?_; refine zm ?_
   refine zm ?_; refine zp (q_elem rfl rfl rfl a rfl _ (tab_get lta) rfl) ?_; refine zl ?_; refine zm ?_
   refine zp (q_elem rfl rfl rfl b rfl _ (rowL_get ltb) rfl) ?_; refine zl ?_; refine zm ?_; refine zm ?_
   refine zp (q_elem rfl rfl rfl b rfl _ (tab_get ltb) rfl) ?_; refine zl ?_; refine zm ?_
   refine zp (q_elem rfl rfl rfl a rfl _ (rowL_get lta) rfl) ?_; refine zl ?_; change AOps _ _ _ _ _ _; refine zB ?_; refine zN ?_
   refine zq ?_ ?_ <;> intro h36
   ·
    have h13 : ¬ f a b = f b a := by simpa [bneN] using h36
    refine zG ?_; refine zM ?_; refine zM ?_; refine zP (q_buildA rfl rfl rfl) ?_; refine zC ?_; refine zT ?_; refine awp_ret ?_
    change (resY _ _).bind AV.fzt = some _
    refine ret_r rfl ?_
    rw [vio_2 e1 (fo_at ltb gb (by rw [vio2a, if_neg h13]))]; rfl
   have h13 : f a b = f b a := by simpa [bneN] using h36
   refine awp_skip ?_; change AWP _ _ _ _  _; refine awp_region ?_; refine zM ?_; refine zP (q_addi rfl rfl rfl (by omega)) ?_; refine zS ?_
   refine aops_nil ?_
   exact ⟨⟨b + 1, by omega, ltb, fo_go ltb gb (by rw [vio2a, if_pos h13])⟩, weak_scrub' rfl (zz3 ⟨(cgI (by dsimp only; omega)), rfl, trivial⟩) ⟨rfl, rfl, rfl, trivial⟩, by dsimp only; omega⟩
  have geb : n ≤ b := by simpa [tab] using h27
  refine awp_exit ?_; change AWP _ _ _ _  _; refine awp_region ?_; refine zM ?_; refine zP (q_addi rfl rfl rfl (by omega)) ?_; refine zS ?_
  refine aops_nil ?_
  exact ⟨⟨a + 1, lta, (fo_end geb gb)⟩, weak_scrub' rfl (zz2 ⟨(cgI (by dsimp only; omega)), rfl, trivial⟩) ⟨rfl, rfl, rfl, trivial⟩, by dsimp only; omega⟩
 have gea : n ≤ a := by simpa [tab] using h20
 have e2 := ff_no gea ga
 refine awp_exit ?_; change AWP _ _ _ _  _; refine zH ?_; refine zT ?_; refine awp_block ?_
 refine awp_loop (fun x : {a : Nat // a ≤ n ∧ ff (fun a => ff (fun b => ff (vio3a f a b) n 0) n 0) n a = vio3 n f} => ⟨[(2, .ptr 0 0), (0, tabs (tab n f)), (7, i64 (x.1 : Nat))], [(0, .var 53 [i64 0, i64 0, i64 0, i64 0])], 1⟩) (fun x => n - x.1) (⟨0, Nat.zero_le _, by rfl⟩) ?_ ?_
 ·
  exact weak_scrub' rfl (zz3 trivial) ⟨rfl, rfl, rfl, trivial⟩
 rintro ⟨a, ha, ga⟩
 dsimp only
 refine zH ?_; refine zM ?_; refine zM ?_; refine zE ?_; refine zB ?_; refine zN ?_
 refine zq ?_ ?_ <;> intro h45
 ·
  have lta : a < n := by simpa [tab] using h45
  refine zW ?_; refine awp_seq ?_; refine awp_block ?_; refine zG ?_; refine zT ?_; refine awp_block ?_
  refine awp_loop (fun x : {b : Nat // b ≤ n ∧ (ff (fun b => ff (vio3a f a b) n 0) n b).or (ff (fun a => ff (fun b => ff (vio3a f a b) n 0) n 0) n (a + 1)) = vio3 n f} => ⟨[(2, .ptr 0 0), (0, tabs (tab n f)), (7, i64 (a : Nat)), (8, i64 (x.1 : Nat))], [(0, .var 53 [i64 0, i64 0, i64 0, i64 0])], 1⟩) (fun x => n - x.1) (⟨0, Nat.zero_le _, by exact fo_in lta ga rfl⟩) ?_ ?_
  ·
   exact weak_scrub' rfl (zz4 trivial) ⟨rfl, rfl, rfl, trivial⟩
  rintro ⟨b, hb, gb⟩
  dsimp only
  refine zH ?_; refine zM ?_; refine zM ?_; refine zE ?_; refine zB ?_; refine zN ?_
  refine zq ?_ ?_ <;> intro h51
  ·
   have ltb : b < n := by simpa [tab] using h51
   refine zW ?_; refine awp_seq ?_; refine awp_block ?_; refine zG ?_; refine zT ?_; refine awp_block ?_
   refine awp_loop (fun x : {c : Nat // c ≤ n ∧ (ff (vio3a f a b) n c).or ((ff (fun b => ff (vio3a f a b) n 0) n (b + 1)).or (ff (fun a => ff (fun b => ff (vio3a f a b) n 0) n 0) n (a + 1))) = vio3 n f} => ⟨[(2, .ptr 0 0), (0, tabs (tab n f)), (7, i64 (a : Nat)), (8, i64 (b : Nat)), (9, i64 (x.1 : Nat))], [(0, .var 53 [i64 0, i64 0, i64 0, i64 0])], 1⟩) (fun x => n - x.1) (⟨0, Nat.zero_le _, by rw [← Option.or_assoc]; rw [ff_lt ltb] at gb; exact gb⟩) ?_ ?_
   ·
    exact weak_scrub' rfl (zz4 (zz1 trivial)) ⟨rfl, rfl, rfl, trivial⟩
   rintro ⟨c, hc, gc⟩
   dsimp only
   refine zH ?_; refine zM ?_; refine zM ?_; refine zE ?_; refine zB ?_; refine zN ?_
   refine zq ?_ ?_ <;> intro h58
   ·
    have ltc : c < n := by simpa [tab] using h58
    refine zW ?_; refine awp_seq ?_; refine awp_block ?_; refine awp_seq ?_; refine awp_draw 26 (by kernel_rfl) (by kernel_rfl) ?_; refine zm ?_
    refine zm ?_; refine zm ?_; refine zp (q_elem rfl rfl rfl a rfl _ (tab_get lta) rfl) ?_; refine zl ?_; refine zm ?_
    refine zp (q_elem rfl rfl rfl b rfl _ (rowL_get ltb) rfl) ?_; refine zl ?_
    refine zp (q_elem rfl rfl rfl (f a b) rfl _ (tab_get (hlt a b lta ltb)) rfl) ?_; refine zl ?_; refine zm ?_
    refine zp (q_elem rfl rfl rfl c rfl _ (rowL_get ltc) rfl) ?_; refine zl ?_; refine zm ?_; refine zm ?_
    refine zp (q_elem rfl rfl rfl a rfl _ (tab_get lta) rfl) ?_; refine zl ?_; refine zm ?_; refine zm ?_
    refine zp (q_elem rfl rfl rfl b rfl _ (tab_get ltb) rfl) ?_; refine zl ?_; refine zm ?_
    refine zp (q_elem rfl rfl rfl c rfl _ (rowL_get ltc) rfl) ?_; refine zl ?_
    refine zp (q_elem rfl rfl rfl (f b c) rfl _ (rowL_get (hlt b c ltb ltc)) rfl) ?_; refine zl ?_; change AOps _ _ _ _ _ _; refine zB ?_; refine zN ?_
    refine zq ?_ ?_ <;> intro h75
    ·
     have h25 : ¬ f (f a b) c = f a (f b c) := by simpa [bneN] using h75
     refine zG ?_; refine zM ?_; refine zM ?_; refine zM ?_; refine zP (q_buildA rfl rfl rfl) ?_; refine zC ?_; refine zT ?_; refine awp_ret ?_
     change (resY _ _).bind AV.fzt = some _
     refine ret_r rfl ?_
     rw [vio_3 e1 e2 (fo_at ltc gc (by rw [vio3a, if_neg h25]))]; rfl
    have h25 : f (f a b) c = f a (f b c) := by simpa [bneN] using h75
    refine awp_skip ?_; change AWP _ _ _ _  _; refine awp_region ?_; refine zM ?_; refine zP (q_addi rfl rfl rfl (by omega)) ?_; refine zS ?_
    refine aops_nil ?_
    exact ⟨⟨c + 1, ltc, fo_go ltc gc (by rw [vio3a, if_pos h25])⟩, weak_scrub' rfl (zz4 ⟨(cgI (by dsimp only; omega)), rfl, trivial⟩) ⟨rfl, rfl, rfl, trivial⟩, by dsimp only; omega⟩
   have gec : n ≤ c := by simpa [tab] using h58
   refine awp_exit ?_; change AWP _ _ _ _  _; refine awp_region ?_; refine zM ?_; refine zP (q_addi rfl rfl rfl (by omega)) ?_; refine zS ?_
   refine aops_nil ?_
   exact ⟨⟨b + 1, ltb, (fo_end gec gc)⟩, weak_scrub' rfl (zz3 ⟨(cgI (by dsimp only; omega)), rfl, trivial⟩) ⟨rfl, rfl, rfl, trivial⟩, by dsimp only; omega⟩
  have geb : n ≤ b := by simpa [tab] using h51
  refine awp_exit ?_; change AWP _ _ _ _  _; refine awp_region ?_; refine zM ?_; refine zP (q_addi rfl rfl rfl (by omega)) ?_; refine zS ?_
  refine aops_nil ?_
  exact ⟨⟨a + 1, lta, (fo_end geb gb)⟩, weak_scrub' rfl (zz2 ⟨(cgI (by dsimp only; omega)), rfl, trivial⟩) ⟨rfl, rfl, rfl, trivial⟩, by dsimp only; omega⟩
 have gea : n ≤ a := by simpa [tab] using h45
 have e3 := ff_no gea ga
 refine awp_exit ?_; change AWP _ _ _ _  _; refine zH ?_; refine zM ?_; refine zP (q_call (rBot_fc n f ht) rfl rfl rfl) ?_; refine zB ?_; refine zN ?_
 refine zq ?_ ?_ <;> intro h82
 ·
  have h31 := h82
  rw [rBot_neg] at h31
  refine zG ?_; refine zP (q_buildA rfl rfl rfl) ?_; refine zC ?_; refine zT ?_; refine awp_ret ?_
  change (resY _ _).bind AV.fzt = some _
  refine ret_r rfl ?_
  rw [vio_4 e1 e2 e3, if_pos (by simpa using h31)]; rfl
 have h31 := h82
 rw [rBot_neg] at h31
 refine zW ?_; refine zG ?_; refine zP (q_build0 rfl) ?_; refine zC ?_; refine zT ?_; refine awp_ret ?_
 change (resY _ _).bind AV.fzt = some _
 refine ret_r rfl ?_
 rw [vio_4 e1 e2 e3, if_neg (by intro e; simp [e] at h31)]; rfl
set_option maxRecDepth 100000 in
set_option maxHeartbeats 1000000 in
theorem rLatY_fc (n : Nat) (f : Nat → Nat → Nat) (ht : TabOf (tab n f) n f) : FC Tryz.prog 30 [tabs (tab n f)] (bl (decide ((vio n f).1 = 0))) := by
 refine fc_of_awp [2] Tryz.func30 rfl rfl 17 Tryz.ntmps30 (Nat.le_of_ble_eq_true rfl) ?_
 intro E hN
 refine zG ?_; refine zS ?_; refine zA ?_; refine zM ?_; refine zP (q_call (rCheckY_fc n f ht) rfl rfl rfl) ?_; refine zM ?_
 refine zP (q_extract rfl rfl rfl) ?_; refine zP (q_extract rfl rfl rfl) ?_; refine zO ?_; refine zC ?_; refine zS ?_; refine zA ?_; refine zM ?_
 refine zB ?_; refine zM ?_; refine zP (q_arr rfl rfl rfl 0 rfl (by decide) rfl rfl) ?_; refine zL ?_; refine zB ?_; refine zh1 rfl ?_; refine zS ?_
 refine zQ ?_
 exact retB (by rw [Bool.eq_iff_iff]; simp)
end Go.Proofs.YtaecccdkjmipeaaGreat

namespace Go.Proofs.YtaecccdkjmipeaaGreat
open Go.RowKit
theorem okE_vals (l : List Val) : (l.map valC).all (okE 4) = true := okE_map (fun v => by rw [valC_eq]; rfl) l
theorem fzs_vals (l : List Val) : ∀ e ∈ l.map valC, fzs e = some e := fz_map (fun v => by rw [valC_eq]; rfl) l
theorem in_fz {Ho : List (Nat × AObj)} {es : List (List AV)} (h : ∀ e ∈ es, fzs e = some e) : es.flatten.all (inH1 Ho) = true := by
 refine List.all_eq_true.2 fun x hx => ?_
 obtain ⟨e, he, hxe⟩ := List.mem_flatten.1 hx
 obtain ⟨i, hi⟩ := List.getElem?_of_mem hxe
 have := (fzs_spec (h e he)).2 i x x hi hi
 cases x with
 | sl es tk => cases tk with
  | none => rfl
  | some o => simp [AV.fz1] at this
 | ptr o off => simp [AV.fz1] at this
 | own o n => simp [AV.fz1] at this
 | eptr o n off => simp [AV.fz1] at this
 | agg => simp [AV.fz1] at this
 | tup => simp [AV.fz1] at this
 | fn => simp [AV.fz1] at this
 | _ => rfl
theorem ok_vals {L : Nat} {te : TypeId} (l : List Val) : okObj L (.arr te 4 (l.map valC)) = true := ok_arr (f := valC) (fun v => by rw [valC_eq]; rfl) l
/-- what a function that returns a new row of values and true is said to do -/
abbrev GV (f : FuncId) (args : List AV) (l : List Val) (q m : Nat) : Prop := GX Tryz.prog f args [] (.tup [.own q l.length, bl true]) [(q, .arr 30 4 (l.map valC))] m
/-- the new row's number does not matter -/
theorem gv_norm {f : FuncId} {args : List AV} {l : List Val} {q m : Nat} (h : GV f args l q m) : GV f args l 0 1 := fun c vs hg hvl hv => by
 refine (h c vs hg hvl hv).mono ?_
 rintro e w' ⟨v, c', rfl, rfl, go, hvr⟩
 have big : ∀ o, c.K o → o ≠ 0 := fun o hk e => by have := hg.big o hk; subst e; exact absurd this (by unfold idB; decide)
 obtain ⟨hKq, u, hVq, hor, hbl⟩ := go.live q _ (look_self _ _ _)
 obtain ⟨V', hV'⟩ : ∃ V' : Nat → Option Value, V' = fun o => if o = 0 then c'.V q else none := ⟨_, rfl⟩
 have hV0 : V' 0 = some u := by rw [hV']; simpa using hVq
 have hVn : ∀ o, o ≠ 0 → V' o = none := fun o ho => by rw [hV']; simp [ho]
 refine ⟨v, ⟨c'.w, c'.S, V', fun o => c.K o ∨ o < 1⟩, rfl, rfl, ?_, ?_⟩
 ·exact {
   os := go.os, tape := go.tape, output := go.output, drawn := go.drawn, size := go.size, frame := go.frame
   le := ⟨go.le.S, fun _ h => .inl h, fun o hk => .inr (.inl (hVn o (big o hk)))⟩
   K := fun _ => Iff.rfl, Snew := go.Snew, Ssz := go.Ssz
   live := fun o ob ho => by
    rw [look_cons] at ho
    split at ho
    ·rename_i e0
     cases ho; subst e0
     refine ⟨.inr (Nat.lt_succ_self 0), u, hV0, ?_, hbl⟩
     cases hor with
     | arr _ _ _ _ xs hown hk hx hS =>
      refine .arr u _ 4 _ xs hown hk (fun i y x hi hx' => .fr _ _ ?_) hS
      obtain ⟨e', he', hxe⟩ := List.mem_flatten.1 (List.mem_of_getElem? hx')
      obtain ⟨j, hj⟩ := List.getElem?_of_mem hxe
      exact (hx i y x hi hx').fz1 ((fzs_spec (fzs_vals l e' he')).2 j x x hj hj)
    cases ho
   dead := fun o ho => by
    rw [look_cons] at ho
    split at ho
    ·cases ho
    rename_i e0; exact hVn o e0
   apart := fun o o' x y b h1 h2 h3 h4 => by
    by_cases e1 : o = 0
    ·by_cases e2 : o' = 0
     ·rw [e1, e2]
     have h2 : V' o' = some y := h2
     rw [hVn o' e2] at h2; cases h2
    have h1 : V' o = some x := h1
    rw [hVn o e1] at h1; cases h1 }
 cases hvr with
 | fr _ _ h => cases h with
  | tup vs _ hl h =>
   have h0 : ∃ z, vs[0]? = some z := ⟨_, List.getElem?_eq_getElem (by rw [hl]; simp)⟩
   obtain ⟨z, hz⟩ := h0
   have := h 0 z _ hz rfl
   cases this
 | tup vs _ hl h =>
  refine .tup vs _ hl fun i y x hi hj => ?_
  match i, hj with
  | 0, hj =>
   cases hj
   have h5 := h 0 y _ hi rfl
   cases h5 with
   | fr _ _ h => cases h
   | own _ _ _ hK hV =>
    refine .own _ _ _ (.inr (Nat.lt_succ_self 0)) fun A n' cap hh => hV A n' cap ?_
    have hh : V' 0 = _ := hh
    rw [hV0] at hh; rw [hVq]; exact hh
  | 1, hj =>
   cases hj
   have h5 := h 1 y _ hi rfl
   exact .fr _ _ (by rw [h5.p_inv]; exact .p _)
  | i + 2, hj => simp at hj
theorem ren_arr {ρ : List (Nat × Nat)} {q : Nat} {te : TypeId} {k : Nat} {es : List (List AV)} (h : ∀ e ∈ es, fzs e = some e) : [(q, AObj.arr te k es)].map (fun p => (rn ρ p.1, ren2 ρ p.2)) = [(rn ρ q, .arr te k es)] := by
 simp only [List.map_cons, List.map_nil, ren2, ren_id h]
/-- the numbers from lo on -/
def numsV (lo : Int) (n : Nat) : List Val := (List.range n).map fun i : Nat => .mk (lo + (i : Int)) [] [] []
theorem numsV_succ (lo : Int) (n : Nat) : numsV lo (n + 1) = numsV lo n ++ [.mk (lo + n) [] [] []] := by
 unfold numsV; rw [List.range_succ, List.map_append]; rfl
theorem numsV_len (lo : Int) (n : Nat) : (numsV lo n).length = n := by simp [numsV]
set_option maxRecDepth 100000 in
set_option maxHeartbeats 1000000 in
theorem numbers_gx (lo hi : Int) (N : Nat) (h1 : hi - lo + 1 = (N : Int)) (h2 : N ≤ 256) (h3 : -1000000000 ≤ lo) (h4 : hi ≤ 1000000000) : GV 69 [i64 lo, i64 hi] (numsV lo N) 0 1 := by
 refine gx_of_awp [4, 5] Tryz.func69 rfl rfl 24 Tryz.ntmps69 (Nat.le_of_ble_eq_true rfl) ?_
 intro E hN
 refine zG ?_; refine zS ?_; refine zT ?_; refine zH ?_; refine zM ?_; refine zM ?_; refine zP (q_subi rfl rfl rfl (by omega)) ?_
 refine zP (q_binb (b := false) rfl rfl rfl (by simp; omega)) ?_
 refine zN ?_; refine c_false rfl rfl ?_; refine zW ?_; refine zG ?_; refine zT ?_; refine zH ?_; refine zM ?_; refine zT ?_; refine awp_block ?_
 refine awp_weak (weak_own rfl 6 30 4 rfl) ?_
 refine awp_loop (fun x : {k : Nat // k ≤ N ∧ True} => ⟨[(0, i64 lo), (1, i64 hi), (6, .own 0 x.1), (7, i64 (lo + (x.1 : Nat)))], [(0, .arr 30 4 ((numsV lo x.1).map valC))], 1⟩) (fun x => N - x.1) (⟨0, Nat.zero_le _, by trivial⟩) ?_ ?_
 ·
  exact weak_scrub' rfl (zz3 ⟨(cgI (by dsimp only; omega)), rfl, trivial⟩) ⟨rfl, rfl, (ok_vals _), trivial⟩
 rintro ⟨k, hk, gk⟩
 dsimp only
 refine zH ?_; refine zM ?_; refine zM ?_; refine zB ?_; refine zN ?_
 refine zq ?_ ?_ <;> intro h8
 ·
  have ltk : k < N := by have := of_decide_eq_true h8; omega
  refine zW ?_; refine awp_seq ?_; refine awp_block ?_; refine awp_region ?_; refine zM ?_; refine zM ?_; refine zP (q_build rfl rfl rfl) ?_
  refine zP (q_bslice rfl rfl rfl rfl (by exact rfl) (by decide) (by decide)) ?_
  refine s_append_own hN rfl rfl rfl (by simp [numsV_len]) rfl rfl (by rfl) (by simp [numsV_len, chunkA]; omega) rfl rfl rfl rfl ?_
  refine zS ?_; refine aops_nil ?_; change AWP _ _ _ _  _; refine awp_region ?_; refine zM ?_; refine zP (q_addi rfl rfl rfl (by omega)) ?_
  refine zS ?_; refine aops_nil ?_
  exact ⟨⟨k + 1, ltk, trivial⟩, weak_scrub' rfl (zz3 ⟨(cgI (by dsimp only; omega)), rfl, trivial⟩) ⟨(cgA (by rw [numsV_succ, List.map_append, List.map_cons, valC_eq]; rfl)), rfl, (ok_vals _), trivial⟩, by dsimp only; omega⟩
 have gek : N ≤ k := by have := of_decide_eq_false h8; omega
 obtain rfl : N = k := by omega
 refine awp_exit ?_; change AWP _ _ _ _  _; refine zG ?_; refine zM ?_; refine zS ?_; refine zT ?_; refine awp_ret ?_
 change (resX _ _).ntt = _ ∧ _
 refine ret_x rfl ?_ rfl rfl rfl ⟨rfl, rfl, ok_vals _, trivial⟩
 show AV.tup [.own 0 N, bl true] = _
 rw [numsV_len]
set_option maxRecDepth 100000 in
set_option maxHeartbeats 1000000 in
theorem allFlag_gx : GV 48 [.agg (latL (.mk 1 0 0 [] [] []))] (numsV 0 2) 1 2 := by
 refine gx_of_awp [2, 3] Tryz.func48 rfl rfl 91 Tryz.ntmps48 (Nat.le_of_ble_eq_true rfl) ?_
 intro E hN
 refine zG ?_; refine zX ?_; refine zS ?_; refine zT ?_; refine zH ?_; refine zF ?_; refine zL ?_; refine zN ?_; refine awp_block ?_; refine zG ?_
 refine zB ?_; refine zT ?_; refine c_true rfl rfl ?_; refine zG ?_
 refine s_xcall hN [] (numbers_gx 0 1 2 rfl (by decide) (by decide) (by decide)) (.fn _ _ _ _ rfl rfl) rfl rfl rfl trivial rfl ⟨in_fz (fzs_vals _), trivial⟩ rfl (Hn := [(1, .arr 30 4 ((numsV 0 2).map valC))]) (ren_arr (fzs_vals _)) rfl rfl rfl rfl rfl rfl ?_
 refine zP (q_extract rfl rfl rfl) ?_; refine zP (q_extract rfl rfl rfl) ?_; refine zS ?_; refine zT ?_; refine awp_ret ?_
 change (resX _ _).ntt = _ ∧ _
 refine ret_x rfl ?_ rfl rfl rfl ⟨rfl, rfl, ok_vals _, trivial⟩
 rfl
set_option maxRecDepth 100000 in
set_option maxHeartbeats 1000000 in
theorem allMax_gx (lo hi : Int) (N : Nat) (h1 : hi - lo + 1 = (N : Int)) (h2 : N ≤ 256) (h3 : -1000000000 ≤ lo) (h4 : hi ≤ 1000000000) : GV 48 [.agg (latL (.mk 2 lo hi [] [] []))] (numsV lo N) 1 2 := by
 refine gx_of_awp [2, 3] Tryz.func48 rfl rfl 91 Tryz.ntmps48 (Nat.le_of_ble_eq_true rfl) ?_
 intro E hN
 refine zG ?_; refine zX ?_; refine zS ?_; refine zT ?_; refine zH ?_; refine zF ?_; refine zL ?_; refine zN ?_; refine awp_block ?_; refine zG ?_
 refine zB ?_; refine zT ?_; refine c_false rfl rfl ?_; refine zH ?_; refine zB ?_; refine zT ?_; refine c_true rfl rfl ?_; refine zW ?_
 refine c_true rfl rfl ?_; refine zG ?_; refine zF ?_; refine zL ?_; refine zF ?_; refine zL ?_
 refine s_xcall hN [] (numbers_gx lo hi N h1 h2 h3 h4) (.fn _ _ _ _ rfl rfl) rfl rfl rfl trivial rfl ⟨in_fz (fzs_vals _), trivial⟩ rfl (Hn := [(1, .arr 30 4 ((numsV lo N).map valC))]) (ren_arr (fzs_vals _)) rfl rfl rfl rfl rfl rfl ?_
 refine zP (q_extract rfl rfl rfl) ?_; refine zP (q_extract rfl rfl rfl) ?_; refine zS ?_; refine zT ?_; refine awp_ret ?_
 change (resX _ _).ntt = _ ∧ _
 refine ret_x rfl ?_ rfl rfl rfl ⟨rfl, rfl, ok_vals _, trivial⟩
 rfl
end Go.Proofs.YtaecccdkjmipeaaGreat
