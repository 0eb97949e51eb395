/-
  Contracts of the reference: clocks, descriptions.
  Contracts of the reference: descriptions.
-/
import Derived.Test.YtaecccdkjmipeaaGreatC1
import Derived.Test.YtaecccdkjmipeaaGreatB3
namespace Go.Proofs.YtaecccdkjmipeaaGreat
open Go.RowKit
instance tpairTick : TPair Tryz.prog 153 := ⟨by kernel_rfl, by kernel_rfl, by kernel_rfl, by kernel_rfl⟩
end Go.Proofs.YtaecccdkjmipeaaGreat

namespace Go.Proofs.YtaecccdkjmipeaaGreat
open Go.RowKit
set_option maxRecDepth 100000 in
set_option maxHeartbeats 1000000 in
theorem r9Name_fc (s : Nm) : FC Tryz.prog 162 [sv s] (bl (validB s)) := by
 refine fc_of_awp [2] Tryz.func162 rfl rfl 56 Tryz.ntmps162 (Nat.le_of_ble_eq_true rfl) ?_
 intro E hN
 refine rn11 ?_
 refine zc 7 ?_ ?_ <;> intro h3
 ·
  have hv := validB_no (s := s) (.inl (by have := of_decide_eq_true h3; omega))
  iterate 3 refine uK (w10 h3) ?_
  refine zh1 h3 ?_; refine rn4 ?_; refine zh1 rfl ?_; refine rn4 ?_; refine zh1 rfl ?_; refine zN ?_; refine c_true rfl rfl ?_; refine rn3 ?_
  refine zQ ?_
  exact retB hv.symm
 obtain ⟨c0, hc0, hh⟩ := head_of (s := s) (by have := of_decide_eq_false h3; omega)
 refine uM (w00 h3) ?_; refine uE (w00 h3) ?_; refine uP (w00 h3) (q_bin rfl rfl rfl) ?_; refine zh0 h3 ?_; refine zM ?_
 refine zc 12 ?_ ?_ <;> intro h5
 ·
  have hv := validB_no (s := s) (.inr (.inl (by have := of_decide_eq_true h5; omega)))
  iterate 3 refine uK (w10 h5) ?_
  refine zh1 h5 ?_; refine rn4 ?_; refine zh1 rfl ?_; refine zN ?_; refine c_true rfl rfl ?_; refine rn3 ?_; refine zQ ?_
  exact retB hv.symm
 have h16 : s.length ≤ 16 := by have := of_decide_eq_false h5; omega
 refine uM (w00 h5) ?_; refine uP (w00 h5) (q_byte rfl rfl rfl 0 rfl _ hc0) ?_; refine uP (w00 h5) (q_bin rfl rfl rfl) ?_; refine zh0 h5 ?_
 refine zM ?_
 refine zc 17 ?_ ?_ <;> intro h7
 ·
  have hv := validB_no (s := s) (.inr (.inr (by rw [hh]; have := of_decide_eq_true h7; rw [decide_eq_false (by omega)]; rfl)))
  iterate 3 refine uK (w10 h7) ?_
  refine zh1 h7 ?_; refine zN ?_; refine c_true rfl rfl ?_; refine rn3 ?_; refine zQ ?_
  exact retB hv.symm
 have h97 : 97 ≤ (c0.toNat : Int) := by have := of_decide_eq_false h7; omega
 refine uM (w00 h7) ?_; refine uP (w00 h7) (q_byte rfl rfl rfl 0 rfl _ hc0) ?_; refine uP (w00 h7) (q_bin rfl rfl rfl) ?_; refine zh0 h7 ?_
 refine zN ?_
 refine zq ?_ ?_ <;> intro h9
 ·
  have hv := validB_no (s := s) (.inr (.inr (by rw [hh]; have := of_decide_eq_true h9; rw [decide_eq_false (show ¬ (c0.toNat : Int) ≤ 122 by omega), Bool.and_false])))
  refine rn3 ?_; refine zQ ?_
  exact retB hv.symm
 have hv : validB s = s.all (fun c => wordB c.toNat) := by
  have := of_decide_eq_false h9
  rw [validB, hh, decide_eq_true h16, decide_eq_true h97, decide_eq_true (by omega)]; rfl
 refine rn7 ?_
 refine awp_loop (fun x : {k : Nat // k ≤ (s).length ∧ (s.drop k).all (fun c => wordB c.toNat) = s.all (fun c => wordB c.toNat)} => ⟨[(0, sv s), (3, i64 (x.1 : Nat))], [], 0⟩) (fun x => (s).length - x.1) (⟨0, Nat.zero_le _, by simp⟩) ?_ ?_
 ·
  exact weak_scrub' rfl (zz2 trivial) trivial
 rintro ⟨k, hk, hg⟩
 dsimp only
 refine rn8 ?_
 refine zq ?_ ?_ <;> intro h13
 ·
  have hlt : k < (s).length := by simpa using h13
  obtain ⟨x, hx⟩ := get_lt hlt
  refine rn7 ?_; refine zP (q_byte rfl rfl rfl k rfl _ hx) ?_; refine rn2 ?_
  refine zc 32 ?_ ?_ <;> intro h15
  ·
   iterate 4 refine uK (w10 h15) ?_
   refine zh1 h15 ?_; refine rn3 ?_; refine zP (q_byte rfl rfl rfl k rfl _ hx) ?_; refine rn2 ?_
   refine zc 43 ?_ ?_ <;> intro h17
   ·
    iterate 4 refine uK (w10 h17) ?_
    refine zh1 h17 ?_; refine zh1 rfl ?_; refine rn3 ?_; refine zP (q_byte rfl rfl rfl k rfl _ hx) ?_; refine zB ?_; refine zh1 rfl ?_; refine zN ?_
    refine zq ?_ ?_ <;> intro h19
    ·
     refine rn3 ?_; refine zQ ?_
     exact retB (by rw [hv, all_no hg hx (by first | (simp_all; done) | (simp_all [wordB]; done) | (simp_all [wordB]; omega))])
    refine rn3 ?_; refine zP (q_addi rfl rfl rfl (by omega)) ?_; refine zS ?_; refine aops_nil ?_
    exact ⟨⟨k + 1, hlt, all_go hg hx (by first | (simp_all; done) | (simp_all [wordB]; done) | (simp_all [wordB]; omega))⟩, weak_scrub' rfl (zz1 ⟨(cgI (by dsimp only; omega)), rfl, trivial⟩) trivial, by dsimp only; omega⟩
   refine uM (w00 h17) ?_; refine uM (w00 h17) ?_; refine uP (w00 h17) (q_byte rfl rfl rfl k rfl _ hx) ?_; refine uP (w00 h17) (q_bin rfl rfl rfl) ?_
   refine zh0 h17 ?_; refine zh1 rfl ?_; refine zM ?_
   refine zc 50 ?_ ?_ <;> intro h22
   ·
    refine uM (w11 h22) ?_; refine uM (w11 h22) ?_; refine uP (w11 h22) (q_byte rfl rfl rfl k rfl _ hx) ?_; refine uP (w11 h22) (q_bin rfl rfl rfl) ?_
    refine zh1 h22 ?_; refine zN ?_
    refine zq ?_ ?_ <;> intro h24
    ·
     refine rn3 ?_; refine zQ ?_
     exact retB (by rw [hv, all_no hg hx (by first | (simp_all; done) | (simp_all [wordB]; done) | (simp_all [wordB]; omega))])
    refine rn3 ?_; refine zP (q_addi rfl rfl rfl (by omega)) ?_; refine zS ?_; refine aops_nil ?_
    exact ⟨⟨k + 1, hlt, all_go hg hx (by first | (simp_all; done) | (simp_all [wordB]; done) | (simp_all [wordB]; omega))⟩, weak_scrub' rfl (zz1 ⟨(cgI (by dsimp only; omega)), rfl, trivial⟩) trivial, by dsimp only; omega⟩
   iterate 4 refine uK (w01 h22) ?_
   refine zh0 h22 ?_; refine zN ?_; refine c_false rfl rfl ?_; refine rn3 ?_; refine zP (q_addi rfl rfl rfl (by omega)) ?_; refine zS ?_
   refine aops_nil ?_
   exact ⟨⟨k + 1, hlt, all_go hg hx (by first | (simp_all; done) | (simp_all [wordB]; done) | (simp_all [wordB]; omega))⟩, weak_scrub' rfl (zz1 ⟨(cgI (by dsimp only; omega)), rfl, trivial⟩) trivial, by dsimp only; omega⟩
  refine uM (w00 h15) ?_; refine uM (w00 h15) ?_; refine uP (w00 h15) (q_byte rfl rfl rfl k rfl _ hx) ?_; refine uP (w00 h15) (q_bin rfl rfl rfl) ?_
  refine zh0 h15 ?_; refine zM ?_
  refine zc 38 ?_ ?_ <;> intro h28
  ·
   refine uM (w11 h28) ?_; refine uM (w11 h28) ?_; refine uP (w11 h28) (q_byte rfl rfl rfl k rfl _ hx) ?_; refine uP (w11 h28) (q_bin rfl rfl rfl) ?_
   refine uM (w11 h28) ?_
   refine zc 43 ?_ ?_ <;> intro h30
   ·
    iterate 4 refine uK (w10 h30) ?_
    refine uP (w11 h28) (q_pick1 rfl rfl h30 rfl) ?_; refine zh1 h28 ?_; refine rn3 ?_; refine zP (q_byte rfl rfl rfl k rfl _ hx) ?_; refine zB ?_
    refine zh1 rfl ?_; refine zN ?_
    refine zq ?_ ?_ <;> intro h32
    ·
     refine rn3 ?_; refine zQ ?_
     exact retB (by rw [hv, all_no hg hx (by first | (simp_all; done) | (simp_all [wordB]; done) | (simp_all [wordB]; omega))])
    refine rn3 ?_; refine zP (q_addi rfl rfl rfl (by omega)) ?_; refine zS ?_; refine aops_nil ?_
    exact ⟨⟨k + 1, hlt, all_go hg hx (by first | (simp_all; done) | (simp_all [wordB]; done) | (simp_all [wordB]; omega))⟩, weak_scrub' rfl (zz1 ⟨(cgI (by dsimp only; omega)), rfl, trivial⟩) trivial, by dsimp only; omega⟩
   refine uM (w00 h30) ?_; refine uM (w00 h30) ?_; refine uP (w00 h30) (q_byte rfl rfl rfl k rfl _ hx) ?_; refine uP (w00 h30) (q_bin rfl rfl rfl) ?_
   refine uP (w11 h28) (q_pick0 rfl rfl h30 rfl) ?_; refine zh1 h28 ?_; refine zM ?_
   refine zc 50 ?_ ?_ <;> intro h35
   ·
    refine uM (w11 h35) ?_; refine uM (w11 h35) ?_; refine uP (w11 h35) (q_byte rfl rfl rfl k rfl _ hx) ?_; refine uP (w11 h35) (q_bin rfl rfl rfl) ?_
    refine zh1 h35 ?_; refine zN ?_
    refine zq ?_ ?_ <;> intro h37
    ·
     refine rn3 ?_; refine zQ ?_
     exact retB (by rw [hv, all_no hg hx (by first | (simp_all; done) | (simp_all [wordB]; done) | (simp_all [wordB]; omega))])
    refine rn3 ?_; refine zP (q_addi rfl rfl rfl (by omega)) ?_; refine zS ?_; refine aops_nil ?_
    exact ⟨⟨k + 1, hlt, all_go hg hx (by first | (simp_all; done) | (simp_all [wordB]; done) | (simp_all [wordB]; omega))⟩, weak_scrub' rfl (zz1 ⟨(cgI (by dsimp only; omega)), rfl, trivial⟩) trivial, by dsimp only; omega⟩
   iterate 4 refine uK (w01 h35) ?_
   refine zh0 h35 ?_; refine zN ?_; refine c_false rfl rfl ?_; refine rn3 ?_; refine zP (q_addi rfl rfl rfl (by omega)) ?_; refine zS ?_
   refine aops_nil ?_
   exact ⟨⟨k + 1, hlt, all_go hg hx (by first | (simp_all; done) | (simp_all [wordB]; done) | (simp_all [wordB]; omega))⟩, weak_scrub' rfl (zz1 ⟨(cgI (by dsimp only; omega)), rfl, trivial⟩) trivial, by dsimp only; omega⟩
  iterate 5 refine uK (w01 h28) ?_
  refine rn4 ?_; refine uK (w01 h28) ?_; refine zh0 h28 ?_; refine rn5 ?_; refine zh0 rfl ?_; refine zN ?_; refine c_false rfl rfl ?_; refine rn3 ?_
  refine zP (q_addi rfl rfl rfl (by omega)) ?_; refine zS ?_; refine aops_nil ?_
  exact ⟨⟨k + 1, hlt, all_go hg hx (by first | (simp_all; done) | (simp_all [wordB]; done) | (simp_all [wordB]; omega))⟩, weak_scrub' rfl (zz1 ⟨(cgI (by dsimp only; omega)), rfl, trivial⟩) trivial, by dsimp only; omega⟩
 have hge : (s).length ≤ k := by simpa using h13
 refine rn4 ?_; refine zQ ?_
 exact retB (by rw [hv, all_end hg hge])
set_option maxRecDepth 100000 in
set_option maxHeartbeats 1000000 in
theorem r9In_fc (l : List Nm) (s : Nm) : FC Tryz.prog 163 [svs l, sv s] (bl (hasB l s)) := by
 refine fc_of_awp [4] Tryz.func163 rfl rfl 18 Tryz.ntmps163 (Nat.le_of_ble_eq_true rfl) ?_
 intro E hN
 refine a_lm 0 rfl (fun hl0 => ?_)
 refine rn10 ?_
 refine awp_loop (fun x : {k : Nat // k ≤ (l).length ∧ (l.drop k).any (s == ·) = l.any (s == ·)} => ⟨[(0, svs l), (1, sv s), (5, i64 (x.1 : Nat))], [], 0⟩) (fun x => (l).length - x.1) (⟨0, Nat.zero_le _, by simp⟩) ?_ ?_
 ·
  exact weak_scrub' rfl (zz3 trivial) trivial
 rintro ⟨k, hk, hg⟩
 dsimp only
 refine rn8 ?_
 refine zq ?_ ?_ <;> intro h7
 ·
  have hlt : k < (l).length := by simpa using h7
  obtain ⟨x, hx⟩ := get_lt hlt
  refine rn7 ?_; refine zP (q_elem rfl rfl rfl k rfl _ (map_get hx) rfl) ?_; refine rn4 ?_
  refine zq ?_ ?_ <;> intro h10
  ·
   have hxs : x = s := by simpa using h10
   refine rn3 ?_; refine zQ ?_
   exact retB (any_yes hg hx (by rw [hxs]; simp)).symm
  have hxs : x ≠ s := by simpa using h10
  refine rn3 ?_; refine zP (q_addi rfl rfl rfl (by omega)) ?_; refine zS ?_; refine aops_nil ?_
  exact ⟨⟨k + 1, hlt, any_go hg hx (beq_eq_false_iff_ne.2 fun e => hxs e.symm)⟩, weak_scrub' rfl (zz2 ⟨(cgI (by dsimp only; omega)), rfl, trivial⟩) trivial, by dsimp only; omega⟩
 have hge : (l).length ≤ k := by simpa using h7
 refine rn4 ?_; refine zQ ?_
 exact retB (any_end hg hge).symm
theorem rise_step {l : List Nm} {k : Nat} {x y : Nm} (hk : 0 < k) (hg : sortedB (l.drop (k - 1)) = sortedB l) (hy : l[k - 1]? = some y) (hx : l[k]? = some x) : sortedB l = (Op.bytesLess y x && sortedB (l.drop (k + 1 - 1))) := by
 rw [sorted_go hk hg hy hx, Nat.add_sub_cancel]
def riseB (l : List Nm) : Bool := l.all validB && sortedB l
set_option maxRecDepth 100000 in
set_option maxHeartbeats 1000000 in
theorem rise_fc (l : List Nm) : FC Tryz.prog 164 [svs l] (bl (riseB l)) := by
 refine fc_of_awp [2] Tryz.func164 rfl rfl 32 Tryz.ntmps164 (Nat.le_of_ble_eq_true rfl) ?_
 intro E hN
 refine a_lm 0 rfl (fun hl0 => ?_)
 refine rn10 ?_
 refine awp_loop (fun x : {k : Nat // k ≤ l.length ∧ (l.drop k).all validB = l.all validB ∧ sortedB (l.drop (k - 1)) = sortedB l} => ⟨[(0, svs l), (3, i64 (x.1 : Nat))], [], 0⟩) (fun x => l.length - x.1) (⟨0, Nat.zero_le _, rfl, rfl⟩) ?_ ?_
 ·
  exact weak_scrub' rfl (zz2 trivial) trivial
 rintro ⟨k, hk, hg, hg2⟩
 dsimp only
 refine rn8 ?_
 refine zq ?_ ?_ <;> intro h5
 ·
  have hlt : k < (l).length := by simpa using h5
  obtain ⟨x, hx⟩ := get_lt hlt
  refine rn4 ?_; refine awp_draw 21 (by kernel_rfl) (by kernel_rfl) ?_; refine rn2 ?_; refine zp (q_elem rfl rfl rfl k rfl _ (map_get hx) rfl) ?_
  refine zl ?_; refine zp (q_call (r9Name_fc x) rfl rfl rfl) ?_; refine rn2 ?_
  refine zd 16 ?_ ?_ <;> intro h8
  ·
   have hno : riseB l = false := by rw [riseB, all_no hg hx (n1 h8)]; rfl
   iterate 3 refine vK (w10 (m0 (n1 h8))) ?_
   refine rn10 ?_; refine vK (w10 (m0 (n1 h8))) ?_; change AOps _ _ _ _ _ _; refine zh1 (m0 (n1 h8)) ?_; refine zN ?_; refine c_true rfl rfl ?_
   refine rn3 ?_; refine zQ ?_
   exact retB hno.symm
  have hv : validB x = true := n0 h8
  refine vP (w00 (m1 (n0 h8))) (q_move rfl rfl) ?_; refine vP (w00 (m1 (n0 h8))) (q_bin rfl rfl rfl) ?_
  refine vP (w00 (m1 (n0 h8))) (q_move rfl rfl) ?_
  refine zd 19 ?_ ?_ <;> intro h9
  ·
   have hk0 : 0 < k := by have := of_decide_eq_true h9; omega
   obtain ⟨y, hy⟩ := get_lt (show k - 1 < l.length by omega)
   have hrs := rise_step hk0 hg2 hy hx
   refine vP (w11 h9) (q_move rfl rfl) ?_; refine vP (w11 h9) (q_move rfl rfl) ?_; refine vP (w11 h9) (q_subi rfl rfl rfl (by omega)) ?_
   refine vP (w11 h9) (q_elem rfl rfl rfl (k - 1) (by omega) _ (map_get hy) rfl) ?_; refine vP (w11 h9) (q_load rfl rfl rfl rfl rfl) ?_
   refine vP (w11 h9) (q_move rfl rfl) ?_; refine vP (w11 h9) (q_move rfl rfl) ?_; refine vP (w11 h9) (q_elem rfl rfl rfl k rfl _ (map_get hx) rfl) ?_
   refine vP (w11 h9) (q_load rfl rfl rfl rfl rfl) ?_; refine vP (w11 h9) (q_bin rfl rfl rfl) ?_
   refine vP (w00 (m1 (n0 h8))) (q_pick1 rfl rfl h9 rfl) ?_; change AOps _ _ _ _ _ _; refine zh0 (m1 (n0 h8)) ?_; refine zN ?_
   refine zq ?_ ?_ <;> intro h15
   ·
    have hno : riseB l = false := by rw [riseB, hrs]; simp_all
    refine rn3 ?_; refine zQ ?_
    exact retB hno.symm
   have hnx : sortedB (l.drop (k + 1 - 1)) = sortedB l := by rw [hrs]; simp_all
   refine rn3 ?_; refine zP (q_addi rfl rfl rfl (by omega)) ?_; refine zS ?_; refine aops_nil ?_
   exact ⟨⟨k + 1, hlt, all_go hg hx hv, hnx⟩, weak_scrub' rfl (zz1 ⟨(cgI (by dsimp only; omega)), rfl, trivial⟩) trivial, by dsimp only; omega⟩
  have hk0 : k = 0 := by have := of_decide_eq_false h9; omega
  have hnx : sortedB (l.drop (k + 1 - 1)) = sortedB l := by rw [hk0]; rfl
  iterate 10 refine vK (w01 h9) ?_
  refine vP (w00 (m1 (n0 h8))) (q_pick0 rfl rfl h9 rfl) ?_; change AOps _ _ _ _ _ _; refine zh0 (m1 (n0 h8)) ?_; refine zN ?_
  refine c_false rfl rfl ?_; refine rn3 ?_; refine zP (q_addi rfl rfl rfl (by omega)) ?_; refine zS ?_; refine aops_nil ?_
  exact ⟨⟨k + 1, hlt, all_go hg hx hv, hnx⟩, weak_scrub' rfl (zz1 ⟨(cgI (by dsimp only; omega)), rfl, trivial⟩) trivial, by dsimp only; omega⟩
 have hge : (l).length ≤ k := by simpa using h5
 refine rn4 ?_; refine zQ ?_
 exact retB (by rw [riseB, all_end hg hge, sorted_end hg2 hge]; rfl)
set_option maxRecDepth 100000 in
set_option maxHeartbeats 1000000 in
theorem r9Chain_s (l : Lat) (ih : ∀ q ∈ l.ps, FC Tryz.prog 139 [.agg (latL q)] (bl (chainB q))) : FC Tryz.prog 139 [.agg (latL l)] (bl (chainB l)) := by
 refine fc_of_awp [2] Tryz.func139 rfl rfl 29 Tryz.ntmps139 (Nat.le_of_ble_eq_true rfl) ?_
 intro E hN
 refine rn12 ?_
 refine c_cut (⟨[(1, .ptr 0 0), (4, i64 l.k), (5, bl (l.k == 1 || l.k == 2 || l.k == 3))], [(0, .var 26 (latL l))], 1⟩) ?_ ?_
 ·
  refine rn5 ?_
  refine zq ?_ ?_ <;> intro h5
  ·
   refine awp_skip ?_
   exact weak_scrub' rfl (zz2 ⟨(cgB (by simp_all)), rfl, trivial⟩) ⟨rfl, rfl, rfl, trivial⟩
  refine rn5 ?_
  refine zq ?_ ?_ <;> intro h6
  ·
   refine awp_skip ?_
   exact weak_scrub' rfl (zz2 ⟨(cgB (by simp_all)), rfl, trivial⟩) ⟨rfl, rfl, rfl, trivial⟩
  refine rn3 ?_; refine aops_nil ?_
  exact weak_scrub' rfl (zz2 ⟨(cgB (by simp_all)), rfl, trivial⟩) ⟨rfl, rfl, rfl, trivial⟩
 refine zq ?_ ?_ <;> intro h10
 ·
  have h123 := h10
  refine rn3 ?_; refine zQ ?_
  exact retB (chainB_1 h123).symm
 have h123 : (l.k == 1 || l.k == 2 || l.k == 3) = false := h10
 refine rn5 ?_
 refine zq ?_ ?_ <;> intro h11
 ·
  have h7 := h11
  refine rn7 ?_
  refine zc 15 ?_ ?_ <;> intro h15
  ·
   obtain ⟨a, b, hps⟩ : ∃ a b, l.ps = [a, b] := by
    have h2 : l.ps.length = 2 := by have e := h15; simp at e; omega
    match l.ps, h2 with
    | [a, b], _ => exact ⟨a, b, rfl⟩
   have ha : l.ps[0]? = some a := by rw [hps]; rfl
   have hb : l.ps[1]? = some b := by rw [hps]; rfl
   have h72 := chainB_7 h7 hps
   refine uF (w11 h15) ?_; refine uL (w11 h15) ?_; refine uP (w11 h15) (q_elem rfl rfl rfl 0 rfl _ (lat_get ha) rfl) ?_; refine uL (w11 h15) ?_
   refine uP (w11 h15) (q_call (ih a (List.mem_of_getElem? ha)) rfl rfl rfl) ?_; refine zh1 h15 ?_; refine zM ?_
   refine zc 22 ?_ ?_ <;> intro h20
   ·
    refine uF (w11 h20) ?_; refine uL (w11 h20) ?_; refine uP (w11 h20) (q_elem rfl rfl rfl 1 rfl _ (lat_get hb) rfl) ?_; refine uL (w11 h20) ?_
    refine uP (w11 h20) (q_call (ih b (List.mem_of_getElem? hb)) rfl rfl rfl) ?_; refine zh1 h20 ?_; refine zS ?_; refine zQ ?_
    exact retB (by first | exact h72.symm | (rw [h72]; simp_all))
   iterate 5 refine uK (w01 h20) ?_
   refine zh0 h20 ?_; refine zS ?_; refine zQ ?_
   exact retB (by first | exact h72.symm | (rw [h72]; simp_all))
  have h72 : chainB l = false := by
   have e := h15
   simp only [Bool.or_eq_false_iff] at h123
   exact chainB_no h123.1.1 h123.1.2 h123.2 (.inr (by intro e2; simp [e2] at e))
  iterate 5 refine uK (w01 h15) ?_
  refine zh0 h15 ?_; refine rn6 ?_; refine zh0 rfl ?_; refine zS ?_; refine zQ ?_
  exact retB (by first | exact h72.symm | (rw [h72]; simp_all))
 have h7 := h11
 refine rn4 ?_; refine zQ ?_
 exact retB (by
  simp only [Bool.or_eq_false_iff] at h123
  exact (chainB_no h123.1.1 h123.1.2 h123.2 (.inl h7)).symm)
theorem r9Chain_fc (l : Lat) : FC Tryz.prog 139 [.agg (latL l)] (bl (chainB l)) := r9Chain_s l (fun q hq => r9Chain_fc q)
termination_by l
decreasing_by exact Lat.sizeOf_ps ‹_›
end Go.Proofs.YtaecccdkjmipeaaGreat
