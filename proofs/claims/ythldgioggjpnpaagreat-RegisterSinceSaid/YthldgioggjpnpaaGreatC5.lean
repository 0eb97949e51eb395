/-
  Plain laws: the reference's clocks and registers are the program's.
  Contracts of the reference: elements of a lattice.
-/
import Derived.Test.YthldgioggjpnpaaGreatB17
import Derived.Test.YthldgioggjpnpaaGreatC2
import Derived.Test.YthldgioggjpnpaaGreatC4
import Derived.Test.YthldgioggjpnpaaGreatB15
namespace Go.Proofs.YthldgioggjpnpaaGreat
open Go.RowKit
theorem getB_hi : ∀ (l : List Tk) (last p : Int), validC last l = true → 63 < p → getB l p = 0
 | [], _, _, _, _ => rfl
 | x :: r, last, p, h, hp => by
  obtain ⟨h1, h2⟩ := vc_cons.1 h
  have := okTk_iff.1 h1
  rw [getB_cons, if_neg (by omega)]
  exact getB_hi r x.1 p h2 hp
theorem leqN_iff {a b : List Tk} (ha : validC (-1) a = true) (hb : validC (-1) b = true) : leqN a b = true ↔ cle a b := by
 unfold leqN getC
 rw [List.all_eq_true, ha, hb]
 constructor
 ·intro h p
  by_cases h1 : p ≤ -1
  ·rw [getB_lo a (-1) p ha h1, getB_lo b (-1) p hb h1]; exact Int.le_refl _
  by_cases h2 : 63 < p
  ·rw [getB_hi a (-1) p ha h2, getB_hi b (-1) p hb h2]; exact Int.le_refl _
  obtain ⟨n, rfl⟩ : ∃ n : Nat, p = n := ⟨p.toNat, by omega⟩
  simpa using h n (List.mem_range.2 (by omega))
 intro h n _
 simpa using h n
theorem belowN_iff {a b : List Tk} (ha : validC (-1) a = true) (hb : validC (-1) b = true) : belowN a b = true ↔ cle a b ∧ ¬ cle b a := by
 unfold belowN
 rw [ha, hb]
 simp only [Bool.true_and, Bool.and_eq_true, Bool.not_eq_true', ← Bool.not_eq_true, leqN_iff ha hb, leqN_iff hb ha]
def regRP (l : List En) (p : En × Nat) : Bool := !((p.1.1.length : Int) == 0) && validC (-1) p.1.1 && validB p.1.2 && !(decide ((p.2 : Int) > 0) && (match l[p.2 - 1]? with | some y => decide (cmpEn y p.1 ≥ 0) | none => false)) && l.all fun f => !belowN p.1.1 f.1
theorem regR_eq (l : List En) : l.zipIdx.all (regRP l) = regB l := by
 rw [Bool.eq_iff_iff]
 constructor
 ·intro h
  have h' : ∀ k x, l[k]? = some x → x.1 ≠ [] ∧ validC (-1) x.1 = true ∧ validB x.2 = true ∧ (∀ y, 0 < k → l[k - 1]? = some y → cmpEn y x < 0) ∧ ∀ y ∈ l, belowN x.1 y.1 = false := by
   intro k x hx
   have hr := List.all_eq_true.1 h (x, k) (List.mem_of_getElem? (zipE_get hx))
   unfold regRP at hr
   simp only [Bool.and_eq_true, Bool.not_eq_true', List.all_eq_true, and_assoc] at hr
   obtain ⟨r1, r2, r3, r4, r5⟩ := hr
   refine ⟨fun e => by simp [e] at r1, r2, r3, fun y hk hy => ?_, r5⟩
   have h0 : ((k : Int) > 0) := by omega
   rw [hy] at r4
   simp only [h0, decide_true, Bool.true_and, decide_eq_false_iff_not] at r4
   omega
  have hj : ∀ x ∈ l, ∃ j : Nat, l[j]? = some x := fun x hx => List.mem_iff_getElem?.1 hx
  have hv : ∀ x ∈ l, validC (-1) x.1 = true := fun x hx => by obtain ⟨j, hj⟩ := hj x hx; exact (h' j x hj).2.1
  refine RegOk.regB_ ⟨hv, fun x hx => ?_, fun x hx => ?_, ?_, fun x hx y hy hlt => ?_⟩
  ·obtain ⟨j, hj⟩ := hj x hx; exact (h' j x hj).1
  ·obtain ⟨j, hj⟩ := hj x hx; exact (h' j x hj).2.2.1
  ·exact pairwise_of_steps l (fun j e d he hd => (h' (j + 1) e he).2.2.2.1 d (by omega) hd)
  obtain ⟨j, hj⟩ := hj x hx
  have := (h' j x hj).2.2.2.2 y hy
  rw [(belowN_iff (hv x hx) (hv y hy)).2 hlt] at this
  cases this
 intro h
 have ho := RegOk.of h
 rw [List.all_eq_true]
 intro p hp
 obtain ⟨k, hk⟩ := List.mem_iff_getElem?.1 hp
 have h2 := (List.getElem?_eq_some_iff.1 hk).1
 rw [zipE_len] at h2
 have h3 := zipE_get (List.getElem?_eq_getElem h2)
 rw [hk] at h3
 cases h3
 have hm : l[k] ∈ l := List.getElem_mem h2
 have hr := (regE_iff (List.getElem?_eq_getElem h2)).1 (regB_at.1 h k _ (List.getElem?_eq_getElem h2))
 have hb : ∀ y ∈ l, belowN l[k].1 y.1 = false := fun y hy => by
  cases hb : belowN l[k].1 y.1
  ·rfl
  exact absurd ((belowN_iff (ho.valid _ hm) (ho.valid y hy)).1 hb) (ho.anti _ hm y hy)
 unfold regRP
 simp only [Bool.and_eq_true, Bool.not_eq_true', List.all_eq_true, and_assoc]
 refine ⟨?_, hr.2.1, hr.2.2.1, ?_, hb⟩
 ·have := hr.1
  cases hc : l[k].1 with
  | nil => exact absurd hc this
  | cons a r => simp; omega
 by_cases hk0 : 0 < k
 ·have h1 : l[k - 1]? = some l[k - 1] := List.getElem?_eq_getElem (by omega)
  have := hr.2.2.2.1 _ hk0 h1
  rw [h1]
  simp; omega
 simp [hk0]
end Go.Proofs.YthldgioggjpnpaaGreat

namespace Go.Proofs.YthldgioggjpnpaaGreat
open Go.RowKit
set_option maxRecDepth 100000 in
set_option maxHeartbeats 1000000 in
theorem rMembers_fc (only l : List Nm) : FC Tryz.prog 124 [svs only, svs l] (bl (allowedB only l)) := by
 refine fc_of_awp [4] Tryz.func124 rfl rfl 34 Tryz.ntmps124 (Nat.le_of_ble_eq_true rfl) ?_
 intro E hN
 refine a_lm 1 rfl (fun hl1 => ?_)
 refine zG ?_; refine zT ?_; refine zH ?_; refine zT ?_; refine awp_block ?_
 refine awp_loop (fun x : {k : Nat // k ≤ (l).length ∧ (l.drop k).all (okName only) = l.all (okName only)} => ⟨[(0, svs only), (1, svs l), (5, i64 (x.1 : Nat))], [], 0⟩) (fun x => (l).length - x.1) (⟨0, Nat.zero_le _, by simp⟩) ?_ ?_
 ·
  exact weak_scrub' rfl (zz3 trivial) trivial
 rintro ⟨k, hk, hg⟩
 dsimp only
 refine zH ?_; refine zM ?_; refine zM ?_; refine zE ?_; refine zB ?_; refine zN ?_
 refine zq ?_ ?_ <;> intro h6
 ·
  have hlt : k < (l).length := by simpa using h6
  obtain ⟨x, hx⟩ := get_lt hlt
  refine zW ?_; refine awp_seq ?_; refine awp_block ?_; refine zG ?_; refine zM ?_; refine zM ?_
  refine zP (q_elem rfl rfl rfl k rfl _ (map_get hx) rfl) ?_; refine zL ?_; refine zP (q_call (rValid2_fc x) rfl rfl rfl) ?_
  refine zP (q_not rfl rfl) ?_; refine zM ?_
  refine zc 18 ?_ ?_ <;> intro h9
  ·
   iterate 4 refine uK (w10 (m0 (n1 h9))) ?_
   iterate 7 refine zK ?_
   refine uK (w10 (m0 (n1 h9))) ?_; refine zh1 (m0 (n1 h9)) ?_; refine zN ?_; refine c_true rfl rfl ?_; refine zG ?_; refine zS ?_; refine zQ ?_
   exact retB (by rw [allowedB, all_no hg hx (by simp_all [okName])]; simp)
  refine uM (w00 (m1 (n0 h9))) ?_; refine uE (w00 (m1 (n0 h9))) ?_; refine uP (w00 (m1 (n0 h9))) (q_bin rfl rfl rfl) ?_
  refine uM (w00 (m1 (n0 h9))) ?_
  refine zc 22 ?_ ?_ <;> intro h11
  ·
   refine uM (w11 h11) ?_; refine uM (w11 h11) ?_; refine uM (w11 h11) ?_; refine uP (w11 h11) (q_elem rfl rfl rfl k rfl _ (map_get hx) rfl) ?_
   refine uL (w11 h11) ?_; refine uP (w11 h11) (q_call (rHas_fc only x) rfl rfl rfl) ?_; refine uP (w11 h11) (q_not rfl rfl) ?_
   refine uP (w00 (m1 (n0 h9))) (q_pick1 rfl rfl h11 rfl) ?_; refine zh0 (m1 (n0 h9)) ?_; refine zN ?_
   refine zq ?_ ?_ <;> intro h14
   ·
    refine zG ?_; refine zS ?_; refine zQ ?_
    exact retB (by rw [allowedB, all_no hg hx (by simp_all [okName])]; simp)
   refine awp_skip ?_; change AWP _ _ _ _  _; refine awp_region ?_; refine zM ?_; refine zP (q_addi rfl rfl rfl (by omega)) ?_; refine zS ?_
   refine aops_nil ?_
   exact ⟨⟨k + 1, hlt, all_go hg hx (by simp_all [okName])⟩, weak_scrub' rfl (zz2 ⟨(cgI (by dsimp only; omega)), rfl, trivial⟩) trivial, by dsimp only; omega⟩
  iterate 7 refine uK (w01 h11) ?_
  refine uP (w00 (m1 (n0 h9))) (q_pick0 rfl rfl h11 rfl) ?_; refine zh0 (m1 (n0 h9)) ?_; refine zN ?_; refine c_false rfl rfl ?_; refine awp_skip ?_
  change AWP _ _ _ _  _; refine awp_region ?_; refine zM ?_; refine zP (q_addi rfl rfl rfl (by omega)) ?_; refine zS ?_; refine aops_nil ?_
  exact ⟨⟨k + 1, hlt, all_go hg hx (by simp_all [okName])⟩, weak_scrub' rfl (zz2 ⟨(cgI (by dsimp only; omega)), rfl, trivial⟩) trivial, by dsimp only; omega⟩
 have hge : (l).length ≤ k := by simpa using h6
 refine awp_exit ?_; change AWP _ _ _ _  _; refine zG ?_; refine zM ?_; refine zP (q_call (rSorted_fc l) rfl rfl rfl) ?_; refine zS ?_; refine zQ ?_
 exact retB (by rw [allowedB, all_end hg hge, Bool.and_true])
set_option maxRecDepth 100000 in
set_option maxHeartbeats 1000000 in
theorem rClosed_fc (rs : List Ru) (l : List Nm) (hi : ∀ r ∈ rs, r.i.length ≤ 1000000) : FC Tryz.prog 126 [rus rs, svs l] (bl (closedB rs l)) := by
 refine fc_of_awp [4] Tryz.func126 rfl rfl 29 Tryz.ntmps126 (Nat.le_of_ble_eq_true rfl) ?_
 intro E hN
 refine a_lm 0 rfl (fun hl0 => ?_)
 refine zG ?_; refine zT ?_; refine zH ?_; refine zT ?_; refine awp_block ?_
 refine awp_loop (fun x : {k : Nat // k ≤ (rs).length ∧ (rs.drop k).all (okRule l) = rs.all (okRule l)} => ⟨[(0, rus rs), (1, svs l), (5, i64 (x.1 : Nat))], [], 0⟩) (fun x => (rs).length - x.1) (⟨0, Nat.zero_le _, by simp⟩) ?_ ?_
 ·
  exact weak_scrub' rfl (zz3 trivial) trivial
 rintro ⟨k, hk, hg⟩
 dsimp only
 refine zH ?_; refine zM ?_; refine zM ?_; refine zE ?_; refine zB ?_; refine zN ?_
 refine zq ?_ ?_ <;> intro h6
 ·
  have hlt : k < (rs).length := by simpa using h6
  obtain ⟨x, hx⟩ := get_lt hlt
  refine zW ?_; refine awp_seq ?_; refine awp_block ?_; refine zG ?_; refine zM ?_; refine zM ?_
  refine zP (q_elem rfl rfl rfl k rfl _ (map_get hx) rfl) ?_; refine zF ?_; refine zL ?_; refine zM ?_
  refine zP (q_call (rSubset_fc x.i l (hi x (List.mem_of_getElem? hx))) rfl rfl rfl) ?_; refine zM ?_
  refine zc 19 ?_ ?_ <;> intro h10
  ·
   refine uM (w11 h10) ?_; refine uM (w11 h10) ?_; refine uM (w11 h10) ?_; refine uP (w11 h10) (q_elem rfl rfl rfl k rfl _ (map_get hx) rfl) ?_
   refine uF (w11 h10) ?_; refine uL (w11 h10) ?_; refine uP (w11 h10) (q_call (rHas_fc l x.t) rfl rfl rfl) ?_; refine uP (w11 h10) (q_not rfl rfl) ?_
   refine zh1 h10 ?_; refine zN ?_
   refine zq ?_ ?_ <;> intro h14
   ·
    refine zG ?_; refine zS ?_; refine zQ ?_
    exact retB (all_no hg hx (by simp_all [okRule])).symm
   refine awp_skip ?_; change AWP _ _ _ _  _; refine awp_region ?_; refine zM ?_; refine zP (q_addi rfl rfl rfl (by omega)) ?_; refine zS ?_
   refine aops_nil ?_
   exact ⟨⟨k + 1, hlt, all_go hg hx (by simp_all [okRule])⟩, weak_scrub' rfl (zz2 ⟨(cgI (by dsimp only; omega)), rfl, trivial⟩) trivial, by dsimp only; omega⟩
  iterate 8 refine uK (w01 h10) ?_
  refine zh0 h10 ?_; refine zN ?_; refine c_false rfl rfl ?_; refine awp_skip ?_; change AWP _ _ _ _  _; refine awp_region ?_; refine zM ?_
  refine zP (q_addi rfl rfl rfl (by omega)) ?_; refine zS ?_; refine aops_nil ?_
  exact ⟨⟨k + 1, hlt, all_go hg hx (by simp_all [okRule])⟩, weak_scrub' rfl (zz2 ⟨(cgI (by dsimp only; omega)), rfl, trivial⟩) trivial, by dsimp only; omega⟩
 have hge : (rs).length ≤ k := by simpa using h6
 refine awp_exit ?_; change AWP _ _ _ _  _; refine zG ?_; refine zS ?_; refine zQ ?_
 exact retB (all_end hg hge).symm
set_option maxRecDepth 100000 in
set_option maxHeartbeats 1000000 in
theorem rEntries_fc (l : List En) : FC Tryz.prog 125 [ens l] (bl (regB l)) := by
 refine fc_of_awp [2] Tryz.func125 rfl rfl 68 Tryz.ntmps125 (Nat.le_of_ble_eq_true rfl) ?_
 intro E hN
 refine a_lm 0 rfl (fun hl0 => ?_)
 rw [← regR_eq l]
 refine zG ?_; refine zT ?_; refine zH ?_; refine zT ?_; refine awp_block ?_
 refine awp_loop (fun x : {k : Nat // k ≤ (l).length ∧ (l.zipIdx.drop k).all (regRP l) = l.zipIdx.all (regRP l)} => ⟨[(0, ens l), (3, i64 (x.1 : Nat))], [], 0⟩) (fun x => (l).length - x.1) (⟨0, Nat.zero_le _, by simp⟩) ?_ ?_
 ·
  exact weak_scrub' rfl (zz2 trivial) trivial
 rintro ⟨k, hk, hg⟩
 dsimp only
 refine zH ?_; refine zM ?_; refine zM ?_; refine zE ?_; refine zB ?_; refine zN ?_
 refine zq ?_ ?_ <;> intro h5
 ·
  have hlt : k < (l).length := by simpa using h5
  obtain ⟨x, hx⟩ := get_lt hlt
  refine zW ?_; refine awp_seq ?_; refine awp_block ?_; refine zH ?_; refine zM ?_; refine zM ?_
  refine zP (q_elem rfl rfl rfl k rfl _ (map_get hx) rfl) ?_; refine zF ?_; refine zL ?_; refine zE ?_; refine zB ?_; refine zM ?_
  refine zc 18 ?_ ?_ <;> intro h10
  ·
   iterate 7 refine uK (w10 h10) ?_
   refine zh1 h10 ?_; refine zM ?_
   iterate 7 refine zK ?_
   refine zh1 rfl ?_; refine zN ?_; refine c_true rfl rfl ?_; refine zG ?_; refine zS ?_; refine zQ ?_
   exact retB (all_no hg (zipE_get hx) (by unfold regRP; simp_all)).symm
  refine uM (w00 h10) ?_; refine uM (w00 h10) ?_; refine uP (w00 h10) (q_elem rfl rfl rfl k rfl _ (map_get hx) rfl) ?_; refine uF (w00 h10) ?_
  refine uL (w00 h10) ?_; refine uP (w00 h10) (q_call (rvalidC_fc _) rfl rfl rfl) ?_; refine uP (w00 h10) (q_not rfl rfl) ?_; refine zh0 h10 ?_
  refine zM ?_
  refine zc 27 ?_ ?_ <;> intro h14
  ·
   iterate 7 refine uK (w10 (m0 (n1 h14))) ?_
   refine zh1 (m0 (n1 h14)) ?_; refine zN ?_; refine c_true rfl rfl ?_; refine zG ?_; refine zS ?_; refine zQ ?_
   exact retB (all_no hg (zipE_get hx) (by unfold regRP; simp_all)).symm
  refine uM (w00 (m1 (n0 h14))) ?_; refine uM (w00 (m1 (n0 h14))) ?_; refine uP (w00 (m1 (n0 h14))) (q_elem rfl rfl rfl k rfl _ (map_get hx) rfl) ?_
  refine uF (w00 (m1 (n0 h14))) ?_; refine uL (w00 (m1 (n0 h14))) ?_; refine uP (w00 (m1 (n0 h14))) (q_call (rValid2_fc _) rfl rfl rfl) ?_
  refine uP (w00 (m1 (n0 h14))) (q_not rfl rfl) ?_; refine zh0 (m1 (n0 h14)) ?_; refine zN ?_
  refine zq ?_ ?_ <;> intro h18
  ·
   refine zG ?_; refine zS ?_; refine zQ ?_
   exact retB (all_no hg (zipE_get hx) (by unfold regRP; simp_all)).symm
  refine zW ?_; refine awp_seq ?_; refine awp_seq ?_; refine awp_draw 14 (by kernel_rfl) (by kernel_rfl) ?_; refine zm ?_
  refine zp (q_bin rfl rfl rfl) ?_; refine zm ?_
  refine zd 38 ?_ ?_ <;> intro h19
  ·
   have hk0 : 0 < k := by simpa using h19
   obtain ⟨y, hy⟩ := get_lt (show k - 1 < l.length by omega)
   refine vP (w11 h19) (q_move rfl rfl) ?_; refine vP (w11 h19) (q_move rfl rfl) ?_; refine vP (w11 h19) (q_subi rfl rfl rfl (by omega)) ?_
   refine vP (w11 h19) (q_elem rfl rfl rfl (k - 1) (by omega) _ (map_get hy) rfl) ?_; refine vP (w11 h19) (q_load rfl rfl rfl rfl rfl) ?_
   refine vP (w11 h19) (q_move rfl rfl) ?_; refine vP (w11 h19) (q_move rfl rfl) ?_
   refine vP (w11 h19) (q_elem rfl rfl rfl k rfl _ (map_get hx) rfl) ?_; refine vP (w11 h19) (q_load rfl rfl rfl rfl rfl) ?_
   refine vP (w11 h19) (q_call (rcmpEn_fc y x) rfl rfl rfl) ?_; refine vP (w11 h19) (q_bin rfl rfl rfl) ?_; change AOps _ _ _ _ _ _; refine zh1 h19 ?_
   refine zN ?_
   refine zq ?_ ?_ <;> intro h26
   ·
    refine zG ?_; refine zS ?_; refine zQ ?_
    exact retB (all_no hg (zipE_get hx) (by unfold regRP; simp_all)).symm
   refine zW ?_; refine zG ?_; refine zT ?_; refine awp_block ?_
   refine awp_loop (fun x1 : {j : Nat // j ≤ l.length ∧ (l.drop j).all (fun f => !belowN x.1 f.1) = l.all (fun f => !belowN x.1 f.1)} => ⟨[(0, ens l), (3, i64 (k : Nat)), (4, i64 (x1.1 : Nat))], [], 0⟩) (fun x1 => l.length - x1.1) (⟨0, Nat.zero_le _, by simp⟩) ?_ ?_
   ·
    exact weak_scrub' rfl (zz3 trivial) trivial
   rintro ⟨j, hj, hgj⟩
   dsimp only
   refine zH ?_; refine zM ?_; refine zM ?_; refine zE ?_; refine zB ?_; refine zN ?_
   refine zq ?_ ?_ <;> intro h31
   ·
    have hltj : j < l.length := by simpa using h31
    obtain ⟨y2, hy2⟩ := get_lt hltj
    refine zW ?_; refine awp_seq ?_; refine awp_block ?_; refine awp_seq ?_; refine awp_draw 10 (by kernel_rfl) (by kernel_rfl) ?_; refine zm ?_
    refine zm ?_; refine zp (q_elem rfl rfl rfl k rfl _ (map_get hx) rfl) ?_; refine zf ?_; refine zl ?_; refine zm ?_; refine zm ?_
    refine zp (q_elem rfl rfl rfl j rfl _ (map_get hy2) rfl) ?_; refine zf ?_; refine zl ?_; change AOps _ _ _ _ _ _
    refine zP (q_call (rbelow_fc _ _) rfl rfl rfl) ?_; refine zN ?_
    refine zq ?_ ?_ <;> intro h38
    ·
     refine zG ?_; refine zS ?_; refine zQ ?_
     exact retB (all_no hg (zipE_get hx) (by unfold regRP; rw [all_no hgj hy2 (by simp_all)]; simp)).symm
    refine awp_skip ?_; change AWP _ _ _ _  _; refine awp_region ?_; refine zM ?_; refine zP (q_addi rfl rfl rfl (by omega)) ?_; refine zS ?_
    refine aops_nil ?_
    exact ⟨⟨j + 1, hltj, all_go hgj hy2 (by simp_all)⟩, weak_scrub' rfl (zz2 ⟨(cgI (by dsimp only; omega)), rfl, trivial⟩) trivial, by dsimp only; omega⟩
   have hgej : l.length ≤ j := by simpa using h31
   have hA := all_end hgj hgej
   refine awp_exit ?_; change AWP _ _ _ _  _; refine awp_region ?_; refine zM ?_; refine zP (q_addi rfl rfl rfl (by omega)) ?_; refine zS ?_
   refine aops_nil ?_
   exact ⟨⟨k + 1, hlt, all_go hg (zipE_get hx) (by unfold regRP; rw [hA]; simp_all)⟩, weak_scrub' rfl (zz1 ⟨(cgI (by dsimp only; omega)), rfl, trivial⟩) trivial, by dsimp only; omega⟩
  iterate 11 refine vK (w01 h19) ?_
  change AOps _ _ _ _ _ _; refine zh0 h19 ?_; refine zN ?_; refine c_false rfl rfl ?_; refine zW ?_; refine zG ?_; refine zT ?_; refine awp_block ?_
  refine awp_loop (fun x1 : {j : Nat // j ≤ l.length ∧ (l.drop j).all (fun f => !belowN x.1 f.1) = l.all (fun f => !belowN x.1 f.1)} => ⟨[(0, ens l), (3, i64 (k : Nat)), (4, i64 (x1.1 : Nat))], [], 0⟩) (fun x1 => l.length - x1.1) (⟨0, Nat.zero_le _, by simp⟩) ?_ ?_
  ·
   exact weak_scrub' rfl (zz3 trivial) trivial
  rintro ⟨j, hj, hgj⟩
  dsimp only
  refine zH ?_; refine zM ?_; refine zM ?_; refine zE ?_; refine zB ?_; refine zN ?_
  refine zq ?_ ?_ <;> intro h45
  ·
   have hltj : j < l.length := by simpa using h45
   obtain ⟨y2, hy2⟩ := get_lt hltj
   refine zW ?_; refine awp_seq ?_; refine awp_block ?_; refine awp_seq ?_; refine awp_draw 10 (by kernel_rfl) (by kernel_rfl) ?_; refine zm ?_
   refine zm ?_; refine zp (q_elem rfl rfl rfl k rfl _ (map_get hx) rfl) ?_; refine zf ?_; refine zl ?_; refine zm ?_; refine zm ?_
   refine zp (q_elem rfl rfl rfl j rfl _ (map_get hy2) rfl) ?_; refine zf ?_; refine zl ?_; change AOps _ _ _ _ _ _
   refine zP (q_call (rbelow_fc _ _) rfl rfl rfl) ?_; refine zN ?_
   refine zq ?_ ?_ <;> intro h52
   ·
    refine zG ?_; refine zS ?_; refine zQ ?_
    exact retB (all_no hg (zipE_get hx) (by unfold regRP; rw [all_no hgj hy2 (by simp_all)]; simp)).symm
   refine awp_skip ?_; change AWP _ _ _ _  _; refine awp_region ?_; refine zM ?_; refine zP (q_addi rfl rfl rfl (by omega)) ?_; refine zS ?_
   refine aops_nil ?_
   exact ⟨⟨j + 1, hltj, all_go hgj hy2 (by simp_all)⟩, weak_scrub' rfl (zz2 ⟨(cgI (by dsimp only; omega)), rfl, trivial⟩) trivial, by dsimp only; omega⟩
  have hgej : l.length ≤ j := by simpa using h45
  have hA := all_end hgj hgej
  refine awp_exit ?_; change AWP _ _ _ _  _; refine awp_region ?_; refine zM ?_; refine zP (q_addi rfl rfl rfl (by omega)) ?_; refine zS ?_
  refine aops_nil ?_
  exact ⟨⟨k + 1, hlt, all_go hg (zipE_get hx) (by unfold regRP; rw [hA]; simp_all)⟩, weak_scrub' rfl (zz1 ⟨(cgI (by dsimp only; omega)), rfl, trivial⟩) trivial, by dsimp only; omega⟩
 have hge : (l).length ≤ k := by simpa using h5
 refine awp_exit ?_; change AWP _ _ _ _  _; refine zG ?_; refine zS ?_; refine zQ ?_
 exact retB (all_end hg (by rw [zipE_len]; exact hge)).symm
set_option maxRecDepth 100000 in
set_option maxHeartbeats 1000000 in
theorem least_s (l : Lat) (hp : l.ps.length ≤ 64) (ih : ∀ p ∈ l.ps, FC Tryz.prog 127 [.agg (latL p)] (.agg (valL (bottomV p)))) : FC Tryz.prog 127 [.agg (latL l)] (.agg (valL (bottomV l))) := by
 refine fc_of_awpR [.c 2 26 4 true] ⟨⟨inferInstance, rfl⟩, trivial⟩ Tryz.func127 rfl rfl 40 Tryz.ntmps127 (Nat.le_of_ble_eq_true rfl) ?_
 intro E hN
 refine zG ?_; refine zX ?_; refine zO ?_; refine zA ?_; refine zP (q_build rfl rfl rfl) ?_; refine zO ?_; refine zC ?_; refine zN ?_; refine zH ?_
 refine zF ?_; refine zL ?_; refine zN ?_; refine awp_block ?_; refine zG ?_; refine zB ?_; refine zT ?_
 refine zq ?_ ?_ <;> intro h9
 ·
  refine awp_region ?_; refine zF ?_; refine zL ?_; refine zF ?_; refine zC ?_; refine aops_nil ?_; change AWP _ _ _ _  _; refine zG ?_; refine zL ?_
  refine zC ?_; refine zN ?_; refine awp_ret ?_
  change (resY _ _).bind AV.fzt = some _
  refine ret_r rfl ?_
  rw [bottomV_eq]
  refine agg4 (retI ?_) rfl ?_ rfl
  ·simp_all [Val.N]
  first | (simp_all [Val.ps]; done) | (refine retL ?_; simp_all [Val.ps, List.take_of_length_le])
 refine zG ?_; refine zB ?_; refine zT ?_
 refine zq ?_ ?_ <;> intro h16
 ·
  refine awp_region ?_; refine zF ?_; refine zL ?_; refine zF ?_; refine zC ?_; refine aops_nil ?_; change AWP _ _ _ _  _; refine zG ?_; refine zL ?_
  refine zC ?_; refine zN ?_; refine awp_ret ?_
  change (resY _ _).bind AV.fzt = some _
  refine ret_r rfl ?_
  rw [bottomV_eq]
  refine agg4 (retI ?_) rfl ?_ rfl
  ·simp_all [Val.N]
  first | (simp_all [Val.ps]; done) | (refine retL ?_; simp_all [Val.ps, List.take_of_length_le])
 refine zH ?_; refine zB ?_; refine zT ?_
 refine zq ?_ ?_ <;> intro h23
 ·
  refine zW ?_; refine c_true rfl h23 ?_; refine zG ?_; refine zT ?_; refine awp_block ?_
  refine awp_weak (weak_tokc rfl 2 2 26 4 rfl rfl rfl) ?_
  refine awp_loop (fun x : {k : Nat // k ≤ (l.ps).length ∧ True} => ⟨[(1, .ptr 0 0), (2, .ptr 1 0), (3, .ptr 2 0), (4, i64 (x.1 : Nat))], [(0, .var 46 (latL l)), (1, .var 26 [i64 0, .p (.slice none 0 0), .p (.slice none 0 0), .p (.slice none 0 0)]), (2, .var 26 [i64 0, .p (.slice none 0 0), .sl (((l.ps.take x.1).map bottomV).map valC) (some 3), .p (.slice none 0 0)]), (3, .tok 26 4 ((l.ps.take x.1).map bottomV).length)], 4⟩) (fun x => (l.ps).length - x.1) (⟨0, Nat.zero_le _, by simp⟩) ?_ ?_
  ·
   exact weak_scrub' rfl (zz4 trivial) ⟨rfl, rfl, rfl, rfl, rfl, rfl, rfl, rfl, rfl, rfl, rfl, rfl, trivial⟩
  rintro ⟨k, hk, hg⟩
  dsimp only
  refine zH ?_; refine zM ?_; refine zF ?_; refine zL ?_; refine zE ?_; refine zB ?_; refine zN ?_
  refine zq ?_ ?_ <;> intro h31
  ·
   have hlt : k < (l.ps).length := by simpa using h31
   obtain ⟨x, hx⟩ := get_lt hlt
   refine zW ?_; refine awp_seq ?_; refine awp_block ?_; refine awp_draw 9 (by kernel_rfl) (by kernel_rfl) ?_; refine zf ?_; refine zl ?_; refine zf ?_
   refine zl ?_; refine zm ?_; refine zp (q_elem rfl rfl rfl k rfl _ (lat_get hx) rfl) ?_; refine zl ?_
   refine zp (q_call (ih x (List.mem_of_getElem? hx)) rfl rfl rfl) ?_; refine zp (q_bslice rfl rfl rfl rfl (by exact rfl) (by decide) (by decide)) ?_
   change AOps _ _ _ _ _ _
   refine s_append_tok hN rfl rfl rfl (by simp) rfl rfl (all_okE okE_val _) rfl (by simp [chunk_4]; omega) rfl rfl rfl rfl ?_
   refine zF ?_; refine zC ?_; refine aops_nil ?_; change AWP _ _ _ _  _; refine awp_region ?_; refine zM ?_
   refine zP (q_addi rfl rfl rfl (by omega)) ?_; refine zS ?_; refine aops_nil ?_
   exact ⟨⟨k + 1, hlt, trivial⟩, weak_scrub' rfl (zz3 ⟨(cgI (by dsimp only; omega)), rfl, trivial⟩) ⟨rfl, rfl, rfl, rfl, rfl, rfl, (cgV (bot_step hx)), rfl, rfl, (cgT (by simp [chunk_4]; omega)), rfl, rfl, trivial⟩, by dsimp only; omega⟩
  have hge : (l.ps).length ≤ k := by simpa using h31
  refine awp_exit ?_; change AWP _ _ _ _  _; refine zG ?_; refine zL ?_; refine zC ?_; refine zN ?_; refine awp_ret ?_
  change (resY _ _).bind AV.fzt = some _
  refine ret_r rfl ?_
  rw [bottomV_eq]
  refine agg4 (retI ?_) rfl ?_ rfl
  ·simp_all [Val.N]
  first | (simp_all [Val.ps]; done) | (refine retL ?_; simp_all [Val.ps, List.take_of_length_le])
 refine awp_region ?_; refine zB ?_; refine zT ?_
 refine zq ?_ ?_ <;> intro h46
 ·
  refine zG ?_; refine zT ?_; refine awp_block ?_; refine awp_weak (weak_tokc rfl 2 2 26 4 rfl rfl rfl) ?_
  refine awp_loop (fun x : {k : Nat // k ≤ (l.ps).length ∧ True} => ⟨[(1, .ptr 0 0), (2, .ptr 1 0), (3, .ptr 2 0), (4, i64 (x.1 : Nat))], [(0, .var 46 (latL l)), (1, .var 26 [i64 0, .p (.slice none 0 0), .p (.slice none 0 0), .p (.slice none 0 0)]), (2, .var 26 [i64 0, .p (.slice none 0 0), .sl (((l.ps.take x.1).map bottomV).map valC) (some 3), .p (.slice none 0 0)]), (3, .tok 26 4 ((l.ps.take x.1).map bottomV).length)], 4⟩) (fun x => (l.ps).length - x.1) (⟨0, Nat.zero_le _, by simp⟩) ?_ ?_
  ·
   exact weak_scrub' rfl (zz4 trivial) ⟨rfl, rfl, rfl, rfl, rfl, rfl, rfl, rfl, rfl, rfl, rfl, rfl, trivial⟩
  rintro ⟨k, hk, hg⟩
  dsimp only
  refine zH ?_; refine zM ?_; refine zF ?_; refine zL ?_; refine zE ?_; refine zB ?_; refine zN ?_
  refine zq ?_ ?_ <;> intro h54
  ·
   have hlt : k < (l.ps).length := by simpa using h54
   obtain ⟨x, hx⟩ := get_lt hlt
   refine zW ?_; refine awp_seq ?_; refine awp_block ?_; refine awp_draw 9 (by kernel_rfl) (by kernel_rfl) ?_; refine zf ?_; refine zl ?_; refine zf ?_
   refine zl ?_; refine zm ?_; refine zp (q_elem rfl rfl rfl k rfl _ (lat_get hx) rfl) ?_; refine zl ?_
   refine zp (q_call (ih x (List.mem_of_getElem? hx)) rfl rfl rfl) ?_; refine zp (q_bslice rfl rfl rfl rfl (by exact rfl) (by decide) (by decide)) ?_
   change AOps _ _ _ _ _ _
   refine s_append_tok hN rfl rfl rfl (by simp) rfl rfl (all_okE okE_val _) rfl (by simp [chunk_4]; omega) rfl rfl rfl rfl ?_
   refine zF ?_; refine zC ?_; refine aops_nil ?_; change AWP _ _ _ _  _; refine awp_region ?_; refine zM ?_
   refine zP (q_addi rfl rfl rfl (by omega)) ?_; refine zS ?_; refine aops_nil ?_
   exact ⟨⟨k + 1, hlt, trivial⟩, weak_scrub' rfl (zz3 ⟨(cgI (by dsimp only; omega)), rfl, trivial⟩) ⟨rfl, rfl, rfl, rfl, rfl, rfl, (cgV (bot_step hx)), rfl, rfl, (cgT (by simp [chunk_4]; omega)), rfl, rfl, trivial⟩, by dsimp only; omega⟩
  have hge : (l.ps).length ≤ k := by simpa using h54
  refine awp_exit ?_; change AWP _ _ _ _  _; refine zG ?_; refine zL ?_; refine zC ?_; refine zN ?_; refine awp_ret ?_
  change (resY _ _).bind AV.fzt = some _
  refine ret_r rfl ?_
  rw [bottomV_eq]
  refine agg4 (retI ?_) rfl ?_ rfl
  ·simp_all [Val.N]
  first | (simp_all [Val.ps]; done) | (refine retL ?_; simp_all [Val.ps, List.take_of_length_le])
 refine awp_skip ?_; change AWP _ _ _ _  _; refine zG ?_; refine zL ?_; refine zC ?_; refine zN ?_; refine awp_ret ?_
 change (resY _ _).bind AV.fzt = some _
 refine ret_r rfl ?_
 rw [bottomV_eq]
 refine agg4 (retI ?_) rfl ?_ rfl
 ·simp_all [Val.N]
 first | (simp_all [Val.ps]; done) | (refine retL ?_; simp_all [Val.ps, List.take_of_length_le])
theorem rleast_fc (l : Lat) (h : OkL l) : FC Tryz.prog 127 [.agg (latL l)] (.agg (valL (bottomV l))) := least_s l h.small (fun p hp => rleast_fc p (h.part p hp))
termination_by l
decreasing_by exact Lat.sizeOf_ps ‹_›
end Go.Proofs.YthldgioggjpnpaaGreat
