/-
  Contracts: join.leq, Leq at registers.
-/
import Derived.Test.YthldgioggjpnpaaGreatS21
namespace Go.Proofs.YthldgioggjpnpaaGreat
open Go.RowKit

set_option maxRecDepth 100000 in
set_option maxHeartbeats 2000000 in
theorem jleqR_any (va vb : Value) (Na Nb : Int) (n1 p1 n2 p2 : Nat) (a b : List En) (w : World) (ha : RdV w va Na n1 p1 a) (hb : RdV w vb Nb n2 p2 b) (ga : ∀ x ∈ a, validT x.1 = true) (gb : ∀ x ∈ b, validT x.1 = true) :
    Calls Tryz.prog 51 #[latR, va, vb] w fun e w' => e = .returned (.bool (coversB b a)) ∧ Ext w w' := by
  obtain ⟨A1, c1, A2, c2, ve, rfl, he⟩ := ha
  obtain ⟨B1, k1, B2, k2, vf, rfl, hf⟩ := hb
  obtain ⟨Af, nf, cf, rfl⟩ := hf.slice
  have HF := Lib.hid hf; clear hf
  have HE := Lib.hid he
  obtain ⟨Ae, n, ce, rfl, hl, hnc, hcm, -⟩ := he
  unfold maxLen at hcm
  have HL := Lib.hid hl; clear hl
  have HGA := Lib.hid ga; clear ga
  have HGB := Lib.hid gb; clear gb
  go_enter Tryz.func51, Tryz.ntmps51
  go_upto_region 1 with (fail)
  obtain ⟨wa, hwa⟩ : ∃ wa, wa = ((w.alloc (.cells latCells 46)).alloc (.cells #[.int .i64 Na, .slice A1 n1 c1, .slice A2 p1 c2, .slice Ae n ce] 26)).alloc (.cells #[.int .i64 Nb, .slice B1 n2 k1, .slice B2 p2 k2, .slice Af nf cf] 26) := ⟨_, rfl⟩
  have HEA : Hid (Ext w wa) := Lib.hid (by rw [hwa]; exact (((Ext.refl w).alloc _).alloc _).alloc _)
  have HB0 : Hid (Blk wa w.heap.size 46 latCells) := Lib.hid (by rw [hwa]; exact ((Blk.new w _ _).alloc _).alloc _)
  have HB1 : Hid (Blk wa (w.heap.size + 1) 26 #[.int .i64 Na, .slice A1 n1 c1, .slice A2 p1 c2, .slice Ae n ce]) := Lib.hid (by rw [hwa]; exact (Blk.new' _ _ _ _ (by simp)).alloc _)
  have HB2 : Hid (Blk wa (w.heap.size + 1 + 1) 26 #[.int .i64 Nb, .slice B1 n2 k1, .slice B2 p2 k2, .slice Af nf cf]) := Lib.hid (by rw [hwa]; exact Blk.new' _ _ _ _ (by simp))
  rw [← hwa]
  clear hwa
  generalize w.heap.size = G at *
  have g0 : wa.cell? ⟨G, 0, none⟩ = some (.int .i64 9) := HB0.out.cell 0
  have g3 : wa.cell? ⟨G + 1, 3, none⟩ = some (.slice Ae n ce) := HB1.out.cell 3
  have l0 := HB0.out.lt
  have l1 := HB1.out.lt
  go_wp2_with (fail)
  go_loopw [153] (fun i wr => ∃ k : Nat, k ≤ n ∧ i = .int .i64 k ∧ (a.take k).all (fun x => b.any (underE x)) = true ∧ Ext wa wr) (fun i _ => n - (intOf i).toNat)
  case atStart => exact ⟨0, Nat.zero_le _, rfl, by simp, Ext.refl _⟩
  case round =>
    clear g0 g3 l0 l1
    obtain ⟨k, hk, rfl, hall, hE⟩ := hrel
    have HALL := Lib.hid hall; clear hall
    have b3 : wr.cell? ⟨G + 1 + 1, 3, none⟩ = some (.slice Af nf cf) := hE.cell (HB2.out.cell 3)
    have l2 := World.block_lt_of_cell? _ _ b3
    have HEr := Lib.hid hE; clear hE
    by_cases hlt : k < n
    · obtain ⟨b1, o1, x, q, rfl, hb1, hx, d0, d1, hq, hnl⟩ := RdE.at_ (HE.out.ext (by repeat (first | exact Ext.refl _ | refine Ext.drew ?_ | refine Ext.drewN ?_ _ | refine Ext.alloc ?_ _ | refine Ext.trans ?_ (Hid.out (by assumption)))) : RdE wr _ _) hlt
      have HX := Lib.hid hx
      have hgx := HGA.out x (List.mem_of_getElem? hx)
      clear hx hnl
      have HC : Hid (∀ W, Ext wr W → Calls Tryz.prog 80 #[.agg #[q, encS x.2], .slice Af nf cf] W fun e w' => e = .returned (.bool (b.any (underE x))) ∧ Ext W w') := Lib.hid (fun W hW => jcovered_any q _ x b W (hq.ext hW) (HF.out.ext (HEA.out.trans (HEr.out.trans hW))) hgx HGB.out)
      obtain ⟨Aq, nq, cq, rfl⟩ := hq.slice
      clear hq hgx
      have hbw2 : b1 < (wr.alloc (.cells #[.slice none 0 0, .string ⟨#[]⟩] 64)).heap.size := by simp; omega
      cases hr : b.any (underE x) with
      | true =>
        rw [hr] at HC
        have HR := Lib.hid hr; clear hr
        go_wp2_with (go_at_call 80; refine (HC.out _ (by repeat (first | exact Ext.refl _ | refine Ext.drew ?_ | refine Ext.drewN ?_ _ | refine Ext.alloc ?_ _ | refine Ext.trans ?_ (Hid.out (by assumption))))).mono ?_; rintro e w5 ⟨rfl, hE5⟩; have HE5 := Lib.hid hE5; clear hE5)
        go_roundw
        case rel =>
          refine ⟨k + 1, by omega, by go_num, ?_, HEr.out.trans (((Ext.refl _).alloc _).trans HE5.out)⟩
          obtain ⟨hkl, hke⟩ := List.getElem?_eq_some_iff.1 HX.out
          rw [List.take_succ_eq_append_getElem hkl, hke, List.all_append, HALL.out]
          simp [HR.out]
        case measure => simp [intOf]; omega
      | false =>
        rw [hr] at HC
        have HR := Lib.hid hr; clear hr
        go_wp2_with (go_at_call 80; refine (HC.out _ (by repeat (first | exact Ext.refl _ | refine Ext.drew ?_ | refine Ext.drewN ?_ _ | refine Ext.alloc ?_ _ | refine Ext.trans ?_ (Hid.out (by assumption))))).mono ?_; rintro e w5 ⟨rfl, hE5⟩; have HE5 := Lib.hid hE5; clear hE5)
        go_ret
        refine ⟨ret_bool ?_, HEA.out.trans (HEr.out.trans (((Ext.refl _).alloc _).trans HE5.out))⟩
        symm
        unfold coversB
        rw [List.all_eq_false]
        exact ⟨x, List.mem_of_getElem? HX.out, by rw [HR.out]; simp⟩
    · go_wp2_with (fail)
      go_ret
      refine ⟨ret_bool ?_, HEA.out.trans HEr.out⟩
      have := HALL.out
      rw [List.take_of_length_le (by have := HL.out; omega)] at this
      exact this.symm

set_option maxRecDepth 100000 in
set_option maxHeartbeats 2000000 in
theorem jLeqR_any (va vb : Value) (Na Nb : Int) (n1 p1 n2 p2 : Nat) (a b : List En) (w : World) (ha : RdV w va Na n1 p1 a) (hb : RdV w vb Nb n2 p2 b) (oa : isReg Na n1 p1 a = true) (ob : isReg Nb n2 p2 b = true) :
    Calls Tryz.prog 32 #[latR, va, vb] w fun e w' => e = .returned (.bool (coversB b a)) ∧ Ext w w' := by
  have HLQ := Lib.hid (fun W (hW : Ext w W) => jleqR_any va vb Na Nb n1 p1 n2 p2 a b W (ha.ext hW) (hb.ext hW) (isReg_valid oa) (isReg_valid ob))
  obtain ⟨A1, c1, A2, c2, ve, rfl, he⟩ := ha
  obtain ⟨B1, k1, B2, k2, vf, rfl, hf⟩ := hb
  have HCK := Lib.hid (fun W (v : Value) (h : RdL W v [(Na, n1, p1, a), (Nb, n2, p2, b)]) => checkL_any v [(Na, n1, p1, a), (Nb, n2, p2, b)] W h (by simp [vrOk, oa, ob]))
  obtain ⟨Ae, ne, ce, rfl⟩ := he.slice
  obtain ⟨Af, nf, cf, rfl⟩ := hf.slice
  have HE := Lib.hid he; clear he
  have HF := Lib.hid hf; clear hf
  go_enter Tryz.func32, Tryz.ntmps32
  go_upto_region 1 with (fail)
  obtain ⟨wa, hwa⟩ : ∃ wa, wa = ((w.alloc (.cells latCells 46)).alloc (.cells #[.int .i64 Na, .slice A1 n1 c1, .slice A2 p1 c2, .slice Ae ne ce] 26)).alloc (.cells #[.int .i64 Nb, .slice B1 n2 k1, .slice B2 p2 k2, .slice Af nf cf] 26) := ⟨_, rfl⟩
  have HEA : Hid (Ext w wa) := Lib.hid (by rw [hwa]; exact (((Ext.refl w).alloc _).alloc _).alloc _)
  have HB0 : Hid (Blk wa w.heap.size 46 latCells) := Lib.hid (by rw [hwa]; exact ((Blk.new w _ _).alloc _).alloc _)
  have HB1 : Hid (Blk wa (w.heap.size + 1) 26 #[.int .i64 Na, .slice A1 n1 c1, .slice A2 p1 c2, .slice Ae ne ce]) := Lib.hid (by rw [hwa]; exact (Blk.new' _ _ _ _ (by simp)).alloc _)
  have HB2 : Hid (Blk wa (w.heap.size + 1 + 1) 26 #[.int .i64 Nb, .slice B1 n2 k1, .slice B2 p2 k2, .slice Af nf cf]) := Lib.hid (by rw [hwa]; exact Blk.new' _ _ _ _ (by simp))
  rw [← hwa]
  clear hwa
  generalize w.heap.size = G at *
  have HS : Hid (∀ W, Ext wa W → ((W.cell? ⟨G, 0, none⟩ = some (.int .i64 9) ∧ W.cell? ⟨G, 1, none⟩ = some (.int .i64 0) ∧ W.cell? ⟨G, 2, none⟩ = some (.int .i64 0) ∧ W.cell? ⟨G, 3, none⟩ = some nilS ∧ W.cell? ⟨G, 4, none⟩ = some nilS ∧ W.cell? ⟨G, 5, none⟩ = some nilS) ∧ (W.cell? ⟨G + 1, 0, none⟩ = some (.int .i64 Na) ∧ W.cell? ⟨G + 1, 1, none⟩ = some (.slice A1 n1 c1) ∧ W.cell? ⟨G + 1, 2, none⟩ = some (.slice A2 p1 c2) ∧ W.cell? ⟨G + 1, 3, none⟩ = some (.slice Ae ne ce)) ∧ (W.cell? ⟨G + 1 + 1, 0, none⟩ = some (.int .i64 Nb) ∧ W.cell? ⟨G + 1 + 1, 1, none⟩ = some (.slice B1 n2 k1) ∧ W.cell? ⟨G + 1 + 1, 2, none⟩ = some (.slice B2 p2 k2) ∧ W.cell? ⟨G + 1 + 1, 3, none⟩ = some (.slice Af nf cf)))) := Lib.hid (fun W hW => ⟨⟨hW.cell (HB0.out.cell 0), hW.cell (HB0.out.cell 1), hW.cell (HB0.out.cell 2), hW.cell (HB0.out.cell 3), hW.cell (HB0.out.cell 4), hW.cell (HB0.out.cell 5)⟩, ⟨hW.cell (HB1.out.cell 0), hW.cell (HB1.out.cell 1), hW.cell (HB1.out.cell 2), hW.cell (HB1.out.cell 3)⟩, ⟨hW.cell (HB2.out.cell 0), hW.cell (HB2.out.cell 1), hW.cell (HB2.out.cell 2), hW.cell (HB2.out.cell 3)⟩⟩)
  obtain ⟨⟨g0, g1, g2, g3, g4, g5⟩, ⟨a0, a1, a2, a3⟩, ⟨b0, b1, b2, b3⟩⟩ := HS.out wa (Ext.refl _)
  have l0 := HB0.out.lt
  have l1 := HB1.out.lt
  have l2 := HB2.out.lt
  have HN : Hid (Blk (wa.alloc (.cells #[.int .i64 Na, .slice A1 n1 c1, .slice A2 p1 c2, .slice Ae ne ce, .int .i64 Nb, .slice B1 n2 k1, .slice B2 p2 k2, .slice Af nf cf] 26)) wa.heap.size 26 #[.int .i64 Na, .slice A1 n1 c1, .slice A2 p1 c2, .slice Ae ne ce, .int .i64 Nb, .slice B1 n2 k1, .slice B2 p2 k2, .slice Af nf cf]) := Lib.hid (Blk.new _ _ _)
  have HJ2 := Lib.hid (HCK.out _ _ (RdL.two HN.out (HE.out.ext (HEA.out.alloc _)) (HF.out.ext (HEA.out.alloc _))))
  have HE5 : Hid (Ext wa (wa.alloc (.cells #[.int .i64 Na, .slice A1 n1 c1, .slice A2 p1 c2, .slice Ae ne ce, .int .i64 Nb, .slice B1 n2 k1, .slice B2 p2 k2, .slice Af nf cf] 26))) := Lib.hid ((Ext.refl wa).alloc _)
  go_wp2_with (first
    | (go_at_call 50; refine HJ2.out.mono ?_; rintro e w5 ⟨rfl, hE6⟩; obtain ⟨⟨g0, g1, g2, g3, g4, g5⟩, ⟨a0, a1, a2, a3⟩, ⟨b0, b1, b2, b3⟩⟩ := HS.out w5 (HE5.out.trans hE6); have l0 := World.block_lt_of_cell? _ _ g0; have l1 := World.block_lt_of_cell? _ _ a0; have l2 := World.block_lt_of_cell? _ _ b0; have HE6 := Lib.hid hE6; clear hE6)
    | (go_at_call 51; refine (HLQ.out _ (HEA.out.trans (HE5.out.trans HE6.out))).mono ?_; rintro e w7 ⟨rfl, hE7⟩; have HE7 := Lib.hid hE7; clear hE7))
  go_ret
  exact ⟨rfl, HEA.out.trans (HE5.out.trans (HE6.out.trans HE7.out))⟩
end Go.Proofs.YthldgioggjpnpaaGreat
