/-
  The walk of the law RegisterCovers: it returns true, whatever comes in.
-/
import Derived.Test.YthldgioggjpnpaaGreatS16
import Derived.Test.YthldgioggjpnpaaGreatLRA
namespace Go.Proofs.YthldgioggjpnpaaGreat
open Go.RowKit

set_option maxRecDepth 100000 in
set_option maxHeartbeats 4000000 in
theorem lawCovers_any (va vb : Value) (Na Nb : Int) (n1 p1 n2 p2 : Nat) (a b : List En) (w : World) (ha : RdV w va Na n1 p1 a) (hb : RdV w vb Nb n2 p2 b) :
    Calls Tryz.prog 5 #[va, vb] w fun e w' => e = .returned (.bool true) ∧ Ext w w' := by
  have HV := Lib.hid ha
  have HO := Lib.hid hb
  obtain ⟨A1, c1, A2, c2, ve, rfl, he⟩ := ha
  obtain ⟨B1, k1, B2, k2, vf, rfl, hf⟩ := hb
  obtain ⟨Ae, ne, ce, rfl⟩ := he.slice
  obtain ⟨Af, nf, cf, rfl⟩ := hf.slice
  clear he hf
  go_enter Tryz.func5, Tryz.ntmps5
  go_upto_region 1 with (fail)
  obtain ⟨wa, hwa⟩ : ∃ wa, wa = (w.alloc (.cells #[.int .i64 Na, .slice A1 n1 c1, .slice A2 p1 c2, .slice Ae ne ce] 26)).alloc (.cells #[.int .i64 Nb, .slice B1 n2 k1, .slice B2 p2 k2, .slice Af nf cf] 26) := ⟨_, rfl⟩
  have HEA : Hid (Ext w wa) := Lib.hid (by rw [hwa]; exact ((Ext.refl w).alloc _).alloc _)
  have HB1 : Hid (Blk wa w.heap.size 26 #[.int .i64 Na, .slice A1 n1 c1, .slice A2 p1 c2, .slice Ae ne ce]) := Lib.hid (by rw [hwa]; exact (Blk.new _ _ _).alloc _)
  have HB2 : Hid (Blk wa (w.heap.size + 1) 26 #[.int .i64 Nb, .slice B1 n2 k1, .slice B2 p2 k2, .slice Af nf cf]) := Lib.hid (by rw [hwa]; exact Blk.new' _ _ _ _ (by simp))
  rw [← hwa]
  clear hwa
  generalize w.heap.size = G at *
  have HS : Hid (∀ W, Ext wa W → (W.cell? ⟨G, 0, none⟩ = some (.int .i64 Na) ∧ W.cell? ⟨G, 1, none⟩ = some (.slice A1 n1 c1) ∧ W.cell? ⟨G, 2, none⟩ = some (.slice A2 p1 c2) ∧ W.cell? ⟨G, 3, none⟩ = some (.slice Ae ne ce) ∧ W.cell? ⟨G + 1, 0, none⟩ = some (.int .i64 Nb) ∧ W.cell? ⟨G + 1, 1, none⟩ = some (.slice B1 n2 k1) ∧ W.cell? ⟨G + 1, 2, none⟩ = some (.slice B2 p2 k2) ∧ W.cell? ⟨G + 1, 3, none⟩ = some (.slice Af nf cf))) := Lib.hid (fun W hW => ⟨hW.cell (HB1.out.cell 0), hW.cell (HB1.out.cell 1), hW.cell (HB1.out.cell 2), hW.cell (HB1.out.cell 3), hW.cell (HB2.out.cell 0), hW.cell (HB2.out.cell 1), hW.cell (HB2.out.cell 2), hW.cell (HB2.out.cell 3)⟩)
  go_upto_region 3 with (go_at_call 10; refine (awake_any _).mono ?_; rintro e w1 ⟨rfl, hE1⟩; obtain ⟨x0, x1, x2, x3, y0, y1, y2, y3⟩ := HS.out _ hE1; have lx := World.block_lt_of_cell? _ _ x0; have ly := World.block_lt_of_cell? _ _ y0; have HE1 := Lib.hid hE1; clear hE1)
  have TK1 : True := trivial
  obtain ⟨s, hs⟩ : ∃ s, isB (a.length ≤ 12 ∧ IsReg Na n1 p1 a) = s := ⟨_, rfl⟩
  cases s with
  | false =>
    have HSM := Lib.hid hs; clear hs
    go_wp2_with (go_at_call 17; refine (small_any _ Na n1 p1 a _ (HV.out.ext (by repeat (first | exact Ext.refl _ | refine Ext.drew ?_ | refine Ext.drewN ?_ _ | refine Ext.alloc ?_ _ | refine Ext.trans ?_ (Hid.out (by assumption)))))).mono ?_; rintro e w2 ⟨rfl, hE2⟩; rw [HSM.out]; have HE2 := Lib.hid hE2; clear hE2)
    go_ret
    exact ⟨rfl, (by repeat (first | exact Ext.refl _ | refine Ext.drew ?_ | refine Ext.drewN ?_ _ | refine Ext.alloc ?_ _ | refine Ext.trans ?_ (Hid.out (by assumption))))⟩
  | true =>
    obtain ⟨hle, -, hva⟩ := isReg_facts hs
    have HLA : Hid (a.length ≤ 1048576) := Lib.hid (by omega)
    have HGA := Lib.hid hva; clear hva hle
    have HSM := Lib.hid hs; clear hs
    obtain ⟨s, hs⟩ : ∃ s, isB (b.length ≤ 12 ∧ IsReg Nb n2 p2 b) = s := ⟨_, rfl⟩
    cases s with
    | false =>
      have HSN := Lib.hid hs; clear hs
      go_wp2_with (first
        | (go_at_call 17; clear TK1; refine (small_any _ Na n1 p1 a _ (HV.out.ext (by repeat (first | exact Ext.refl _ | refine Ext.drew ?_ | refine Ext.drewN ?_ _ | refine Ext.alloc ?_ _ | refine Ext.trans ?_ (Hid.out (by assumption)))))).mono ?_; rintro e w2 ⟨rfl, hE2⟩; rw [HSM.out]; have HE2 := Lib.hid hE2; obtain ⟨x0, x1, x2, x3, y0, y1, y2, y3⟩ := HS.out w2 (by repeat (first | exact Ext.refl _ | refine Ext.drew ?_ | refine Ext.drewN ?_ _ | refine Ext.alloc ?_ _ | refine Ext.trans ?_ (Hid.out (by assumption)))); have lx := World.block_lt_of_cell? _ _ x0; have ly := World.block_lt_of_cell? _ _ y0; clear hE2)
        | (go_at_call 17; refine (small_any _ Nb n2 p2 b _ (HO.out.ext (by repeat (first | exact Ext.refl _ | refine Ext.drew ?_ | refine Ext.drewN ?_ _ | refine Ext.alloc ?_ _ | refine Ext.trans ?_ (Hid.out (by assumption)))))).mono ?_; rintro e w3 ⟨rfl, hE3⟩; rw [HSN.out]; have HE3 := Lib.hid hE3; clear hE3))
      go_ret
      exact ⟨rfl, (by repeat (first | exact Ext.refl _ | refine Ext.drew ?_ | refine Ext.drewN ?_ _ | refine Ext.alloc ?_ _ | refine Ext.trans ?_ (Hid.out (by assumption))))⟩
    | true =>
      obtain ⟨hle, -, hva⟩ := isReg_facts hs
      have HLB : Hid (b.length ≤ 1048576) := Lib.hid (by omega)
      have HGB := Lib.hid hva; clear hva hle
      have HSN := Lib.hid hs; clear hs
      go_upto_region 5 with (first
        | (go_at_call 17; clear TK1; refine (small_any _ Na n1 p1 a _ (HV.out.ext (by repeat (first | exact Ext.refl _ | refine Ext.drew ?_ | refine Ext.drewN ?_ _ | refine Ext.alloc ?_ _ | refine Ext.trans ?_ (Hid.out (by assumption)))))).mono ?_; rintro e w2 ⟨rfl, hE2⟩; rw [HSM.out]; have HE2 := Lib.hid hE2; obtain ⟨x0, x1, x2, x3, y0, y1, y2, y3⟩ := HS.out w2 (by repeat (first | exact Ext.refl _ | refine Ext.drew ?_ | refine Ext.drewN ?_ _ | refine Ext.alloc ?_ _ | refine Ext.trans ?_ (Hid.out (by assumption)))); have lx := World.block_lt_of_cell? _ _ x0; have ly := World.block_lt_of_cell? _ _ y0; clear hE2)
        | (go_at_call 17; refine (small_any _ Nb n2 p2 b _ (HO.out.ext (by repeat (first | exact Ext.refl _ | refine Ext.drew ?_ | refine Ext.drewN ?_ _ | refine Ext.alloc ?_ _ | refine Ext.trans ?_ (Hid.out (by assumption)))))).mono ?_; rintro e w3 ⟨rfl, hE3⟩; rw [HSN.out]; have HE3 := Lib.hid hE3; obtain ⟨x0, x1, x2, x3, y0, y1, y2, y3⟩ := HS.out w3 (by repeat (first | exact Ext.refl _ | refine Ext.drew ?_ | refine Ext.drewN ?_ _ | refine Ext.alloc ?_ _ | refine Ext.trans ?_ (Hid.out (by assumption)))); have lx := World.block_lt_of_cell? _ _ x0; have ly := World.block_lt_of_cell? _ _ y0; clear hE3))
      have HSE : Hid (decide (sinceR a b = sinceW a b) = true) := Lib.hid (decide_eq_true (since_eq HGA.out HGB.out).symm)
      have HCE : Hid (coversW b a = coversB b a) := Lib.hid (covers_eq HGB.out HGA.out)
      obtain ⟨r, hr⟩ : ∃ r, coversB b a = r := ⟨_, rfl⟩
      rw [hr] at HCE
      have HCR := Lib.hid hr; clear hr
      have er : (r == r) = true := by simp
      go_region_held3 (fun W => W.cell? ⟨G, 0, none⟩ = some (.int .i64 Na) ∧ W.cell? ⟨G, 1, none⟩ = some (.slice A1 n1 c1) ∧ W.cell? ⟨G, 2, none⟩ = some (.slice A2 p1 c2) ∧ W.cell? ⟨G, 3, none⟩ = some (.slice Ae ne ce) ∧ W.cell? ⟨G + 1, 0, none⟩ = some (.int .i64 Nb) ∧ W.cell? ⟨G + 1, 1, none⟩ = some (.slice B1 n2 k1) ∧ W.cell? ⟨G + 1, 2, none⟩ = some (.slice B2 p2 k2) ∧ W.cell? ⟨G + 1, 3, none⟩ = some (.slice Af nf cf)) (first | exact HS.out _ (by repeat (first | exact Ext.refl _ | refine Ext.drew ?_ | refine Ext.drewN ?_ _ | refine Ext.alloc ?_ _ | refine Ext.trans ?_ (Hid.out (by assumption)))) | go_keep) (first
        | (go_at_call 23; refine (since_any _ _ Na Nb n1 p1 n2 p2 a b _ (HV.out.ext (by repeat (first | exact Ext.refl _ | refine Ext.drew ?_ | refine Ext.drewN ?_ _ | refine Ext.alloc ?_ _ | refine Ext.trans ?_ (Hid.out (by assumption))))) (HO.out.ext (by repeat (first | exact Ext.refl _ | refine Ext.drew ?_ | refine Ext.drewN ?_ _ | refine Ext.alloc ?_ _ | refine Ext.trans ?_ (Hid.out (by assumption))))) HGA.out HGB.out HLA.out).mono ?_; rintro e w4 ⟨u4, rfl, hr4, hE4⟩; have HR4 := Lib.hid hr4; have HE4 := Lib.hid hE4; clear hr4 hE4)
        | (go_at_call 24; refine (rsince13_any _ _ Na Nb n1 p1 n2 p2 a b _ (HV.out.ext (by repeat (first | exact Ext.refl _ | refine Ext.drew ?_ | refine Ext.drewN ?_ _ | refine Ext.alloc ?_ _ | refine Ext.trans ?_ (Hid.out (by assumption))))) (HO.out.ext (by repeat (first | exact Ext.refl _ | refine Ext.drew ?_ | refine Ext.drewN ?_ _ | refine Ext.alloc ?_ _ | refine Ext.trans ?_ (Hid.out (by assumption))))) HLA.out).mono ?_; rintro e w5 ⟨u5, rfl, hr5, hE5⟩; have HR5 := Lib.hid hr5; have HE5 := Lib.hid hE5; clear hr5 hE5)
        | (go_at_call 16; refine (requalE_any _ _ (sinceR a b) (sinceW a b) _ (HR4.out.ext (by repeat (first | exact Ext.refl _ | refine Ext.drew ?_ | refine Ext.drewN ?_ _ | refine Ext.alloc ?_ _ | refine Ext.trans ?_ (Hid.out (by assumption))))) (HR5.out.ext (by repeat (first | exact Ext.refl _ | refine Ext.drew ?_ | refine Ext.drewN ?_ _ | refine Ext.alloc ?_ _ | refine Ext.trans ?_ (Hid.out (by assumption)))))).mono ?_; rintro e w6 ⟨rfl, hE6⟩; rw [HSE.out]; have HE6 := Lib.hid hE6; clear hE6)
        | (go_at_call 25; refine (covers_any _ _ Nb Na n2 p2 n1 p1 b a _ (HO.out.ext (by repeat (first | exact Ext.refl _ | refine Ext.drew ?_ | refine Ext.drewN ?_ _ | refine Ext.alloc ?_ _ | refine Ext.trans ?_ (Hid.out (by assumption))))) (HV.out.ext (by repeat (first | exact Ext.refl _ | refine Ext.drew ?_ | refine Ext.drewN ?_ _ | refine Ext.alloc ?_ _ | refine Ext.trans ?_ (Hid.out (by assumption))))) HGB.out HGA.out).mono ?_; rintro e w7 ⟨rfl, hE7⟩; rw [HCR.out]; have HE7 := Lib.hid hE7; clear hE7)
        | (go_at_call 26; refine (rcovers13_any _ _ Nb Na n2 p2 n1 p1 b a _ (HO.out.ext (by repeat (first | exact Ext.refl _ | refine Ext.drew ?_ | refine Ext.drewN ?_ _ | refine Ext.alloc ?_ _ | refine Ext.trans ?_ (Hid.out (by assumption))))) (HV.out.ext (by repeat (first | exact Ext.refl _ | refine Ext.drew ?_ | refine Ext.drewN ?_ _ | refine Ext.alloc ?_ _ | refine Ext.trans ?_ (Hid.out (by assumption))))) HLA.out).mono ?_; rintro e w8 ⟨rfl, hE8⟩; rw [HCE.out]; have HE8 := Lib.hid hE8; clear hE8))
      all_goals
        go_wp2_with (fail)
        go_ret
        exact ⟨rfl, (by repeat (first | exact Ext.refl _ | refine Ext.drew ?_ | refine Ext.drewN ?_ _ | refine Ext.alloc ?_ _ | refine Ext.trans ?_ (Hid.out (by assumption))))⟩
end Go.Proofs.YthldgioggjpnpaaGreat
