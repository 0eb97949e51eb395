/-
  The walk of the law ClosureStem: it returns true, whatever comes in.
-/
import Derived.Test.YthgplaledmccgaaW27
import Derived.Test.YthgplaledmccgaaW28
import Derived.Test.YthgplaledmccgaaLA
namespace Go.Proofs.Ythgplaledmccgaa
open Go.RowKit

set_option maxRecDepth 100000 in
set_option maxHeartbeats 4000000 in
theorem lawStem_any (vu vs : Value) (u : List Nm) (rs : List RuleN) (lim : Int) (w : World) (hu : RdS w vu u) (hum : ∀ x ∈ u, x.length ≤ maxLen) (hr : RdR w vs rs) :
    Calls Try.prog 11 #[vu, vs, .int .i64 lim] w fun e w' => e = .returned (.bool true) ∧ Ext w w' := by
  have HU := Lib.hid hu
  have HR := Lib.hid hr; clear hr
  have HUM := Lib.hid hum; clear hum
  obtain ⟨A, n, c, rfl, hln, -, hcm, -⟩ := hu
  unfold maxLen at hcm
  have HLN := Lib.hid hln; clear hln
  by_cases h8 : 8 < n
  · go_enter Try.func11, Try.ntmps11
    go_wp2_with (first | (go_at_call 15; refine (awake_any _).mono ?_; rintro e w1 ⟨rfl, hE1⟩; have HE1 := Lib.hid hE1; clear hE1))
    go_ret
    exact ⟨rfl, HE1.out⟩
  · cases hh : heavyB u rs with
    | true =>
      have HH := Lib.hid hh; clear hh
      go_enter Try.func11, Try.ntmps11
      go_wp2_with (first | (go_at_call 15; refine (awake_any _).mono ?_; rintro e w1 ⟨rfl, hE1⟩; have HE1 := Lib.hid hE1; clear hE1) | (go_at_call 16; refine (heavy_any _ _ u rs _ (HU.out.ext HE1.out) (HR.out.ext HE1.out)).mono ?_; rintro e w2 ⟨rfl, rfl⟩; rw [HH.out]))
      go_ret
      exact ⟨rfl, HE1.out⟩
    | false =>
      have HIU := Lib.hid (InU.of HU.out HUM.out hh)
      have HIR := Lib.hid (InR.of HR.out hh)
      have HH := Lib.hid hh; clear hh
      by_cases h0 : checkE u rs = 0
      · have H0 := Lib.hid h0; clear h0
        have hn8 : u.length ≤ 8 := by rw [HLN.out]; omega
        have HN8 := Lib.hid hn8; clear hn8
        have HST := Lib.hid (stem_eq H0.out)
        have HCT := Lib.hid (stem_count H0.out)
        have hsn : (subsetsN u).length ≤ 256 := by
          rw [subsetsN_len]
          exact Nat.le_trans (Nat.pow_le_pow_right (n := 2) (j := 8) (by decide) HN8.out) (by decide)
        have HLL : Hid ((allRef u rs).length ≤ 256) := Lib.hid (Nat.le_trans (List.length_filter_le _ _) hsn)
        have HLS : Hid ((stemR u rs).length ≤ 256) := Lib.hid (by unfold stemR; rw [List.length_map]; exact Nat.le_trans (List.length_filter_le _ _) hsn)
        clear hsn
        by_cases hl1 : lim < 1
        · go_enter Try.func11, Try.ntmps11
          go_wp2_with (first | (go_at_call 15; refine (awake_any _).mono ?_; rintro e w1 ⟨rfl, hE1⟩; have HE1 := Lib.hid hE1; clear hE1) | (go_at_call 16; refine (heavy_any _ _ u rs _ (HU.out.ext HE1.out) (HR.out.ext HE1.out)).mono ?_; rintro e w2 ⟨rfl, rfl⟩; rw [HH.out]) | (go_at_call 17; refine (refCheck_any _ _ u rs _ (HU.out.ext HE1.out) HUM.out (HR.out.ext HE1.out)).mono ?_; rintro e w3 ⟨rfl, hE3⟩; have HE3 := Lib.hid (HE1.out.trans hE3); clear hE3; rw [H0.out]) | (go_at_call 37; refine (stem_arg _ _ u rs lim _ (HIU.out.ext HE3.out) (HIR.out.ext HE3.out) H0.out hl1).mono ?_; rintro e w4 ⟨rfl, hE4⟩))
          go_ret
          exact ⟨rfl, HE3.out.trans hE4⟩
        · have hl1' : 1 ≤ lim := by omega
          go_enter Try.func11, Try.ntmps11
          go_wp2_with (first | (go_at_call 15; refine (awake_any _).mono ?_; rintro e w1 ⟨rfl, hE1⟩; have HE1 := Lib.hid hE1; clear hE1) | (go_at_call 16; refine (heavy_any _ _ u rs _ (HU.out.ext HE1.out) (HR.out.ext HE1.out)).mono ?_; rintro e w2 ⟨rfl, rfl⟩; rw [HH.out]) | (go_at_call 17; refine (refCheck_any _ _ u rs _ (HU.out.ext HE1.out) HUM.out (HR.out.ext HE1.out)).mono ?_; rintro e w3 ⟨rfl, hE3⟩; have HE3 := Lib.hid (HE1.out.trans hE3); clear hE3; rw [H0.out]))
          refine (stem_any _ _ u rs lim _ (HIU.out.ext HE3.out) (HIR.out.ext HE3.out) H0.out hl1' HN8.out).mono ?_
          unfold StemPost stemC stemN
          rintro e w4 (⟨hlt, rfl, hE4⟩ | ⟨hle, v4, rfl, hss4, hE4⟩)
          · rw [HCT.out] at hlt
            have HLT := Lib.hid hlt; clear hlt
            have HE4 := Lib.hid (HE3.out.trans hE4); clear hE4
            go_wp2_with (first | (go_at_call 38; refine (refStem_any _ _ u rs _ (HIU.out.ext HE4.out) (HIR.out.ext HE4.out) H0.out HN8.out).mono ?_; rintro e w5 ⟨v5, rfl, hs5, hE5⟩; obtain ⟨qs5, ⟨A5, n5, c5, rfl, hn5, hnc5, hcm5, hcell5⟩, h52, h53⟩ := hs5; have HN5 : Hid (n5 = (stemR u rs).length) := Lib.hid (by rw [← hn5, h52]); unfold maxLen at hcm5; have HC5 := Lib.hid hcell5; clear hcell5; have H53 := Lib.hid h53; clear h53; have H52 := Lib.hid h52; clear h52 hn5; have HE54 := Lib.hid hE5; have HE5 := Lib.hid (HE4.out.trans hE5); clear hE5) | (go_at_call 19; refine (refAll_any _ _ u rs _ (HU.out.ext HE5.out) (HR.out.ext HE5.out) (by have := HN8.out; omega)).mono ?_; rintro e w6 ⟨v6, rfl, hss6, hE6⟩; obtain ⟨qs6, h61, h62, -⟩ := hss6; obtain ⟨A6, n6, c6, rfl, hn6, -⟩ := h61.rd; have HN6 : Hid (n6 = (allRef u rs).length) := Lib.hid (by rw [← hn6, h62]); have hb6 : n6 ≤ 256 := (by rw [HN6.out]; exact HLL.out); have hb5 : n5 ≤ 256 := (by rw [HN5.out]; exact HLS.out); have hcmp : lim < (n6 : Int) + (n5 : Int) := (by have := HLT.out; have := HN5.out; have := HN6.out; omega); clear h61 h62 hn6; have HE65 := Lib.hid hE6; have HE6 := Lib.hid (HE5.out.trans hE6); clear hE6))
            go_ret
            exact ⟨rfl, HE6.out⟩
          · rw [HCT.out] at hle
            rw [show (nm2 u) = (fun f : PairB => (namesOf u f.1, namesOf u f.2)) from rfl, HST.out] at hss4
            have HLE := Lib.hid hle; clear hle
            have HE4 := Lib.hid (HE3.out.trans hE4); clear hE4
            obtain ⟨qs4, ⟨A4, n4, c4, rfl, hn4, hnc4, hcm4, hcell4⟩, h42, h43⟩ := hss4.rd
            clear hss4
            have hn4' : n4 = (stemR u rs).length := by rw [← hn4, h42]
            unfold maxLen at hcm4
            have HN4 := Lib.hid hn4'; clear hn4'
            have HC4 := Lib.hid hcell4; clear hcell4
            have H43 := Lib.hid h43; clear h43
            have H42 := Lib.hid h42; clear h42
            clear hn4
            go_wp2_with (first | (go_at_call 38; refine (refStem_any _ _ u rs _ (HIU.out.ext HE4.out) (HIR.out.ext HE4.out) H0.out HN8.out).mono ?_; rintro e w5 ⟨v5, rfl, hs5, hE5⟩; obtain ⟨qs5, ⟨A5, n5, c5, rfl, hn5, hnc5, hcm5, hcell5⟩, h52, h53⟩ := hs5; have HN5 : Hid (n5 = (stemR u rs).length) := Lib.hid (by rw [← hn5, h52]); unfold maxLen at hcm5; have HC5 := Lib.hid hcell5; clear hcell5; have H53 := Lib.hid h53; clear h53; have H52 := Lib.hid h52; clear h52 hn5; have HE54 := Lib.hid hE5; have HE5 := Lib.hid (HE4.out.trans hE5); clear hE5) | (go_at_call 19; refine (refAll_any _ _ u rs _ (HU.out.ext HE5.out) (HR.out.ext HE5.out) (by have := HN8.out; omega)).mono ?_; rintro e w6 ⟨v6, rfl, hss6, hE6⟩; obtain ⟨qs6, h61, h62, -⟩ := hss6; obtain ⟨A6, n6, c6, rfl, hn6, -⟩ := h61.rd; have HN6 : Hid (n6 = (allRef u rs).length) := Lib.hid (by rw [← hn6, h62]); have hb6 : n6 ≤ 256 := (by rw [HN6.out]; exact HLL.out); have hb5 : n5 ≤ 256 := (by rw [HN5.out]; exact HLS.out); have hcmp : (n6 : Int) + (n5 : Int) ≤ lim := (by have := HLE.out; have := HN5.out; have := HN6.out; omega); obtain rfl : n4 = n5 := (by rw [HN4.out, HN5.out]); clear h61 h62 hn6; have HE65 := Lib.hid hE6; have HE6 := Lib.hid (HE5.out.trans hE6); clear hE6))
            generalize hL : stemR u rs = L at *
            clear hL
            go_loopw [10] (fun i wr => ∃ k : Nat, k ≤ n4 ∧ i = .int .i64 k ∧ Ext w6 wr) (fun i _ => n4 - (intOf i).toNat)
            case atStart => exact ⟨0, Nat.zero_le _, rfl, Ext.refl _⟩
            case round =>
              obtain ⟨k, hk, rfl, hEr⟩ := hrel
              have HER := Lib.hid hEr; clear hEr
              by_cases hlt : k < n4
              · obtain ⟨b4, rfl, hb4, hcc4⟩ := HC4.out (by omega)
                obtain ⟨b5, rfl, hb5, hcc5⟩ := HC5.out (by omega)
                have hkL : k < L.length := by rw [← HN4.out]; exact hlt
                have hk4 : k < qs4.length := by rw [H42.out]; exact hkL
                have hk5 : k < qs5.length := by rw [H52.out]; exact hkL
                have hE46 := (HE54.out.trans HE65.out).trans HER.out
                have hE56 := HE65.out.trans HER.out
                obtain ⟨g41, g42⟩ := H43.out k _ _ (List.getElem?_eq_getElem hk4) (List.getElem?_eq_getElem hkL)
                obtain ⟨g51, g52⟩ := H53.out k _ _ (List.getElem?_eq_getElem hk5) (List.getElem?_eq_getElem hkL)
                obtain ⟨c41, c42⟩ := hcc4 k _ (List.getElem?_eq_getElem hk4)
                obtain ⟨c51, c52⟩ := hcc5 k _ (List.getElem?_eq_getElem hk5)
                have c41 := hE46.cell c41
                have c42 := hE46.cell c42
                have c51 := hE56.cell c51
                have c52 := hE56.cell c52
                have HR41 := Lib.hid (g41.ext hE46)
                have HR42 := Lib.hid (g42.ext hE46)
                have HR51 := Lib.hid (g51.ext hE56)
                have HR52 := Lib.hid (g52.ext hE56)
                clear hcc4 hcc5 hE46 hE56 g41 g42 g51 g52
                generalize qs4[k].1 = q41 at *
                generalize qs4[k].2 = q42 at *
                generalize qs5[k].1 = q51 at *
                generalize qs5[k].2 = q52 at *
                have hkI : (k : Int) < (n4 : Int) := by omega
                go_wp2_with (fail)
                go_quiet ((go_at_call 20; first | exact same_quiet _ _ L[k].1 L[k].1 _ _ true HR41.out HR51.out (decide_eq_true rfl) | exact same_quiet _ _ L[k].2 L[k].2 _ _ true HR42.out HR52.out (decide_eq_true rfl)))
                go_wp2_with (fail)
                go_roundw
                case rel => exact ⟨k + 1, by omega, by go_num, HER.out.drewN _⟩
                case measure => simp [intOf]; omega
              · go_wp2_with (fail)
                go_ret
                exact ⟨rfl, HE6.out.trans HER.out⟩
      · have hzb : (checkE u rs != 0) = true := by simpa using h0
        have H0 := Lib.hid h0; clear h0
        go_enter Try.func11, Try.ntmps11
        go_wp2_with (first | (go_at_call 15; refine (awake_any _).mono ?_; rintro e w1 ⟨rfl, hE1⟩; have HE1 := Lib.hid hE1; clear hE1) | (go_at_call 16; refine (heavy_any _ _ u rs _ (HU.out.ext HE1.out) (HR.out.ext HE1.out)).mono ?_; rintro e w2 ⟨rfl, rfl⟩; rw [HH.out]) | (go_at_call 17; refine (refCheck_any _ _ u rs _ (HU.out.ext HE1.out) HUM.out (HR.out.ext HE1.out)).mono ?_; rintro e w3 ⟨rfl, hE3⟩; have HE3 := Lib.hid (HE1.out.trans hE3); clear hE3))
        go_ret
        exact ⟨rfl, HE3.out⟩
end Go.Proofs.Ythgplaledmccgaa
