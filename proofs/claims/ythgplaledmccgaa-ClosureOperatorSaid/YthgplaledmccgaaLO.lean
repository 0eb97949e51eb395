/-
  The walk of the law ClosureOperator: it returns true, whatever comes in.
-/
import Derived.Test.YthgplaledmccgaaSpec13
import Derived.Test.YthgplaledmccgaaW19
import Derived.Test.YthgplaledmccgaaLA
namespace Go.Proofs.Ythgplaledmccgaa
open Go.RowKit

set_option maxRecDepth 100000 in
set_option maxHeartbeats 8000000 in
theorem lawOperator_any (vu vs va vb : Value) (u : List Nm) (rs : List RuleN) (s0 s1 : List Nm) (w : World) (hu : RdS w vu u) (hum : ∀ x ∈ u, x.length ≤ maxLen) (hr : RdR w vs rs) (ha : RdS w va s0) (hb : RdS w vb s1) :
    Calls Try.prog 7 #[vu, vs, .agg #[va, vb]] w fun e w' => e = .returned (.bool true) ∧ Ext w w' := by
  have HU := Lib.hid hu; clear hu
  have HR := Lib.hid hr; clear hr
  have HUM := Lib.hid hum; clear hum
  have HV0 := Lib.hid ha
  have HV1 := Lib.hid hb
  obtain ⟨A0, n0, c0, rfl, hln0, -, hcm0, -⟩ := ha
  obtain ⟨A1, n1, c1, rfl, hln1, -, hcm1, -⟩ := hb
  unfold maxLen at hcm0 hcm1
  clear hln0 hln1
  cases hh : heavyB u rs with
  | true =>
    have HH := Lib.hid hh; clear hh
    go_enter Try.func7, Try.ntmps7
    go_upto_region 1 with (fail)
    have hc0 : (w.alloc (.cells #[.slice A0 n0 c0, .slice A1 n1 c1] 49)).cell? ⟨w.heap.size, 0, none⟩ = some (.slice A0 n0 c0) := (Blk.new _ _ _).cell 0
    have hc1 : (w.alloc (.cells #[.slice A0 n0 c0, .slice A1 n1 c1] 49)).cell? ⟨w.heap.size, 1, none⟩ = some (.slice A1 n1 c1) := (Blk.new _ _ _).cell 1
    have hEa : Ext w (w.alloc (.cells #[.slice A0 n0 c0, .slice A1 n1 c1] 49)) := (Ext.refl w).alloc _
    generalize w.alloc (.cells #[.slice A0 n0 c0, .slice A1 n1 c1] 49) = wa at *
    have HEA := Lib.hid hEa; clear hEa
    go_wp2_with (first | (go_at_call 15; refine (awake_any _).mono ?_; rintro e w1 ⟨rfl, hE1⟩; have hd0 := hE1.cell hc0; have hd1 := hE1.cell hc1; clear hc0 hc1; have HE1 := Lib.hid (HEA.out.trans hE1); clear hE1) | (go_at_call 16; refine (heavy_any _ _ u rs _ (HU.out.ext HE1.out) (HR.out.ext HE1.out)).mono ?_; rintro e w2 ⟨rfl, rfl⟩; rw [HH.out]))
    go_ret
    exact ⟨rfl, HE1.out⟩
  | false =>
    have HIU := Lib.hid (InU.of HU.out HUM.out hh)
    have HIR := Lib.hid (InR.of HR.out hh)
    have HLU : Hid (u.length ≤ 40) := Lib.hid (heavyB_no hh).1
    have HH := Lib.hid hh; clear hh
    by_cases hx : 41 < n0
    · have HX := Lib.hid hx
      go_enter Try.func7, Try.ntmps7
      go_upto_region 1 with (fail)
      have hc0 : (w.alloc (.cells #[.slice A0 n0 c0, .slice A1 n1 c1] 49)).cell? ⟨w.heap.size, 0, none⟩ = some (.slice A0 n0 c0) := (Blk.new _ _ _).cell 0
      have hc1 : (w.alloc (.cells #[.slice A0 n0 c0, .slice A1 n1 c1] 49)).cell? ⟨w.heap.size, 1, none⟩ = some (.slice A1 n1 c1) := (Blk.new _ _ _).cell 1
      have hEa : Ext w (w.alloc (.cells #[.slice A0 n0 c0, .slice A1 n1 c1] 49)) := (Ext.refl w).alloc _
      generalize w.alloc (.cells #[.slice A0 n0 c0, .slice A1 n1 c1] 49) = wa at *
      have HEA := Lib.hid hEa; clear hEa
      go_wp2_with (first | (go_at_call 15; refine (awake_any _).mono ?_; rintro e w1 ⟨rfl, hE1⟩; have hd0 := hE1.cell hc0; have hd1 := hE1.cell hc1; clear hc0 hc1; have HE1 := Lib.hid (HEA.out.trans hE1); clear hE1) | (go_at_call 16; refine (heavy_any _ _ u rs _ (HU.out.ext HE1.out) (HR.out.ext HE1.out)).mono ?_; rintro e w2 ⟨rfl, rfl⟩; rw [HH.out]))
      go_ret
      exact ⟨rfl, HE1.out⟩
    · by_cases hx1 : 41 < n1
      · have HX := Lib.hid hx
        go_enter Try.func7, Try.ntmps7
        go_upto_region 1 with (fail)
        have hc0 : (w.alloc (.cells #[.slice A0 n0 c0, .slice A1 n1 c1] 49)).cell? ⟨w.heap.size, 0, none⟩ = some (.slice A0 n0 c0) := (Blk.new _ _ _).cell 0
        have hc1 : (w.alloc (.cells #[.slice A0 n0 c0, .slice A1 n1 c1] 49)).cell? ⟨w.heap.size, 1, none⟩ = some (.slice A1 n1 c1) := (Blk.new _ _ _).cell 1
        have hEa : Ext w (w.alloc (.cells #[.slice A0 n0 c0, .slice A1 n1 c1] 49)) := (Ext.refl w).alloc _
        generalize w.alloc (.cells #[.slice A0 n0 c0, .slice A1 n1 c1] 49) = wa at *
        have HEA := Lib.hid hEa; clear hEa
        go_wp2_with (first | (go_at_call 15; refine (awake_any _).mono ?_; rintro e w1 ⟨rfl, hE1⟩; have hd0 := hE1.cell hc0; have hd1 := hE1.cell hc1; clear hc0 hc1; have HE1 := Lib.hid (HEA.out.trans hE1); clear hE1) | (go_at_call 16; refine (heavy_any _ _ u rs _ (HU.out.ext HE1.out) (HR.out.ext HE1.out)).mono ?_; rintro e w2 ⟨rfl, rfl⟩; rw [HH.out]))
        go_ret
        exact ⟨rfl, HE1.out⟩
      · by_cases h0 : checkE u rs = 0
        · have H0 := Lib.hid h0
          by_cases h1 : check2E u rs s0 = 0
          · have HN0 := Lib.hid h1
            by_cases h2 : check2E u rs s1 = 0
            · have HN1 := Lib.hid h2
              have hl0 := (check2E_zero h1).2.2
              have hl1 := (check2E_zero h2).2.2
              have HC0 := Lib.hid (close_eq h0 hl0)
              have HC1 := Lib.hid (close_eq h0 hl1)
              have hna := closeR_check (l := s0) h0
              have HNA := Lib.hid hna
              have HCA := Lib.hid ((close_eq h0 (closeR_sub (l := s0) (rs := rs))).trans (closeR_idem h0 hl0))
              have HDA := Lib.hid ((closedB_eq hna).trans (closeR_closed h0 hl0))
              have HX0 := Lib.hid (closeR_ext h0 hl0)
              have HLA : Hid ((closeR u rs s0).length ≤ 40) := Lib.hid (Nat.le_trans (List.length_filter_le _ _) HLU.out)
              have hni : check2E u rs (sortedN (closeR u rs s0) (closeR u rs s1)) = 0 := by
                unfold check2E setE
                rw [if_pos h0, show ascB (sortedN (closeR u rs s0) (closeR u rs s1)) = true from asc_filter (closeR_asc h0) _, if_neg (by decide), if_pos (fun x hx => closeR_sub x (mem_sortedN.1 hx).1)]
              have HNI := Lib.hid hni
              have HDI := Lib.hid ((closedB_eq hni).trans (closed_inter (closeR_closed h0 hl0) (closeR_closed h0 hl1)))
              have hmono := closeR_mono h0 hl0 hl1
              have HMO := Lib.hid hmono
              clear h0 h1 h2 hl0 hl1 hna hni hmono
              have TK1 := True.intro
              have TK2 := True.intro
              have TK3 := True.intro
              generalize closeR u rs s0 = a at *
              generalize closeR u rs s1 = b at *
              cases hss : decide (∀ x ∈ s0, x ∈ s1) with
              | true =>
                have HSS := Lib.hid hss
                have HAB := Lib.hid (HMO.out (of_decide_eq_true hss))
                clear hss
                go_enter Try.func7, Try.ntmps7
                go_upto_region 1 with (fail)
                have hc0 : (w.alloc (.cells #[.slice A0 n0 c0, .slice A1 n1 c1] 49)).cell? ⟨w.heap.size, 0, none⟩ = some (.slice A0 n0 c0) := (Blk.new _ _ _).cell 0
                have hc1 : (w.alloc (.cells #[.slice A0 n0 c0, .slice A1 n1 c1] 49)).cell? ⟨w.heap.size, 1, none⟩ = some (.slice A1 n1 c1) := (Blk.new _ _ _).cell 1
                have hEa : Ext w (w.alloc (.cells #[.slice A0 n0 c0, .slice A1 n1 c1] 49)) := (Ext.refl w).alloc _
                generalize w.alloc (.cells #[.slice A0 n0 c0, .slice A1 n1 c1] 49) = wa at *
                have HEA := Lib.hid hEa; clear hEa
                go_wp2_with (first | (go_at_call 15; refine (awake_any _).mono ?_; rintro e w1 ⟨rfl, hE1⟩; have hd0 := hE1.cell hc0; have hd1 := hE1.cell hc1; clear hc0 hc1; have HE1 := Lib.hid (HEA.out.trans hE1); clear hE1) | (go_at_call 16; refine (heavy_any _ _ u rs _ (HU.out.ext HE1.out) (HR.out.ext HE1.out)).mono ?_; rintro e w2 ⟨rfl, rfl⟩; rw [HH.out]) | (go_at_call 26; refine (check_any _ _ u rs _ (HIU.out.ext HE1.out) (HIR.out.ext HE1.out)).mono ?_; rintro e w4 ⟨rfl, hE4⟩; have he0 := hE4.cell hd0; have he1 := hE4.cell hd1; clear hd0 hd1; have HE4 := Lib.hid (HE1.out.trans hE4); clear hE4 HE1; rw [H0.out]) | (go_at_call 28; refine (close_ok _ _ _ u rs s0 _ (HIU.out.ext HE4.out) (HIR.out.ext HE4.out) (HV0.out.ext HE4.out) HN0.out).mono ?_; rintro e w6 ⟨v6, rfl, hs6, hE6⟩; rw [HC0.out] at hs6; have HS6 := Lib.hid hs6; clear hs6; have hf0 := hE6.cell he0; have hf1 := hE6.cell he1; clear he0 he1; have HE6 := Lib.hid (HE4.out.trans hE6); clear hE6 HE4) | (go_at_call 28; refine (close_ok _ _ _ u rs s1 _ (HIU.out.ext HE6.out) (HIR.out.ext HE6.out) (HV1.out.ext HE6.out) HN1.out).mono ?_; rintro e w7 ⟨v7, rfl, hs7, hE7⟩; rw [HC1.out] at hs7; have HS7 := Lib.hid hs7; clear hs7; have hg0 := hE7.cell hf0; have hg1 := hE7.cell hf1; clear hf0 hf1; have HX7 := Lib.hid hE7; have HE7 := Lib.hid (HE6.out.trans hE7); clear hE7 HE6))
                go_wp2_with (first | (go_at_call 28; refine (close_ok _ _ _ u rs a _ (HIU.out.ext HE7.out) (HIR.out.ext HE7.out) (HS6.out.ext HX7.out) HNA.out).mono ?_; rintro e w8 ⟨v8, rfl, hs8, hE8⟩; rw [HCA.out] at hs8; have HS8 := Lib.hid hs8; clear hs8; have hh0 := hE8.cell hg0; have hh1 := hE8.cell hg1; clear hg0 hg1; have HA8 := Lib.hid (HS6.out.ext (HX7.out.trans hE8)); have HB8 := Lib.hid (HS7.out.ext hE8); have HE8 := Lib.hid (HE7.out.trans hE8); clear hE8 HE7 HS7 HS6 HX7) | (go_at_call 29; refine (closed_ok _ _ _ u rs a _ (HIU.out.ext HE8.out) (HIR.out.ext HE8.out) HA8.out HNA.out).mono ?_; rintro e w9 ⟨rfl, hE9⟩; rw [HDA.out]; have hi0 := hE9.cell hh0; have hi1 := hE9.cell hh1; clear hh0 hh1; have HS9 := Lib.hid (HS8.out.ext hE9); have HA9 := Lib.hid (HA8.out.ext hE9); have HB9 := Lib.hid (HB8.out.ext hE9); have HE9 := Lib.hid (HE8.out.trans hE9); clear hE9 HE8 HS8 HA8 HB8) | (go_at_call 20; refine (same_any _ _ a a _ HS9.out HA9.out).mono ?_; rintro e w10 ⟨rfl, n10, hw10⟩; rw [decide_eq_true rfl]; have hE10 := hw10 ▸ (Ext.refl _).drewN n10; clear hw10; have hj0 := hE10.cell hi0; have hj1 := hE10.cell hi1; clear hi0 hi1; have HA10 := Lib.hid (HA9.out.ext hE10); have HB10 := Lib.hid (HB9.out.ext hE10); have HE10 := Lib.hid (HE9.out.trans hE10); clear hE10 HE9 HS9 HA9 HB9) | (go_at_call 32; clear TK1; refine (subset_any _ _ s0 a _ (HV0.out.ext HE10.out) HA10.out).mono ?_; rintro e w11 ⟨rfl, rfl⟩; rw [decide_eq_true HX0.out]) | (go_at_call 32; clear TK2; refine (subset_any _ _ s0 s1 _ (HV0.out.ext HE10.out) (HV1.out.ext HE10.out)).mono ?_; rintro e w12 ⟨rfl, rfl⟩; rw [HSS.out]) | (go_at_call 32; clear TK3; refine (subset_any _ _ a b _ HA10.out HB10.out).mono ?_; rintro e w13 ⟨rfl, rfl⟩; rw [decide_eq_true HAB.out]))
                obtain ⟨i0, hi0, hz0, hz1, hz2⟩ := info_parts inf9
                have hra := HA10.out
                obtain ⟨Aa, na, ca, rfl, hla, hnca, hcma, hcella⟩ := hra
                unfold maxLen at hcma
                have hnab : na ≤ 1048576 := by have h1 := HLA.out; omega
                have HLX := Lib.hid hla; clear hla
                have HCX := Lib.hid hcella; clear hcella
                go_loopw [15, 16] (fun v i wr => ∃ k : Nat, k ≤ na ∧ i = .int .i64 k ∧ Own wr w10.heap.size 9 encS v (sortedN (a.take k) b) ∧ Ext w10 wr) (fun _ i _ => na - (intOf i).toNat)
                case atStart => exact ⟨0, Nat.zero_le _, rfl, by simpa [sortedN] using Own.empty w10 w10.heap.size 9 encS (Nat.le_refl _), (Ext.refl w10).alloc _⟩
                case round =>
                  obtain ⟨k, hk, rfl, hown, hEr⟩ := hrel
                  have HER := Lib.hid hEr; clear hEr
                  have hlen : (sortedN (a.take k) b).length ≤ k := Nat.le_trans (List.length_filter_le _ _) (List.length_take_le _ _)
                  obtain ⟨Ao, no, co, rfl, -⟩ := hown.rd
                  have HOWN := Lib.hid hown; clear hown
                  by_cases hlt : k < na
                  · obtain ⟨bl, off, rfl, hbl, hcl⟩ := HCX.out (by omega)
                    have hkl : k < a.length := by rw [HLX.out]; exact hlt
                    have hc1 := HER.out.cell (hcl k a[k] (List.getElem?_eq_getElem hkl))
                    clear hcl
                    have htk := List.take_succ_eq_append_getElem hkl
                    have HTK := Lib.hid htk; clear htk
                    by_cases hm : a[k] ∈ b
                    · have HM := Lib.hid hm; clear hm
                      go_wp2_with (first | (go_at_call 33; refine (has_any _ b _ _ (HB10.out.ext HER.out)).mono ?_; rintro e w' ⟨rfl, rfl⟩; rw [decide_eq_true HM.out]) | (at_builtin; go_must (refine wpList_append_one rfl (.tmp 125) (.tmp 130) 22 rfl 9 i0 _ 16 Try.underlying22 hi0 hz0 hz1 hz2 rfl encS w10 (HER.out.alloc _) (.slice Ao no co) _ rfl (HOWN.out.ext ((Ext.refl _).alloc _)) wr.heap.size 1 a[k] rfl (cell_new1 _ _ _) rfl (by unfold maxLen; omega) (by omega) ?_); intro v' w' hown' hE' _))
                      go_roundw
                      case rel =>
                        refine ⟨k + 1, by omega, by go_num, ?_, hE'⟩
                        have : sortedN (a.take (k + 1)) b = sortedN (a.take k) b ++ [a[k]] := by rw [HTK.out]; unfold sortedN; rw [List.filter_append]; simp [HM.out]
                        rw [this]; exact hown'
                      case measure => simp [intOf]; omega
                    · have HM := Lib.hid hm; clear hm
                      go_wp2_with (first | (go_at_call 33; refine (has_any _ b _ _ (HB10.out.ext HER.out)).mono ?_; rintro e w' ⟨rfl, rfl⟩; rw [decide_eq_false HM.out]))
                      go_roundw
                      case rel =>
                        refine ⟨k + 1, by omega, by go_num, ?_, HER.out⟩
                        have : sortedN (a.take (k + 1)) b = sortedN (a.take k) b := by rw [HTK.out]; unfold sortedN; rw [List.filter_append]; simp [HM.out]
                        rw [this]; exact HOWN.out
                      case measure => simp [intOf]; omega
                  · have hown := HOWN.out
                    rw [List.take_of_length_le (by have := HLX.out; omega)] at hown
                    have HOW := Lib.hid hown; clear hown
                    go_wp2_with (go_at_call 29; refine (closed_ok _ _ _ u rs (sortedN a b) _ (HIU.out.ext (HE10.out.trans HER.out)) (HIR.out.ext (HE10.out.trans HER.out)) HOW.out.rd HNI.out).mono ?_; rintro e w20 ⟨rfl, hE20⟩; rw [HDI.out])
                    go_ret
                    exact ⟨rfl, (HE10.out.trans HER.out).trans hE20⟩
              | false =>
                have HSS := Lib.hid hss
                clear hss
                go_enter Try.func7, Try.ntmps7
                go_upto_region 1 with (fail)
                have hc0 : (w.alloc (.cells #[.slice A0 n0 c0, .slice A1 n1 c1] 49)).cell? ⟨w.heap.size, 0, none⟩ = some (.slice A0 n0 c0) := (Blk.new _ _ _).cell 0
                have hc1 : (w.alloc (.cells #[.slice A0 n0 c0, .slice A1 n1 c1] 49)).cell? ⟨w.heap.size, 1, none⟩ = some (.slice A1 n1 c1) := (Blk.new _ _ _).cell 1
                have hEa : Ext w (w.alloc (.cells #[.slice A0 n0 c0, .slice A1 n1 c1] 49)) := (Ext.refl w).alloc _
                generalize w.alloc (.cells #[.slice A0 n0 c0, .slice A1 n1 c1] 49) = wa at *
                have HEA := Lib.hid hEa; clear hEa
                go_wp2_with (first | (go_at_call 15; refine (awake_any _).mono ?_; rintro e w1 ⟨rfl, hE1⟩; have hd0 := hE1.cell hc0; have hd1 := hE1.cell hc1; clear hc0 hc1; have HE1 := Lib.hid (HEA.out.trans hE1); clear hE1) | (go_at_call 16; refine (heavy_any _ _ u rs _ (HU.out.ext HE1.out) (HR.out.ext HE1.out)).mono ?_; rintro e w2 ⟨rfl, rfl⟩; rw [HH.out]) | (go_at_call 26; refine (check_any _ _ u rs _ (HIU.out.ext HE1.out) (HIR.out.ext HE1.out)).mono ?_; rintro e w4 ⟨rfl, hE4⟩; have he0 := hE4.cell hd0; have he1 := hE4.cell hd1; clear hd0 hd1; have HE4 := Lib.hid (HE1.out.trans hE4); clear hE4 HE1; rw [H0.out]) | (go_at_call 28; refine (close_ok _ _ _ u rs s0 _ (HIU.out.ext HE4.out) (HIR.out.ext HE4.out) (HV0.out.ext HE4.out) HN0.out).mono ?_; rintro e w6 ⟨v6, rfl, hs6, hE6⟩; rw [HC0.out] at hs6; have HS6 := Lib.hid hs6; clear hs6; have hf0 := hE6.cell he0; have hf1 := hE6.cell he1; clear he0 he1; have HE6 := Lib.hid (HE4.out.trans hE6); clear hE6 HE4) | (go_at_call 28; refine (close_ok _ _ _ u rs s1 _ (HIU.out.ext HE6.out) (HIR.out.ext HE6.out) (HV1.out.ext HE6.out) HN1.out).mono ?_; rintro e w7 ⟨v7, rfl, hs7, hE7⟩; rw [HC1.out] at hs7; have HS7 := Lib.hid hs7; clear hs7; have hg0 := hE7.cell hf0; have hg1 := hE7.cell hf1; clear hf0 hf1; have HX7 := Lib.hid hE7; have HE7 := Lib.hid (HE6.out.trans hE7); clear hE7 HE6))
                go_wp2_with (first | (go_at_call 28; refine (close_ok _ _ _ u rs a _ (HIU.out.ext HE7.out) (HIR.out.ext HE7.out) (HS6.out.ext HX7.out) HNA.out).mono ?_; rintro e w8 ⟨v8, rfl, hs8, hE8⟩; rw [HCA.out] at hs8; have HS8 := Lib.hid hs8; clear hs8; have hh0 := hE8.cell hg0; have hh1 := hE8.cell hg1; clear hg0 hg1; have HA8 := Lib.hid (HS6.out.ext (HX7.out.trans hE8)); have HB8 := Lib.hid (HS7.out.ext hE8); have HE8 := Lib.hid (HE7.out.trans hE8); clear hE8 HE7 HS7 HS6 HX7) | (go_at_call 29; refine (closed_ok _ _ _ u rs a _ (HIU.out.ext HE8.out) (HIR.out.ext HE8.out) HA8.out HNA.out).mono ?_; rintro e w9 ⟨rfl, hE9⟩; rw [HDA.out]; have hi0 := hE9.cell hh0; have hi1 := hE9.cell hh1; clear hh0 hh1; have HS9 := Lib.hid (HS8.out.ext hE9); have HA9 := Lib.hid (HA8.out.ext hE9); have HB9 := Lib.hid (HB8.out.ext hE9); have HE9 := Lib.hid (HE8.out.trans hE9); clear hE9 HE8 HS8 HA8 HB8) | (go_at_call 20; refine (same_any _ _ a a _ HS9.out HA9.out).mono ?_; rintro e w10 ⟨rfl, n10, hw10⟩; rw [decide_eq_true rfl]; have hE10 := hw10 ▸ (Ext.refl _).drewN n10; clear hw10; have hj0 := hE10.cell hi0; have hj1 := hE10.cell hi1; clear hi0 hi1; have HA10 := Lib.hid (HA9.out.ext hE10); have HB10 := Lib.hid (HB9.out.ext hE10); have HE10 := Lib.hid (HE9.out.trans hE10); clear hE10 HE9 HS9 HA9 HB9) | (go_at_call 32; clear TK1; refine (subset_any _ _ s0 a _ (HV0.out.ext HE10.out) HA10.out).mono ?_; rintro e w11 ⟨rfl, rfl⟩; rw [decide_eq_true HX0.out]) | (go_at_call 32; clear TK2; refine (subset_any _ _ s0 s1 _ (HV0.out.ext HE10.out) (HV1.out.ext HE10.out)).mono ?_; rintro e w12 ⟨rfl, rfl⟩; rw [HSS.out]))
                obtain ⟨i0, hi0, hz0, hz1, hz2⟩ := info_parts inf9
                have hra := HA10.out
                obtain ⟨Aa, na, ca, rfl, hla, hnca, hcma, hcella⟩ := hra
                unfold maxLen at hcma
                have hnab : na ≤ 1048576 := by have h1 := HLA.out; omega
                have HLX := Lib.hid hla; clear hla
                have HCX := Lib.hid hcella; clear hcella
                go_loopw [15, 16] (fun v i wr => ∃ k : Nat, k ≤ na ∧ i = .int .i64 k ∧ Own wr w10.heap.size 9 encS v (sortedN (a.take k) b) ∧ Ext w10 wr) (fun _ i _ => na - (intOf i).toNat)
                case atStart => exact ⟨0, Nat.zero_le _, rfl, by simpa [sortedN] using Own.empty w10 w10.heap.size 9 encS (Nat.le_refl _), (Ext.refl w10).alloc _⟩
                case round =>
                  obtain ⟨k, hk, rfl, hown, hEr⟩ := hrel
                  have HER := Lib.hid hEr; clear hEr
                  have hlen : (sortedN (a.take k) b).length ≤ k := Nat.le_trans (List.length_filter_le _ _) (List.length_take_le _ _)
                  obtain ⟨Ao, no, co, rfl, -⟩ := hown.rd
                  have HOWN := Lib.hid hown; clear hown
                  by_cases hlt : k < na
                  · obtain ⟨bl, off, rfl, hbl, hcl⟩ := HCX.out (by omega)
                    have hkl : k < a.length := by rw [HLX.out]; exact hlt
                    have hc1 := HER.out.cell (hcl k a[k] (List.getElem?_eq_getElem hkl))
                    clear hcl
                    have htk := List.take_succ_eq_append_getElem hkl
                    have HTK := Lib.hid htk; clear htk
                    by_cases hm : a[k] ∈ b
                    · have HM := Lib.hid hm; clear hm
                      go_wp2_with (first | (go_at_call 33; refine (has_any _ b _ _ (HB10.out.ext HER.out)).mono ?_; rintro e w' ⟨rfl, rfl⟩; rw [decide_eq_true HM.out]) | (at_builtin; go_must (refine wpList_append_one rfl (.tmp 125) (.tmp 130) 22 rfl 9 i0 _ 16 Try.underlying22 hi0 hz0 hz1 hz2 rfl encS w10 (HER.out.alloc _) (.slice Ao no co) _ rfl (HOWN.out.ext ((Ext.refl _).alloc _)) wr.heap.size 1 a[k] rfl (cell_new1 _ _ _) rfl (by unfold maxLen; omega) (by omega) ?_); intro v' w' hown' hE' _))
                      go_roundw
                      case rel =>
                        refine ⟨k + 1, by omega, by go_num, ?_, hE'⟩
                        have : sortedN (a.take (k + 1)) b = sortedN (a.take k) b ++ [a[k]] := by rw [HTK.out]; unfold sortedN; rw [List.filter_append]; simp [HM.out]
                        rw [this]; exact hown'
                      case measure => simp [intOf]; omega
                    · have HM := Lib.hid hm; clear hm
                      go_wp2_with (first | (go_at_call 33; refine (has_any _ b _ _ (HB10.out.ext HER.out)).mono ?_; rintro e w' ⟨rfl, rfl⟩; rw [decide_eq_false HM.out]))
                      go_roundw
                      case rel =>
                        refine ⟨k + 1, by omega, by go_num, ?_, HER.out⟩
                        have : sortedN (a.take (k + 1)) b = sortedN (a.take k) b := by rw [HTK.out]; unfold sortedN; rw [List.filter_append]; simp [HM.out]
                        rw [this]; exact HOWN.out
                      case measure => simp [intOf]; omega
                  · have hown := HOWN.out
                    rw [List.take_of_length_le (by have := HLX.out; omega)] at hown
                    have HOW := Lib.hid hown; clear hown
                    go_wp2_with (go_at_call 29; refine (closed_ok _ _ _ u rs (sortedN a b) _ (HIU.out.ext (HE10.out.trans HER.out)) (HIR.out.ext (HE10.out.trans HER.out)) HOW.out.rd HNI.out).mono ?_; rintro e w20 ⟨rfl, hE20⟩; rw [HDI.out])
                    go_ret
                    exact ⟨rfl, (HE10.out.trans HER.out).trans hE20⟩
            · have HN1 := Lib.hid h2
              have HC0 := Lib.hid (close_eq h0 (check2E_zero h1).2.2)
              have hzb : (check2E u rs s1 != 0) = true := by simpa using h2
              have hzc : (check2E u rs s1 == 0) = false := by simpa using h2
              clear h0 h1 h2
              go_enter Try.func7, Try.ntmps7
              go_upto_region 1 with (fail)
              have hc0 : (w.alloc (.cells #[.slice A0 n0 c0, .slice A1 n1 c1] 49)).cell? ⟨w.heap.size, 0, none⟩ = some (.slice A0 n0 c0) := (Blk.new _ _ _).cell 0
              have hc1 : (w.alloc (.cells #[.slice A0 n0 c0, .slice A1 n1 c1] 49)).cell? ⟨w.heap.size, 1, none⟩ = some (.slice A1 n1 c1) := (Blk.new _ _ _).cell 1
              have hEa : Ext w (w.alloc (.cells #[.slice A0 n0 c0, .slice A1 n1 c1] 49)) := (Ext.refl w).alloc _
              generalize w.alloc (.cells #[.slice A0 n0 c0, .slice A1 n1 c1] 49) = wa at *
              have HEA := Lib.hid hEa; clear hEa
              go_wp2_with (first | (go_at_call 15; refine (awake_any _).mono ?_; rintro e w1 ⟨rfl, hE1⟩; have hd0 := hE1.cell hc0; have hd1 := hE1.cell hc1; clear hc0 hc1; have HE1 := Lib.hid (HEA.out.trans hE1); clear hE1) | (go_at_call 16; refine (heavy_any _ _ u rs _ (HU.out.ext HE1.out) (HR.out.ext HE1.out)).mono ?_; rintro e w2 ⟨rfl, rfl⟩; rw [HH.out]) | (go_at_call 26; refine (check_any _ _ u rs _ (HIU.out.ext HE1.out) (HIR.out.ext HE1.out)).mono ?_; rintro e w4 ⟨rfl, hE4⟩; have he0 := hE4.cell hd0; have he1 := hE4.cell hd1; clear hd0 hd1; have HE4 := Lib.hid (HE1.out.trans hE4); clear hE4 HE1; rw [H0.out]) | (go_at_call 28; refine (close_ok _ _ _ u rs s0 _ (HIU.out.ext HE4.out) (HIR.out.ext HE4.out) (HV0.out.ext HE4.out) HN0.out).mono ?_; rintro e w6 ⟨v6, rfl, hs6, hE6⟩; rw [HC0.out] at hs6; have HS6 := Lib.hid hs6; clear hs6; have hf0 := hE6.cell he0; have hf1 := hE6.cell he1; clear he0 he1; have HE6 := Lib.hid (HE4.out.trans hE6); clear hE6 HE4) | (go_at_call 28; refine (close_err _ _ _ u rs s1 _ (HIU.out.ext HE6.out) (HIR.out.ext HE6.out) (HV1.out.ext HE6.out) HN1.out).mono ?_; rintro e w7 ⟨rfl, hE7⟩; have hg0 := hE7.cell hf0; have hg1 := hE7.cell hf1; clear hf0 hf1; have HE7 := Lib.hid (HE6.out.trans hE7); clear hE7 HE6))
              go_ret
              exact ⟨rfl, HE7.out⟩
          · have HN0 := Lib.hid h1
            have hzb : (check2E u rs s0 != 0) = true := by simpa using h1
            have hzc : (check2E u rs s0 == 0) = false := by simpa using h1
            by_cases h2 : check2E u rs s1 = 0
            · have HN1 := Lib.hid h2
              have HC1 := Lib.hid (close_eq h0 (check2E_zero h2).2.2)
              clear h0 h1 h2
              go_enter Try.func7, Try.ntmps7
              go_upto_region 1 with (fail)
              have hc0 : (w.alloc (.cells #[.slice A0 n0 c0, .slice A1 n1 c1] 49)).cell? ⟨w.heap.size, 0, none⟩ = some (.slice A0 n0 c0) := (Blk.new _ _ _).cell 0
              have hc1 : (w.alloc (.cells #[.slice A0 n0 c0, .slice A1 n1 c1] 49)).cell? ⟨w.heap.size, 1, none⟩ = some (.slice A1 n1 c1) := (Blk.new _ _ _).cell 1
              have hEa : Ext w (w.alloc (.cells #[.slice A0 n0 c0, .slice A1 n1 c1] 49)) := (Ext.refl w).alloc _
              generalize w.alloc (.cells #[.slice A0 n0 c0, .slice A1 n1 c1] 49) = wa at *
              have HEA := Lib.hid hEa; clear hEa
              go_wp2_with (first | (go_at_call 15; refine (awake_any _).mono ?_; rintro e w1 ⟨rfl, hE1⟩; have hd0 := hE1.cell hc0; have hd1 := hE1.cell hc1; clear hc0 hc1; have HE1 := Lib.hid (HEA.out.trans hE1); clear hE1) | (go_at_call 16; refine (heavy_any _ _ u rs _ (HU.out.ext HE1.out) (HR.out.ext HE1.out)).mono ?_; rintro e w2 ⟨rfl, rfl⟩; rw [HH.out]) | (go_at_call 26; refine (check_any _ _ u rs _ (HIU.out.ext HE1.out) (HIR.out.ext HE1.out)).mono ?_; rintro e w4 ⟨rfl, hE4⟩; have he0 := hE4.cell hd0; have he1 := hE4.cell hd1; clear hd0 hd1; have HE4 := Lib.hid (HE1.out.trans hE4); clear hE4 HE1; rw [H0.out]) | (go_at_call 28; refine (close_err _ _ _ u rs s0 _ (HIU.out.ext HE4.out) (HIR.out.ext HE4.out) (HV0.out.ext HE4.out) HN0.out).mono ?_; rintro e w6 ⟨rfl, hE6⟩; have hf0 := hE6.cell he0; have hf1 := hE6.cell he1; clear he0 he1; have HE6 := Lib.hid (HE4.out.trans hE6); clear hE6 HE4) | (go_at_call 28; refine (close_ok _ _ _ u rs s1 _ (HIU.out.ext HE6.out) (HIR.out.ext HE6.out) (HV1.out.ext HE6.out) HN1.out).mono ?_; rintro e w7 ⟨v7, rfl, hs7, hE7⟩; rw [HC1.out] at hs7; have HS7 := Lib.hid hs7; clear hs7; have hg0 := hE7.cell hf0; have hg1 := hE7.cell hf1; clear hf0 hf1; have HX7 := Lib.hid hE7; have HE7 := Lib.hid (HE6.out.trans hE7); clear hE7 HE6))
              go_ret
              exact ⟨rfl, HE7.out⟩
            · have HN1 := Lib.hid h2
              clear h0 h1 h2
              go_enter Try.func7, Try.ntmps7
              go_upto_region 1 with (fail)
              have hc0 : (w.alloc (.cells #[.slice A0 n0 c0, .slice A1 n1 c1] 49)).cell? ⟨w.heap.size, 0, none⟩ = some (.slice A0 n0 c0) := (Blk.new _ _ _).cell 0
              have hc1 : (w.alloc (.cells #[.slice A0 n0 c0, .slice A1 n1 c1] 49)).cell? ⟨w.heap.size, 1, none⟩ = some (.slice A1 n1 c1) := (Blk.new _ _ _).cell 1
              have hEa : Ext w (w.alloc (.cells #[.slice A0 n0 c0, .slice A1 n1 c1] 49)) := (Ext.refl w).alloc _
              generalize w.alloc (.cells #[.slice A0 n0 c0, .slice A1 n1 c1] 49) = wa at *
              have HEA := Lib.hid hEa; clear hEa
              go_wp2_with (first | (go_at_call 15; refine (awake_any _).mono ?_; rintro e w1 ⟨rfl, hE1⟩; have hd0 := hE1.cell hc0; have hd1 := hE1.cell hc1; clear hc0 hc1; have HE1 := Lib.hid (HEA.out.trans hE1); clear hE1) | (go_at_call 16; refine (heavy_any _ _ u rs _ (HU.out.ext HE1.out) (HR.out.ext HE1.out)).mono ?_; rintro e w2 ⟨rfl, rfl⟩; rw [HH.out]) | (go_at_call 26; refine (check_any _ _ u rs _ (HIU.out.ext HE1.out) (HIR.out.ext HE1.out)).mono ?_; rintro e w4 ⟨rfl, hE4⟩; have he0 := hE4.cell hd0; have he1 := hE4.cell hd1; clear hd0 hd1; have HE4 := Lib.hid (HE1.out.trans hE4); clear hE4 HE1; rw [H0.out]) | (go_at_call 28; refine (close_err _ _ _ u rs s0 _ (HIU.out.ext HE4.out) (HIR.out.ext HE4.out) (HV0.out.ext HE4.out) HN0.out).mono ?_; rintro e w6 ⟨rfl, hE6⟩; have hf0 := hE6.cell he0; have hf1 := hE6.cell he1; clear he0 he1; have HE6 := Lib.hid (HE4.out.trans hE6); clear hE6 HE4) | (go_at_call 28; refine (close_err _ _ _ u rs s1 _ (HIU.out.ext HE6.out) (HIR.out.ext HE6.out) (HV1.out.ext HE6.out) HN1.out).mono ?_; rintro e w7 ⟨rfl, hE7⟩; have hg0 := hE7.cell hf0; have hg1 := hE7.cell hf1; clear hf0 hf1; have HE7 := Lib.hid (HE6.out.trans hE7); clear hE7 HE6))
              go_ret
              exact ⟨rfl, HE7.out⟩
        · have hzb : (checkE u rs != 0) = true := by simpa using h0
          have hzc : (checkE u rs == 0) = false := by simpa using h0
          clear h0
          go_enter Try.func7, Try.ntmps7
          go_upto_region 1 with (fail)
          have hc0 : (w.alloc (.cells #[.slice A0 n0 c0, .slice A1 n1 c1] 49)).cell? ⟨w.heap.size, 0, none⟩ = some (.slice A0 n0 c0) := (Blk.new _ _ _).cell 0
          have hc1 : (w.alloc (.cells #[.slice A0 n0 c0, .slice A1 n1 c1] 49)).cell? ⟨w.heap.size, 1, none⟩ = some (.slice A1 n1 c1) := (Blk.new _ _ _).cell 1
          have hEa : Ext w (w.alloc (.cells #[.slice A0 n0 c0, .slice A1 n1 c1] 49)) := (Ext.refl w).alloc _
          generalize w.alloc (.cells #[.slice A0 n0 c0, .slice A1 n1 c1] 49) = wa at *
          have HEA := Lib.hid hEa; clear hEa
          go_wp2_with (first | (go_at_call 15; refine (awake_any _).mono ?_; rintro e w1 ⟨rfl, hE1⟩; have hd0 := hE1.cell hc0; have hd1 := hE1.cell hc1; clear hc0 hc1; have HE1 := Lib.hid (HEA.out.trans hE1); clear hE1) | (go_at_call 16; refine (heavy_any _ _ u rs _ (HU.out.ext HE1.out) (HR.out.ext HE1.out)).mono ?_; rintro e w2 ⟨rfl, rfl⟩; rw [HH.out]) | (go_at_call 26; refine (check_any _ _ u rs _ (HIU.out.ext HE1.out) (HIR.out.ext HE1.out)).mono ?_; rintro e w4 ⟨rfl, hE4⟩; have he0 := hE4.cell hd0; have he1 := hE4.cell hd1; clear hd0 hd1; have HE4 := Lib.hid (HE1.out.trans hE4); clear hE4 HE1))
          go_ret
          exact ⟨rfl, HE4.out⟩
end Go.Proofs.Ythgplaledmccgaa
