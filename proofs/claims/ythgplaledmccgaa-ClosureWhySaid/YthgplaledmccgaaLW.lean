/-
  The walk of the law ClosureWhy: it returns true, whatever comes in.
-/
import Derived.Test.YthgplaledmccgaaW24
import Derived.Test.YthgplaledmccgaaLA
namespace Go.Proofs.Ythgplaledmccgaa
open Go.RowKit

set_option maxRecDepth 100000 in
set_option maxHeartbeats 8000000 in
theorem lawWhy_any (vu vs vf : Value) (u : List Nm) (rs : List RuleN) (l : List Nm) (name : Nm) (w : World) (hu : RdS w vu u) (hum : ∀ x ∈ u, x.length ≤ maxLen) (hr : RdR w vs rs) (hl : RdS w vf l) :
    Calls Try.prog 8 #[vu, vs, .agg #[vf, encS name]] w fun e w' => e = .returned (.bool true) ∧ Ext w w' := by
  have HU := Lib.hid hu; clear hu
  have HR := Lib.hid hr; clear hr
  have HUM := Lib.hid hum; clear hum
  have HV := Lib.hid hl
  obtain ⟨A, n, c, rfl, hln, -, hcm, -⟩ := hl
  unfold maxLen at hcm
  have HLN := Lib.hid hln; clear hln
  cases hh : heavyB u rs with
  | true =>
    have HH := Lib.hid hh; clear hh
    go_enter Try.func8, Try.ntmps8
    go_upto_region 1 with (fail)
    have hc0 : (w.alloc (.cells #[.slice A n c, encS name] 53)).cell? ⟨w.heap.size, 0, none⟩ = some (.slice A n c) := (Blk.new _ _ _).cell 0
    have hc1 : (w.alloc (.cells #[.slice A n c, encS name] 53)).cell? ⟨w.heap.size, 1, none⟩ = some (encS name) := (Blk.new _ _ _).cell 1
    have hEa : Ext w (w.alloc (.cells #[.slice A n c, encS name] 53)) := (Ext.refl w).alloc _
    generalize w.alloc (.cells #[.slice A n c, encS name] 53) = wa at *
    have HEA := Lib.hid hEa; clear hEa
    go_wp2_with (first | (go_at_call 15; refine (awake_any _).mono ?_; rintro e w1 ⟨rfl, hE1⟩; have hd0 := hE1.cell hc0; have hd1 := hE1.cell hc1; clear hc0 hc1; have hc0 := hd0; clear hd0; have hc1 := hd1; clear hd1; have hb1 := (World.block_lt_of_cell? _ _ hc0 : w.heap.size < w1.heap.size); have HE1 := Lib.hid (HEA.out.trans hE1); clear hE1) | (go_at_call 16; refine (heavy_any _ _ u rs _ (HU.out.ext HE1.out) (HR.out.ext HE1.out)).mono ?_; rintro e w2 ⟨rfl, rfl⟩; rw [HH.out]))
    go_ret
    exact ⟨rfl, HE1.out⟩
  | false =>
    have HIU := Lib.hid (InU.of HU.out HUM.out hh)
    have HIR := Lib.hid (InR.of HR.out hh)
    have hno := heavyB_no hh
    have HH := Lib.hid hh; clear hh
    by_cases hx : 41 < n
    · go_enter Try.func8, Try.ntmps8
      go_upto_region 1 with (fail)
      have hc0 : (w.alloc (.cells #[.slice A n c, encS name] 53)).cell? ⟨w.heap.size, 0, none⟩ = some (.slice A n c) := (Blk.new _ _ _).cell 0
      have hc1 : (w.alloc (.cells #[.slice A n c, encS name] 53)).cell? ⟨w.heap.size, 1, none⟩ = some (encS name) := (Blk.new _ _ _).cell 1
      have hEa : Ext w (w.alloc (.cells #[.slice A n c, encS name] 53)) := (Ext.refl w).alloc _
      generalize w.alloc (.cells #[.slice A n c, encS name] 53) = wa at *
      have HEA := Lib.hid hEa; clear hEa
      go_wp2_with (first | (go_at_call 15; refine (awake_any _).mono ?_; rintro e w1 ⟨rfl, hE1⟩; have hd0 := hE1.cell hc0; have hd1 := hE1.cell hc1; clear hc0 hc1; have hc0 := hd0; clear hd0; have hc1 := hd1; clear hd1; have hb1 := (World.block_lt_of_cell? _ _ hc0 : w.heap.size < w1.heap.size); have HE1 := Lib.hid (HEA.out.trans hE1); clear hE1) | (go_at_call 16; refine (heavy_any _ _ u rs _ (HU.out.ext HE1.out) (HR.out.ext HE1.out)).mono ?_; rintro e w2 ⟨rfl, rfl⟩; rw [HH.out]))
      go_ret
      exact ⟨rfl, HE1.out⟩
    · have HLL : Hid (l.length ≤ 1048576) := Lib.hid (by have := HLN.out; omega)
      by_cases h0 : checkE u rs = 0
      · by_cases h1 : setE u l = 0
        · have hn0 : check2E u rs l = 0 := by unfold check2E; rw [if_pos h0]; exact h1
          have hsub := (check2E_zero hn0).2.2
          by_cases hn : name ∈ u
          · have hwl := why_len (name := name) h0 hsub
            have HEQ := Lib.hid (why_eq h0 hsub hn)
            have HN0 := Lib.hid hn0
            have HC0 := Lib.hid h0
            have HS0 := Lib.hid h1
            have HN := Lib.hid hn
            have HRP : Hid (∀ r ∈ rs, r.1.length ≤ 1000) := Lib.hid fun r hr => by have := hno.2.2 r hr; omega
            have HRL : Hid (rs.length ≤ 1000) := Lib.hid (by omega)
            have HWL : Hid ((whyR rs l name).length ≤ 1000) := Lib.hid (by omega)
            clear hn0 h0 h1 hn hsub hwl hno
            go_enter Try.func8, Try.ntmps8
            go_upto_region 1 with (fail)
            have hc0 : (w.alloc (.cells #[.slice A n c, encS name] 53)).cell? ⟨w.heap.size, 0, none⟩ = some (.slice A n c) := (Blk.new _ _ _).cell 0
            have hc1 : (w.alloc (.cells #[.slice A n c, encS name] 53)).cell? ⟨w.heap.size, 1, none⟩ = some (encS name) := (Blk.new _ _ _).cell 1
            have hEa : Ext w (w.alloc (.cells #[.slice A n c, encS name] 53)) := (Ext.refl w).alloc _
            generalize w.alloc (.cells #[.slice A n c, encS name] 53) = wa at *
            have HEA := Lib.hid hEa; clear hEa
            go_wp2_with (first | (go_at_call 15; refine (awake_any _).mono ?_; rintro e w1 ⟨rfl, hE1⟩; have hd0 := hE1.cell hc0; have hd1 := hE1.cell hc1; clear hc0 hc1; have hc0 := hd0; clear hd0; have hc1 := hd1; clear hd1; have hb1 := (World.block_lt_of_cell? _ _ hc0 : w.heap.size < w1.heap.size); have HE1 := Lib.hid (HEA.out.trans hE1); clear hE1) | (go_at_call 16; refine (heavy_any _ _ u rs _ (HU.out.ext HE1.out) (HR.out.ext HE1.out)).mono ?_; rintro e w2 ⟨rfl, rfl⟩; rw [HH.out]) | (go_at_call 17; refine (refCheck_any _ _ u rs _ (HU.out.ext HE1.out) HUM.out (HR.out.ext HE1.out)).mono ?_; rintro e w3 ⟨rfl, hE3⟩; have hd0 := hE3.cell hc0; have hd1 := hE3.cell hc1; clear hc0 hc1; have hc0 := hd0; clear hd0; have hc1 := hd1; clear hd1; have hb3 := (World.block_lt_of_cell? _ _ hc0 : w.heap.size < w3.heap.size); have HE3 := Lib.hid (HE1.out.trans hE3); clear hE3; rw [HC0.out]) | (go_at_call 27; refine (refSet_any _ _ u l _ (HU.out.ext HE3.out) (HV.out.ext HE3.out)).mono ?_; rintro e w5 ⟨rfl, n5, hw5⟩; have hE5 := hw5 ▸ (Ext.refl _).drewN n5; clear hw5; have hd0 := hE5.cell hc0; have hd1 := hE5.cell hc1; clear hc0 hc1; have hc0 := hd0; clear hd0; have hc1 := hd1; clear hd1; have hb5 := (World.block_lt_of_cell? _ _ hc0 : w.heap.size < w5.heap.size); have HE5 := Lib.hid (HE3.out.trans hE5); clear hE5; rw [HS0.out]) | (go_at_call 33; refine (has_any _ u name _ (HU.out.ext HE5.out)).mono ?_; rintro e w6 ⟨rfl, rfl⟩; rw [decide_eq_true HN.out]))
            refine (refWhy_any _ _ rs l name _ (HIR.out.ext (HE5.out.alloc _)) (HV.out.ext (HE5.out.alloc _)) HLL.out HRP.out HRL.out).mono ?_
            rintro e w7 (⟨hin, v7, rfl, hr7, hE7⟩ | ⟨hin, rfl, hE7⟩)
            · have hd0 := hE7.cell (((Ext.refl _).alloc _).cell hc0)
              have hd1 := hE7.cell (((Ext.refl _).alloc _).cell hc1)
              clear hc0 hc1
              have HE7 := Lib.hid ((HE5.out.alloc _).trans hE7); clear hE7
              have HRW := Lib.hid hr7
              have HIN := Lib.hid hin; clear hin
              obtain ⟨A7, n7, c7, rfl, hn7, hnc7, hcm7, -⟩ := hr7
              have HN7 := Lib.hid hn7; clear hn7
              go_wp2_with (first | (go_at_call 35; refine (why_ok _ _ _ u rs l name _ (HIU.out.ext HE7.out) (HIR.out.ext HE7.out) (HV.out.ext HE7.out) HN0.out HN.out HIN.out).mono ?_; rintro e w8 ⟨v8, rfl, hr8, hE8⟩; rw [HEQ.out] at hr8; have HR8 := Lib.hid hr8; have HR7 := Lib.hid (HRW.out.ext hE8); have HE8 := Lib.hid (HE7.out.trans hE8); clear hE8; obtain ⟨A8, n8, c8, rfl, hn8, hnc8, hcm8, hcell8⟩ := hr8; obtain rfl : n8 = n7 := (by rw [← hn8, HN7.out]); have hnn : n8 ≤ 1000 := (by have := HWL.out; omega); unfold maxLen at hcm8; have HC8 := Lib.hid hcell8; clear hcell8 hn8 hd0 hd1))
              obtain ⟨-, -, -, hcell7⟩ := HR7.out.open_
              unfold maxLen at hcm7
              have HC7 := Lib.hid hcell7; clear hcell7
              go_loopw [13] (fun vi wr => ∃ k : Nat, k ≤ n8 ∧ vi = .int .i64 k ∧ Ext w8 wr) (fun vi _ => n8 - (intOf vi).toNat)
              case atStart => exact ⟨0, Nat.zero_le _, rfl, Ext.refl _⟩
              case round =>
                obtain ⟨k, hk, rfl, hEr⟩ := hrel
                have HER := Lib.hid hEr; clear hEr
                by_cases hlt : k < n8
                · obtain ⟨b7, o7, rfl, hb7, hc7⟩ := HC7.out (by omega)
                  obtain ⟨b8, o8, rfl, hb8, hc8⟩ := HC8.out (by omega)
                  have hkl : k < (whyR rs l name).length := by rw [HN7.out]; exact hlt
                  have hx7 := HER.out.cell (hc7 k _ (List.getElem?_eq_getElem hkl))
                  have hx8 := HER.out.cell (hc8 k _ (List.getElem?_eq_getElem hkl))
                  clear hc7 hc8
                  generalize (whyR rs l name)[k] = x at *
                  have hxx : ((x : Int) != (x : Int)) = false := by simp
                  go_wp2_with (fail)
                  go_quiet (fail)
                  go_wp2_with (fail)
                  go_roundw
                  case rel => exact ⟨k + 1, by omega, by go_num, HER.out.drewN _⟩
                  case measure => simp [intOf]; omega
                · go_wp2_with (fail)
                  go_ret
                  exact ⟨rfl, HE8.out.trans HER.out⟩
            · have hd0 := hE7.cell (((Ext.refl _).alloc _).cell hc0)
              have hd1 := hE7.cell (((Ext.refl _).alloc _).cell hc1)
              clear hc0 hc1
              have HE7 := Lib.hid ((HE5.out.alloc _).trans hE7); clear hE7
              have HIN := Lib.hid hin; clear hin
              go_wp2_with (first | (go_at_call 35; refine (why_none _ _ _ u rs l name _ (HIU.out.ext HE7.out) (HIR.out.ext HE7.out) (HV.out.ext HE7.out) HN0.out HIN.out HN.out).mono ?_; rintro e w8 ⟨rfl, hE8⟩; have HE8 := Lib.hid (HE7.out.trans hE8); clear hE8 hd0 hd1))
              go_loopw [13] (fun vi wr => vi = .int .i64 0 ∧ wr = w8) (fun vi _ => 0)
              case atStart => exact ⟨rfl, rfl⟩
              case round =>
                obtain ⟨rfl, rfl⟩ := hrel
                go_wp2_with (fail)
                go_ret
                exact ⟨rfl, HE8.out⟩
          · have HN0 := Lib.hid hn0
            have HC0 := Lib.hid h0
            have HS0 := Lib.hid h1
            have HN := Lib.hid hn
            clear hn0 h0 h1 hn hsub hno
            go_enter Try.func8, Try.ntmps8
            go_upto_region 1 with (fail)
            have hc0 : (w.alloc (.cells #[.slice A n c, encS name] 53)).cell? ⟨w.heap.size, 0, none⟩ = some (.slice A n c) := (Blk.new _ _ _).cell 0
            have hc1 : (w.alloc (.cells #[.slice A n c, encS name] 53)).cell? ⟨w.heap.size, 1, none⟩ = some (encS name) := (Blk.new _ _ _).cell 1
            have hEa : Ext w (w.alloc (.cells #[.slice A n c, encS name] 53)) := (Ext.refl w).alloc _
            generalize w.alloc (.cells #[.slice A n c, encS name] 53) = wa at *
            have HEA := Lib.hid hEa; clear hEa
            go_wp2_with (first | (go_at_call 15; refine (awake_any _).mono ?_; rintro e w1 ⟨rfl, hE1⟩; have hd0 := hE1.cell hc0; have hd1 := hE1.cell hc1; clear hc0 hc1; have hc0 := hd0; clear hd0; have hc1 := hd1; clear hd1; have hb1 := (World.block_lt_of_cell? _ _ hc0 : w.heap.size < w1.heap.size); have HE1 := Lib.hid (HEA.out.trans hE1); clear hE1) | (go_at_call 16; refine (heavy_any _ _ u rs _ (HU.out.ext HE1.out) (HR.out.ext HE1.out)).mono ?_; rintro e w2 ⟨rfl, rfl⟩; rw [HH.out]) | (go_at_call 17; refine (refCheck_any _ _ u rs _ (HU.out.ext HE1.out) HUM.out (HR.out.ext HE1.out)).mono ?_; rintro e w3 ⟨rfl, hE3⟩; have hd0 := hE3.cell hc0; have hd1 := hE3.cell hc1; clear hc0 hc1; have hc0 := hd0; clear hd0; have hc1 := hd1; clear hd1; have hb3 := (World.block_lt_of_cell? _ _ hc0 : w.heap.size < w3.heap.size); have HE3 := Lib.hid (HE1.out.trans hE3); clear hE3; rw [HC0.out]) | (go_at_call 27; refine (refSet_any _ _ u l _ (HU.out.ext HE3.out) (HV.out.ext HE3.out)).mono ?_; rintro e w5 ⟨rfl, n5, hw5⟩; have hE5 := hw5 ▸ (Ext.refl _).drewN n5; clear hw5; have hd0 := hE5.cell hc0; have hd1 := hE5.cell hc1; clear hc0 hc1; have hc0 := hd0; clear hd0; have hc1 := hd1; clear hd1; have hb5 := (World.block_lt_of_cell? _ _ hc0 : w.heap.size < w5.heap.size); have HE5 := Lib.hid (HE3.out.trans hE5); clear hE5; rw [HS0.out]) | (go_at_call 33; refine (has_any _ u name _ (HU.out.ext HE5.out)).mono ?_; rintro e w6 ⟨rfl, rfl⟩; rw [decide_eq_false HN.out]) | (go_at_call 35; refine (why_name _ _ _ u rs l name _ (HIU.out.ext (HE5.out.alloc _)) (HIR.out.ext (HE5.out.alloc _)) (HV.out.ext (HE5.out.alloc _)) HN0.out HN.out).mono ?_; rintro e w8 ⟨rfl, hE8⟩; have HE8 := Lib.hid ((HE5.out.alloc _).trans hE8); clear hE8 hc0 hc1))
            go_loopw [13] (fun vi wr => vi = .int .i64 0 ∧ wr = w8) (fun vi _ => 0)
            case atStart => exact ⟨rfl, rfl⟩
            case round =>
              obtain ⟨rfl, rfl⟩ := hrel
              go_wp2_with (fail)
              go_ret
              exact ⟨rfl, HE8.out⟩
        · have hen : check2E u rs l = setE u l := by unfold check2E; rw [if_pos h0]
          have HN0 : Hid (check2E u rs l ≠ 0) := Lib.hid (by rw [hen]; exact h1)
          have HEN := Lib.hid hen
          have hzb : (setE u l != 0) = true := by simpa using h1
          have hzc : (setE u l == 0) = false := by simpa using h1
          have HC0 := Lib.hid h0
          clear h0 h1 hen hno
          generalize hg : setE u l = er at *
          have HG := Lib.hid hg; clear hg
          have HS0 := HG
          go_enter Try.func8, Try.ntmps8
          go_upto_region 1 with (fail)
          have hc0 : (w.alloc (.cells #[.slice A n c, encS name] 53)).cell? ⟨w.heap.size, 0, none⟩ = some (.slice A n c) := (Blk.new _ _ _).cell 0
          have hc1 : (w.alloc (.cells #[.slice A n c, encS name] 53)).cell? ⟨w.heap.size, 1, none⟩ = some (encS name) := (Blk.new _ _ _).cell 1
          have hEa : Ext w (w.alloc (.cells #[.slice A n c, encS name] 53)) := (Ext.refl w).alloc _
          generalize w.alloc (.cells #[.slice A n c, encS name] 53) = wa at *
          have HEA := Lib.hid hEa; clear hEa
          go_wp2_with (first | (go_at_call 15; refine (awake_any _).mono ?_; rintro e w1 ⟨rfl, hE1⟩; have hd0 := hE1.cell hc0; have hd1 := hE1.cell hc1; clear hc0 hc1; have hc0 := hd0; clear hd0; have hc1 := hd1; clear hd1; have hb1 := (World.block_lt_of_cell? _ _ hc0 : w.heap.size < w1.heap.size); have HE1 := Lib.hid (HEA.out.trans hE1); clear hE1) | (go_at_call 16; refine (heavy_any _ _ u rs _ (HU.out.ext HE1.out) (HR.out.ext HE1.out)).mono ?_; rintro e w2 ⟨rfl, rfl⟩; rw [HH.out]) | (go_at_call 17; refine (refCheck_any _ _ u rs _ (HU.out.ext HE1.out) HUM.out (HR.out.ext HE1.out)).mono ?_; rintro e w3 ⟨rfl, hE3⟩; have hd0 := hE3.cell hc0; have hd1 := hE3.cell hc1; clear hc0 hc1; have hc0 := hd0; clear hd0; have hc1 := hd1; clear hd1; have hb3 := (World.block_lt_of_cell? _ _ hc0 : w.heap.size < w3.heap.size); have HE3 := Lib.hid (HE1.out.trans hE3); clear hE3; rw [HC0.out]) | (go_at_call 27; refine (refSet_any _ _ u l _ (HU.out.ext HE3.out) (HV.out.ext HE3.out)).mono ?_; rintro e w5 ⟨rfl, n5, hw5⟩; have hE5 := hw5 ▸ (Ext.refl _).drewN n5; clear hw5; have hd0 := hE5.cell hc0; have hd1 := hE5.cell hc1; clear hc0 hc1; have hc0 := hd0; clear hd0; have hc1 := hd1; clear hd1; have hb5 := (World.block_lt_of_cell? _ _ hc0 : w.heap.size < w5.heap.size); have HE5 := Lib.hid (HE3.out.trans hE5); clear hE5; rw [HS0.out]) | (go_at_call 35; refine (why_err _ _ _ u rs l name _ (HIU.out.ext (HE5.out.alloc _)) (HIR.out.ext (HE5.out.alloc _)) (HV.out.ext (HE5.out.alloc _)) HN0.out).mono ?_; rintro e w8 ⟨rfl, hE8⟩; have HE8 := Lib.hid ((HE5.out.alloc _).trans hE8); clear hE8 hc0 hc1; rw [HEN.out]))
          go_loopw [13] (fun vi wr => vi = .int .i64 0 ∧ wr = w8) (fun vi _ => 0)
          case atStart => exact ⟨rfl, rfl⟩
          case round =>
            obtain ⟨rfl, rfl⟩ := hrel
            go_wp2_with (fail)
            go_ret
            exact ⟨rfl, HE8.out⟩
      · have hen : check2E u rs l = checkE u rs := by unfold check2E; rw [if_neg h0]
        have HN0 : Hid (check2E u rs l ≠ 0) := Lib.hid (by rw [hen]; exact h0)
        have HEN := Lib.hid hen
        have hzb : (checkE u rs != 0) = true := by simpa using h0
        have hzc : (checkE u rs == 0) = false := by simpa using h0
        clear h0 hen hno
        generalize hg : checkE u rs = er at *
        have HG := Lib.hid hg; clear hg
        have HC0 := HG
        go_enter Try.func8, Try.ntmps8
        go_upto_region 1 with (fail)
        have hc0 : (w.alloc (.cells #[.slice A n c, encS name] 53)).cell? ⟨w.heap.size, 0, none⟩ = some (.slice A n c) := (Blk.new _ _ _).cell 0
        have hc1 : (w.alloc (.cells #[.slice A n c, encS name] 53)).cell? ⟨w.heap.size, 1, none⟩ = some (encS name) := (Blk.new _ _ _).cell 1
        have hEa : Ext w (w.alloc (.cells #[.slice A n c, encS name] 53)) := (Ext.refl w).alloc _
        generalize w.alloc (.cells #[.slice A n c, encS name] 53) = wa at *
        have HEA := Lib.hid hEa; clear hEa
        go_wp2_with (first | (go_at_call 15; refine (awake_any _).mono ?_; rintro e w1 ⟨rfl, hE1⟩; have hd0 := hE1.cell hc0; have hd1 := hE1.cell hc1; clear hc0 hc1; have hc0 := hd0; clear hd0; have hc1 := hd1; clear hd1; have hb1 := (World.block_lt_of_cell? _ _ hc0 : w.heap.size < w1.heap.size); have HE1 := Lib.hid (HEA.out.trans hE1); clear hE1) | (go_at_call 16; refine (heavy_any _ _ u rs _ (HU.out.ext HE1.out) (HR.out.ext HE1.out)).mono ?_; rintro e w2 ⟨rfl, rfl⟩; rw [HH.out]) | (go_at_call 17; refine (refCheck_any _ _ u rs _ (HU.out.ext HE1.out) HUM.out (HR.out.ext HE1.out)).mono ?_; rintro e w3 ⟨rfl, hE3⟩; have hd0 := hE3.cell hc0; have hd1 := hE3.cell hc1; clear hc0 hc1; have hc0 := hd0; clear hd0; have hc1 := hd1; clear hd1; have hb3 := (World.block_lt_of_cell? _ _ hc0 : w.heap.size < w3.heap.size); have HE3 := Lib.hid (HE1.out.trans hE3); clear hE3; rw [HC0.out]) | (go_at_call 35; refine (why_err _ _ _ u rs l name _ (HIU.out.ext (HE3.out.alloc _)) (HIR.out.ext (HE3.out.alloc _)) (HV.out.ext (HE3.out.alloc _)) HN0.out).mono ?_; rintro e w8 ⟨rfl, hE8⟩; have HE8 := Lib.hid ((HE3.out.alloc _).trans hE8); clear hE8 hc0 hc1; rw [HEN.out]))
        go_loopw [13] (fun vi wr => vi = .int .i64 0 ∧ wr = w8) (fun vi _ => 0)
        case atStart => exact ⟨rfl, rfl⟩
        case round =>
          obtain ⟨rfl, rfl⟩ := hrel
          go_wp2_with (fail)
          go_ret
          exact ⟨rfl, HE8.out⟩
end Go.Proofs.Ythgplaledmccgaa
