/-
  The walk of the law ClosureDerives: it returns true, whatever comes in.
-/
import Derived.Test.YthgplaledmccgaaW24
import Derived.Test.YthgplaledmccgaaSpec13
import Derived.Test.YthgplaledmccgaaLA
namespace Go.Proofs.Ythgplaledmccgaa
open Go.RowKit

set_option maxRecDepth 100000 in
set_option maxHeartbeats 8000000 in
theorem lawDerives_any (vu vs vf : Value) (u : List Nm) (rs : List RuleN) (l : List Nm) (name : Nm) (w : World) (hu : RdS w vu u) (hum : ∀ x ∈ u, x.length ≤ maxLen) (hr : RdR w vs rs) (hl : RdS w vf l) :
    Calls Try.prog 9 #[vu, vs, .agg #[vf, encS name]] w fun e w' => e = .returned (.bool true) ∧ Ext w w' := by
  have HU := Lib.hid hu
  have HR := Lib.hid hr
  have HUM := Lib.hid hum; clear hum
  have HV := Lib.hid hl
  obtain ⟨A, n, c, rfl, hln, -, hcm, -⟩ := hl
  unfold maxLen at hcm
  have HLN := Lib.hid hln; clear hln
  obtain ⟨Au, nu, cu, rfl, hlu, -, hcum, -⟩ := hu
  unfold maxLen at hcum
  have HLU := Lib.hid hlu; clear hlu
  obtain ⟨Ar, nr, cr, rfl, hlr, hncr, hcmr, -⟩ := hr
  unfold maxLen at hcmr
  have HLR := Lib.hid hlr; clear hlr
  cases hh : heavyB u rs with
  | true =>
    have HH := Lib.hid hh; clear hh
    go_enter Try.func9, Try.ntmps9
    go_upto_region 1 with (fail)
    have hc0 : (w.alloc (.cells #[.slice A n c, encS name] 53)).cell? ⟨w.heap.size, 0, none⟩ = some (.slice A n c) := (Blk.new _ _ _).cell 0
    have hc1 : (w.alloc (.cells #[.slice A n c, encS name] 53)).cell? ⟨w.heap.size, 1, none⟩ = some (encS name) := (Blk.new _ _ _).cell 1
    have hEa : Ext w (w.alloc (.cells #[.slice A n c, encS name] 53)) := (Ext.refl w).alloc _
    generalize w.alloc (.cells #[.slice A n c, encS name] 53) = wa at *
    have HEA := Lib.hid hEa; clear hEa
    go_wp2_with (first | (go_at_call 15; refine (awake_any _).mono ?_; rintro e w1 ⟨rfl, hE1⟩; have hd0 := hE1.cell hc0; have hd1 := hE1.cell hc1; clear hc0 hc1; have hc0 := hd0; clear hd0; have hc1 := hd1; clear hd1; have hb1 := (World.block_lt_of_cell? _ _ hc0 : w.heap.size < w1.heap.size); have HE1 := Lib.hid (HEA.out.trans hE1); clear hE1) | (go_at_call 16; refine (heavy_any _ _ u rs _ (HU.out.ext HE1.out) (HR.out.ext HE1.out)).mono ?_; rintro e w2 ⟨rfl, rfl⟩; rw [HH.out]))
    go_ret
    exact ⟨rfl, HE1.out⟩
  | false =>
    have HIU := Lib.hid (InU.of HU.out HUM.out hh)
    have HIR := Lib.hid (InR.of HR.out hh)
    have hno := heavyB_no hh
    have HH := Lib.hid hh; clear hh
    by_cases hx : 41 < n
    · go_enter Try.func9, Try.ntmps9
      go_upto_region 1 with (fail)
      have hc0 : (w.alloc (.cells #[.slice A n c, encS name] 53)).cell? ⟨w.heap.size, 0, none⟩ = some (.slice A n c) := (Blk.new _ _ _).cell 0
      have hc1 : (w.alloc (.cells #[.slice A n c, encS name] 53)).cell? ⟨w.heap.size, 1, none⟩ = some (encS name) := (Blk.new _ _ _).cell 1
      have hEa : Ext w (w.alloc (.cells #[.slice A n c, encS name] 53)) := (Ext.refl w).alloc _
      generalize w.alloc (.cells #[.slice A n c, encS name] 53) = wa at *
      have HEA := Lib.hid hEa; clear hEa
      go_wp2_with (first | (go_at_call 15; refine (awake_any _).mono ?_; rintro e w1 ⟨rfl, hE1⟩; have hd0 := hE1.cell hc0; have hd1 := hE1.cell hc1; clear hc0 hc1; have hc0 := hd0; clear hd0; have hc1 := hd1; clear hd1; have hb1 := (World.block_lt_of_cell? _ _ hc0 : w.heap.size < w1.heap.size); have HE1 := Lib.hid (HEA.out.trans hE1); clear hE1) | (go_at_call 16; refine (heavy_any _ _ u rs _ (HU.out.ext HE1.out) (HR.out.ext HE1.out)).mono ?_; rintro e w2 ⟨rfl, rfl⟩; rw [HH.out]))
      go_ret
      exact ⟨rfl, HE1.out⟩
    · have HLL : Hid (l.length ≤ 1048576) := Lib.hid (by have := HLN.out; omega)
      by_cases hn0 : check2E u rs l = 0
      · have h0 := (check2E_zero hn0).1
        have hsub := (check2E_zero hn0).2.2
        have HCE := Lib.hid (close_eq h0 hsub)
        by_cases hn : name ∈ u
        · have hwl := why_len (name := name) h0 hsub
          have HEQ := Lib.hid (why_eq h0 hsub hn)
          have HN0 := Lib.hid hn0
          have HN := Lib.hid hn
          have HWL : Hid ((whyR rs l name).length ≤ nu) := Lib.hid (by have := HLU.out; omega)
          have hnu40 : nu ≤ 40 := by have := HLU.out; omega
          have hrl : nr ≤ 60 := by have := HLR.out; omega
          have hmc := mem_closeR (u := u) (rs := rs) (l := l) (x := name)
          by_cases hin : name ∈ (chainR rs l).1
          · have HIN := Lib.hid hin
            have HINC : Hid (name ∈ closeR u rs l) := Lib.hid (hmc.2 ⟨hn, hin⟩)
            have HD1 := Lib.hid (why_derives (l := l) hin)
            have HLT := Lib.hid (why_lt (rs := rs) (l := l) (name := name))
            clear hn0 h0 hn hsub hwl hno hin hmc
            have TK1 : True := trivial
            go_enter Try.func9, Try.ntmps9
            go_upto_region 1 with (fail)
            have hc0 : (w.alloc (.cells #[.slice A n c, encS name] 53)).cell? ⟨w.heap.size, 0, none⟩ = some (.slice A n c) := (Blk.new _ _ _).cell 0
            have hc1 : (w.alloc (.cells #[.slice A n c, encS name] 53)).cell? ⟨w.heap.size, 1, none⟩ = some (encS name) := (Blk.new _ _ _).cell 1
            have hEa : Ext w (w.alloc (.cells #[.slice A n c, encS name] 53)) := (Ext.refl w).alloc _
            generalize w.alloc (.cells #[.slice A n c, encS name] 53) = wa at *
            have HEA := Lib.hid hEa; clear hEa
            go_wp2_with (first | (go_at_call 15; refine (awake_any _).mono ?_; rintro e w1 ⟨rfl, hE1⟩; have hd0 := hE1.cell hc0; have hd1 := hE1.cell hc1; clear hc0 hc1; have hc0 := hd0; clear hd0; have hc1 := hd1; clear hd1; have hb1 := (World.block_lt_of_cell? _ _ hc0 : w.heap.size < w1.heap.size); have HE1 := Lib.hid (HEA.out.trans hE1); clear hE1) | (go_at_call 16; refine (heavy_any _ _ u rs _ (HU.out.ext HE1.out) (HR.out.ext HE1.out)).mono ?_; rintro e w2 ⟨rfl, rfl⟩; rw [HH.out]) | (go_at_call 28; refine (close_ok _ _ _ u rs l _ (HIU.out.ext HE1.out) (HIR.out.ext HE1.out) (HV.out.ext HE1.out) HN0.out).mono ?_; rintro e w7 ⟨v7, rfl, hs7, hE7⟩; rw [HCE.out] at hs7; have HS7 := Lib.hid hs7; clear hs7; have hd0 := hE7.cell hc0; have hd1 := hE7.cell hc1; clear hc0 hc1; have hc0 := hd0; clear hd0; have hc1 := hd1; clear hd1; have hb7 := (World.block_lt_of_cell? _ _ hc0 : w.heap.size < w7.heap.size); have HE7 := Lib.hid (HE1.out.trans hE7); clear hE7) | (go_at_call 33; clear TK1; refine (has_any _ u name _ (HU.out.ext HE7.out)).mono ?_; rintro e w6 ⟨rfl, rfl⟩; rw [decide_eq_true HN.out]) | (go_at_call 35; refine (why_ok _ _ _ u rs l name _ (HIU.out.ext HE7.out) (HIR.out.ext HE7.out) (HV.out.ext HE7.out) HN0.out HN.out HIN.out).mono ?_; rintro e w8 ⟨v8, rfl, hr8, hE8⟩; rw [HEQ.out] at hr8; have HR8 := Lib.hid hr8; have HS8 := Lib.hid (HS7.out.ext hE8); have hd0 := hE8.cell hc0; have hd1 := hE8.cell hc1; clear hc0 hc1; have hc0 := hd0; clear hd0; have hc1 := hd1; clear hd1; have hb8 := (World.block_lt_of_cell? _ _ hc0 : w.heap.size < w8.heap.size); have HE8 := Lib.hid (HE7.out.trans hE8); clear hE8; obtain ⟨A8, n8, c8, rfl, hn8, hnc8, hcm8, hcell8⟩ := hr8; have hnn : n8 ≤ nu := (by have := HWL.out; omega); have hdd : decide (nu < n8) = false := decide_eq_false (by omega); unfold maxLen at hcm8; have HC8 := Lib.hid hcell8; clear hcell8; have HN8 := Lib.hid hn8; clear hn8))
            go_wp2_with (first | (go_at_call 33; refine (has_any _ (closeR u rs l) name _ HS8.out).mono ?_; rintro e w6 ⟨rfl, rfl⟩; rw [decide_eq_true HINC.out]) | (go_at_call 36; refine (derives_any _ _ _ rs l (whyR rs l name) (-1) name _ (HR.out.ext HE8.out) (HV.out.ext HE8.out) HR8.out HLL.out (by have := HN8.out; omega) HLT.out).mono ?_; rintro e w9 ⟨rfl, hE9⟩; rw [HD1.out]; have HE98 := Lib.hid hE9; have hd0 := hE9.cell hc0; have hd1 := hE9.cell hc1; clear hc0 hc1; have hc0 := hd0; clear hd0; have hc1 := hd1; clear hd1; have hb9 := (World.block_lt_of_cell? _ _ hc0 : w.heap.size < w9.heap.size); have HE9 := Lib.hid (HE8.out.trans hE9); clear hE9))
            go_loopw [11] (fun vi wr => ∃ k : Nat, k ≤ n8 ∧ vi = .int .i64 k ∧ Ext w9 wr) (fun vi _ => n8 - (intOf vi).toNat)
            case atStart => exact ⟨0, Nat.zero_le _, rfl, Ext.refl _⟩
            case round =>
              obtain ⟨k, hk, rfl, hEr⟩ := hrel
              have hd0 := hEr.cell hc0
              have hd1 := hEr.cell hc1
              have hbr : w.heap.size < wr.heap.size := World.block_lt_of_cell? _ _ hd0
              have HER := Lib.hid hEr; clear hEr
              by_cases hlt : k < n8
              · have HTI := Lib.hid (why_tight (rs := rs) (l := l) (name := name) (j := k) (by rw [HN8.out]; exact hlt))
                go_wp2_with (first | (go_at_call 36; refine (derives_any _ _ _ rs l (whyR rs l name) (k : Int) name _ (HR.out.ext (HE9.out.trans HER.out)) (HV.out.ext (HE9.out.trans HER.out)) (HR8.out.ext (HE98.out.trans HER.out)) HLL.out (by have := HN8.out; omega) HLT.out).mono ?_; rintro e w10 ⟨rfl, hE10⟩; rw [HTI.out]; have HE10 := Lib.hid hE10; clear hE10))
                go_roundw
                case rel => exact ⟨k + 1, by omega, by go_num, HER.out.trans HE10.out⟩
                case measure => simp [intOf]; omega
              · by_cases hz : n8 = 0
                · have hzb : ((n8 : Int) == 0) = true := by simpa using hz
                  clear hz
                  go_wp2_with (fail)
                  go_quiet (fail)
                  go_wp2_with (fail)
                  go_ret
                  exact ⟨rfl, (HE9.out.trans HER.out).drewN _⟩
                · have hzb : ((n8 : Int) == 0) = false := by simpa using hz
                  obtain ⟨x, hlast⟩ : ∃ x, (whyR rs l name)[n8 - 1]? = some x := ⟨_, List.getElem?_eq_getElem (by rw [HN8.out]; omega)⟩
                  have hcnc := why_last (rs := rs) (l := l) (name := name) (i := x) (by rw [List.getLast?_eq_getElem?, HN8.out]; exact hlast)
                  have hlti := HLT.out _ (List.mem_of_getElem? hlast)
                  obtain ⟨b8, o8, rfl, hb8, hc8⟩ := HC8.out (by omega)
                  have hx8 := (HE98.out.trans HER.out).cell (hc8 (n8 - 1) _ hlast)
                  clear hc8 hlast
                  have hrr := HR.out.ext (HE9.out.trans HER.out)
                  obtain ⟨Ar', nr', cr', he, -, -, -, hclr⟩ := hrr
                  injection he with e1 e2 e3
                  subst e1 e2 e3
                  have hir : x < nr := by have := HLR.out; omega
                  obtain ⟨br, offr, rfl, hbr2, hclr2⟩ := hclr (by omega)
                  obtain ⟨q, hr1, hr2, hr3⟩ := hclr2 x _ (List.getElem?_eq_getElem hlti)
                  have hgd : rs.getD x ([], []) = rs[x] := by rw [List.getD_eq_getElem?_getD, List.getElem?_eq_getElem hlti]; rfl
                  rw [hgd] at hcnc
                  rw [hcnc] at hr2
                  have hI : IntKind.i64.wrap ((n8 : Int) - 1) = ((n8 - 1 : Nat) : Int) := by rw [IntWalk.i64_in _ (by omega)]; omega
                  have hn1 : 0 < n8 := by omega
                  have hn2 : n8 - 1 < n8 := by omega
                  clear hr1 hr3 hclr hclr2 hgd hcnc hz
                  go_wp2_with (fail)
                  go_quiet (fail)
                  go_wp2_with (fail)
                  go_ret
                  exact ⟨ret_bool (by simp), (HE9.out.trans HER.out).drewN _⟩
          · have HIN := Lib.hid hin
            have HINC : Hid (¬ name ∈ closeR u rs l) := Lib.hid fun h => hin (hmc.1 h).2
            clear hn0 h0 hn hsub hwl hno hin hmc
            have TK1 : True := trivial
            go_enter Try.func9, Try.ntmps9
            go_upto_region 1 with (fail)
            have hc0 : (w.alloc (.cells #[.slice A n c, encS name] 53)).cell? ⟨w.heap.size, 0, none⟩ = some (.slice A n c) := (Blk.new _ _ _).cell 0
            have hc1 : (w.alloc (.cells #[.slice A n c, encS name] 53)).cell? ⟨w.heap.size, 1, none⟩ = some (encS name) := (Blk.new _ _ _).cell 1
            have hEa : Ext w (w.alloc (.cells #[.slice A n c, encS name] 53)) := (Ext.refl w).alloc _
            generalize w.alloc (.cells #[.slice A n c, encS name] 53) = wa at *
            have HEA := Lib.hid hEa; clear hEa
            go_wp2_with (first | (go_at_call 15; refine (awake_any _).mono ?_; rintro e w1 ⟨rfl, hE1⟩; have hd0 := hE1.cell hc0; have hd1 := hE1.cell hc1; clear hc0 hc1; have hc0 := hd0; clear hd0; have hc1 := hd1; clear hd1; have hb1 := (World.block_lt_of_cell? _ _ hc0 : w.heap.size < w1.heap.size); have HE1 := Lib.hid (HEA.out.trans hE1); clear hE1) | (go_at_call 16; refine (heavy_any _ _ u rs _ (HU.out.ext HE1.out) (HR.out.ext HE1.out)).mono ?_; rintro e w2 ⟨rfl, rfl⟩; rw [HH.out]) | (go_at_call 28; refine (close_ok _ _ _ u rs l _ (HIU.out.ext HE1.out) (HIR.out.ext HE1.out) (HV.out.ext HE1.out) HN0.out).mono ?_; rintro e w7 ⟨v7, rfl, hs7, hE7⟩; rw [HCE.out] at hs7; have HS7 := Lib.hid hs7; clear hs7; have hd0 := hE7.cell hc0; have hd1 := hE7.cell hc1; clear hc0 hc1; have hc0 := hd0; clear hd0; have hc1 := hd1; clear hd1; have hb7 := (World.block_lt_of_cell? _ _ hc0 : w.heap.size < w7.heap.size); have HE7 := Lib.hid (HE1.out.trans hE7); clear hE7) | (go_at_call 33; clear TK1; refine (has_any _ u name _ (HU.out.ext HE7.out)).mono ?_; rintro e w6 ⟨rfl, rfl⟩; rw [decide_eq_true HN.out]) | (go_at_call 35; refine (why_none _ _ _ u rs l name _ (HIU.out.ext HE7.out) (HIR.out.ext HE7.out) (HV.out.ext HE7.out) HN0.out HIN.out HN.out).mono ?_; rintro e w8 ⟨rfl, hE8⟩; have HS8 := Lib.hid (HS7.out.ext hE8); have hd0 := hE8.cell hc0; have hd1 := hE8.cell hc1; clear hc0 hc1; have hc0 := hd0; clear hd0; have hc1 := hd1; clear hd1; have hb8 := (World.block_lt_of_cell? _ _ hc0 : w.heap.size < w8.heap.size); have HE8 := Lib.hid (HE7.out.trans hE8); clear hE8))
            go_wp2_with (first | (go_at_call 33; refine (has_any _ (closeR u rs l) name _ HS8.out).mono ?_; rintro e w6 ⟨rfl, rfl⟩; rw [decide_eq_false HINC.out]))
            go_ret
            exact ⟨rfl, HE8.out⟩
        · have HN0 := Lib.hid hn0
          have HN := Lib.hid hn
          clear hn0 h0 hn hsub hno
          have TK1 : True := trivial
          go_enter Try.func9, Try.ntmps9
          go_upto_region 1 with (fail)
          have hc0 : (w.alloc (.cells #[.slice A n c, encS name] 53)).cell? ⟨w.heap.size, 0, none⟩ = some (.slice A n c) := (Blk.new _ _ _).cell 0
          have hc1 : (w.alloc (.cells #[.slice A n c, encS name] 53)).cell? ⟨w.heap.size, 1, none⟩ = some (encS name) := (Blk.new _ _ _).cell 1
          have hEa : Ext w (w.alloc (.cells #[.slice A n c, encS name] 53)) := (Ext.refl w).alloc _
          generalize w.alloc (.cells #[.slice A n c, encS name] 53) = wa at *
          have HEA := Lib.hid hEa; clear hEa
          go_wp2_with (first | (go_at_call 15; refine (awake_any _).mono ?_; rintro e w1 ⟨rfl, hE1⟩; have hd0 := hE1.cell hc0; have hd1 := hE1.cell hc1; clear hc0 hc1; have hc0 := hd0; clear hd0; have hc1 := hd1; clear hd1; have hb1 := (World.block_lt_of_cell? _ _ hc0 : w.heap.size < w1.heap.size); have HE1 := Lib.hid (HEA.out.trans hE1); clear hE1) | (go_at_call 16; refine (heavy_any _ _ u rs _ (HU.out.ext HE1.out) (HR.out.ext HE1.out)).mono ?_; rintro e w2 ⟨rfl, rfl⟩; rw [HH.out]) | (go_at_call 28; refine (close_ok _ _ _ u rs l _ (HIU.out.ext HE1.out) (HIR.out.ext HE1.out) (HV.out.ext HE1.out) HN0.out).mono ?_; rintro e w7 ⟨v7, rfl, hs7, hE7⟩; rw [HCE.out] at hs7; have HS7 := Lib.hid hs7; clear hs7; have hd0 := hE7.cell hc0; have hd1 := hE7.cell hc1; clear hc0 hc1; have hc0 := hd0; clear hd0; have hc1 := hd1; clear hd1; have hb7 := (World.block_lt_of_cell? _ _ hc0 : w.heap.size < w7.heap.size); have HE7 := Lib.hid (HE1.out.trans hE7); clear hE7) | (go_at_call 33; clear TK1; refine (has_any _ u name _ (HU.out.ext HE7.out)).mono ?_; rintro e w6 ⟨rfl, rfl⟩; rw [decide_eq_false HN.out]))
          go_ret
          exact ⟨rfl, HE7.out⟩
      · have HN0 := Lib.hid hn0
        have hzb : (check2E u rs l != 0) = true := by simpa using hn0
        clear hn0 hno
        go_enter Try.func9, Try.ntmps9
        go_upto_region 1 with (fail)
        have hc0 : (w.alloc (.cells #[.slice A n c, encS name] 53)).cell? ⟨w.heap.size, 0, none⟩ = some (.slice A n c) := (Blk.new _ _ _).cell 0
        have hc1 : (w.alloc (.cells #[.slice A n c, encS name] 53)).cell? ⟨w.heap.size, 1, none⟩ = some (encS name) := (Blk.new _ _ _).cell 1
        have hEa : Ext w (w.alloc (.cells #[.slice A n c, encS name] 53)) := (Ext.refl w).alloc _
        generalize w.alloc (.cells #[.slice A n c, encS name] 53) = wa at *
        have HEA := Lib.hid hEa; clear hEa
        go_wp2_with (first | (go_at_call 15; refine (awake_any _).mono ?_; rintro e w1 ⟨rfl, hE1⟩; have hd0 := hE1.cell hc0; have hd1 := hE1.cell hc1; clear hc0 hc1; have hc0 := hd0; clear hd0; have hc1 := hd1; clear hd1; have hb1 := (World.block_lt_of_cell? _ _ hc0 : w.heap.size < w1.heap.size); have HE1 := Lib.hid (HEA.out.trans hE1); clear hE1) | (go_at_call 16; refine (heavy_any _ _ u rs _ (HU.out.ext HE1.out) (HR.out.ext HE1.out)).mono ?_; rintro e w2 ⟨rfl, rfl⟩; rw [HH.out]) | (go_at_call 28; refine (close_err _ _ _ u rs l _ (HIU.out.ext HE1.out) (HIR.out.ext HE1.out) (HV.out.ext HE1.out) HN0.out).mono ?_; rintro e w7 ⟨rfl, hE7⟩; have hd0 := hE7.cell hc0; have hd1 := hE7.cell hc1; clear hc0 hc1; have hc0 := hd0; clear hd0; have hc1 := hd1; clear hd1; have hb7 := (World.block_lt_of_cell? _ _ hc0 : w.heap.size < w7.heap.size); have HE7 := Lib.hid (HE1.out.trans hE7); clear hE7))
        go_ret
        exact ⟨rfl, HE7.out⟩
end Go.Proofs.Ythgplaledmccgaa
