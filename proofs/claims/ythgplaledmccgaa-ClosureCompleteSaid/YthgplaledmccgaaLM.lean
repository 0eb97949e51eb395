/-
  The walk of the law ClosureComplete: it returns true, whatever comes in.
-/
import Derived.Test.YthgplaledmccgaaSpec14
import Derived.Test.YthgplaledmccgaaLA
import Derived.Deep.RegionHeld3
namespace Go.Proofs.Ythgplaledmccgaa
open Go.RowKit

/-- a slice of one rule just made -/
theorem inR_one {W : World} {A : Option Addr} {n c : Nat} {r : RuleN} (b : Nat) (hB : Blk W b 35 #[.slice A n c, encS r.2]) (hl : RdS W (.slice A n c) r.1) (hs : r.1.length ≤ 1048576) : InR W (.slice (some ⟨b, 0, none⟩) 1 1) [r] := by
  refine ⟨⟨_, _, _, rfl, rfl, Nat.le_refl _, by decide, fun _ => ⟨_, 0, rfl, hB.lt, fun j x hj => ?_⟩⟩, by simp, fun x hx => by rw [List.mem_singleton] at hx; rw [hx]; exact hs⟩
  have hj0 : j = 0 := by
    have := (List.getElem?_eq_some_iff.1 hj).1
    simp at this; exact this
  subst hj0
  simp only [List.getElem?_cons_zero, Option.some.injEq] at hj
  subst hj
  exact ⟨_, hB.cell 0, hB.cell 1, hl⟩

set_option maxRecDepth 100000 in
set_option maxHeartbeats 8000000 in
theorem lawComplete_any (vu vs vf : Value) (u : List Nm) (rs : List RuleN) (r : RuleN) (w : World) (hu : RdS w vu u) (hum : ∀ x ∈ u, x.length ≤ maxLen) (hr : RdR w vs rs) (hl : RdS w vf r.1) :
    Calls Try.prog 10 #[vu, vs, .agg #[vf, encS r.2]] w fun e w' => e = .returned (.bool true) ∧ Ext w w' := by
  have HU := Lib.hid hu
  have HR := Lib.hid hr; clear hr
  have HUM := Lib.hid hum; clear hum
  have HV := Lib.hid hl
  obtain ⟨Au, nu, cu, rfl, hlnu, -, hcmu, -⟩ := hu
  obtain ⟨A, n, c, rfl, hln, -, hcm, -⟩ := hl
  unfold maxLen at hcm hcmu
  have HLN := Lib.hid hln; clear hln
  have HLNU := Lib.hid hlnu; clear hlnu
  by_cases h8 : 8 < nu
  · go_enter Try.func10, Try.ntmps10
    go_upto_region 1 with (fail)
    have hc0 : (w.alloc (.cells #[.slice A n c, encS r.2] 35)).cell? ⟨w.heap.size, 0, none⟩ = some (.slice A n c) := (Blk.new _ _ _).cell 0
    have hc1 : (w.alloc (.cells #[.slice A n c, encS r.2] 35)).cell? ⟨w.heap.size, 1, none⟩ = some (encS r.2) := (Blk.new _ _ _).cell 1
    have hEa : Ext w (w.alloc (.cells #[.slice A n c, encS r.2] 35)) := (Ext.refl w).alloc _
    generalize w.alloc (.cells #[.slice A n c, encS r.2] 35) = wa at *
    have HEA := Lib.hid hEa; clear hEa
    go_wp2_with (first | (go_at_call 15; refine (awake_any _).mono ?_; rintro e w1 ⟨rfl, hE1⟩; have hd0 := hE1.cell hc0; have hd1 := hE1.cell hc1; clear hc0 hc1; have HE1 := Lib.hid (HEA.out.trans hE1); clear hE1))
    go_ret
    exact ⟨rfl, HE1.out⟩
  · cases hh : heavyB u rs with
    | true =>
      have HH := Lib.hid hh; clear hh
      go_enter Try.func10, Try.ntmps10
      go_upto_region 1 with (fail)
      have hc0 : (w.alloc (.cells #[.slice A n c, encS r.2] 35)).cell? ⟨w.heap.size, 0, none⟩ = some (.slice A n c) := (Blk.new _ _ _).cell 0
      have hc1 : (w.alloc (.cells #[.slice A n c, encS r.2] 35)).cell? ⟨w.heap.size, 1, none⟩ = some (encS r.2) := (Blk.new _ _ _).cell 1
      have hEa : Ext w (w.alloc (.cells #[.slice A n c, encS r.2] 35)) := (Ext.refl w).alloc _
      generalize w.alloc (.cells #[.slice A n c, encS r.2] 35) = wa at *
      have HEA := Lib.hid hEa; clear hEa
      go_wp2_with (first | (go_at_call 15; refine (awake_any _).mono ?_; rintro e w1 ⟨rfl, hE1⟩; have hd0 := hE1.cell hc0; have hd1 := hE1.cell hc1; clear hc0 hc1; have HE1 := Lib.hid (HEA.out.trans hE1); clear hE1) | (go_at_call 16; refine (heavy_any _ _ u rs _ (HU.out.ext HE1.out) (HR.out.ext HE1.out)).mono ?_; rintro e w2 ⟨rfl, rfl⟩; rw [HH.out]))
      go_ret
      exact ⟨rfl, HE1.out⟩
    | false =>
      have HIU := Lib.hid (InU.of HU.out HUM.out hh)
      have HIR := Lib.hid (InR.of HR.out hh)
      have HSZ : Hid (rs.length ≤ 1000000) := Lib.hid (by have := (heavyB_no hh).2.1; omega)
      have HH := Lib.hid hh; clear hh
      by_cases hx : 8 < n
      · go_enter Try.func10, Try.ntmps10
        go_upto_region 1 with (fail)
        have hc0 : (w.alloc (.cells #[.slice A n c, encS r.2] 35)).cell? ⟨w.heap.size, 0, none⟩ = some (.slice A n c) := (Blk.new _ _ _).cell 0
        have hc1 : (w.alloc (.cells #[.slice A n c, encS r.2] 35)).cell? ⟨w.heap.size, 1, none⟩ = some (encS r.2) := (Blk.new _ _ _).cell 1
        have hEa : Ext w (w.alloc (.cells #[.slice A n c, encS r.2] 35)) := (Ext.refl w).alloc _
        generalize w.alloc (.cells #[.slice A n c, encS r.2] 35) = wa at *
        have HEA := Lib.hid hEa; clear hEa
        go_wp2_with (first | (go_at_call 15; refine (awake_any _).mono ?_; rintro e w1 ⟨rfl, hE1⟩; have hd0 := hE1.cell hc0; have hd1 := hE1.cell hc1; clear hc0 hc1; have HE1 := Lib.hid (HEA.out.trans hE1); clear hE1) | (go_at_call 16; refine (heavy_any _ _ u rs _ (HU.out.ext HE1.out) (HR.out.ext HE1.out)).mono ?_; rintro e w2 ⟨rfl, rfl⟩; rw [HH.out]))
        go_ret
        exact ⟨rfl, HE1.out⟩
      · have HSF : Hid (r.1.length ≤ 1048576) := Lib.hid (by have := HLN.out; omega)
        by_cases h0 : entE u rs r = 0
        · have hc0' : checkE u rs = 0 := by
            unfold entE at h0
            by_cases h : checkE u rs = 0
            · exact h
            · rw [if_neg h] at h0; exact absurd h0 h
          have hr0 : ruleE u r = 0 := by unfold entE at h0; rwa [if_pos hc0'] at h0
          have HN0 := Lib.hid h0
          have HEB : Hid (entB u rs r = entR u rs r) := Lib.hid (entB_eq hc0' (ruleE_ok.1 hr0))
          have HCO := Lib.hid (complete_eq hc0' (ruleE_ok.1 hr0))
          have HAL := Lib.hid (all_eq hc0')
          have HC0 := Lib.hid hc0'
          have HR0 := Lib.hid hr0
          have hn8 : u.length ≤ 8 := by rw [HLNU.out]; omega
          have HN8 := Lib.hid hn8
          have hll : (allRef u rs).length ≤ 256 := by
            unfold allRef
            refine Nat.le_trans (List.length_filter_le _ _) ?_
            rw [subsetsN_len]
            exact Nat.le_trans (Nat.pow_le_pow_right (n := 2) (j := 8) (by decide) hn8) (by decide)
          have HLL := Lib.hid hll
          clear h0 hc0' hr0 hn8 hll
          go_enter Try.func10, Try.ntmps10
          go_upto_region 1 with (fail)
          have hc0 : (w.alloc (.cells #[.slice A n c, encS r.2] 35)).cell? ⟨w.heap.size, 0, none⟩ = some (.slice A n c) := (Blk.new _ _ _).cell 0
          have hc1 : (w.alloc (.cells #[.slice A n c, encS r.2] 35)).cell? ⟨w.heap.size, 1, none⟩ = some (encS r.2) := (Blk.new _ _ _).cell 1
          have hEa : Ext w (w.alloc (.cells #[.slice A n c, encS r.2] 35)) := (Ext.refl w).alloc _
          generalize w.alloc (.cells #[.slice A n c, encS r.2] 35) = wa at *
          have HEA := Lib.hid hEa; clear hEa
          go_wp2_with (first | (go_at_call 15; refine (awake_any _).mono ?_; rintro e w1 ⟨rfl, hE1⟩; have hd0 := hE1.cell hc0; have hd1 := hE1.cell hc1; clear hc0 hc1; have HE1 := Lib.hid (HEA.out.trans hE1); clear hE1) | (go_at_call 16; refine (heavy_any _ _ u rs _ (HU.out.ext HE1.out) (HR.out.ext HE1.out)).mono ?_; rintro e w2 ⟨rfl, rfl⟩; rw [HH.out]) | (go_at_call 22; refine (entails_ok _ _ _ u rs r _ (HIU.out.ext HE1.out) (HIR.out.ext HE1.out) (HV.out.ext HE1.out) HN0.out HSZ.out HSF.out).mono ?_; rintro e w5 ⟨rfl, hE5⟩; rw [HEB.out]; have hg0 := hE5.cell hd0; have hg1 := hE5.cell hd1; clear hd0 hd1; have HE5 := Lib.hid (HE1.out.trans hE5); clear hE5))
          refine (all_any _ _ u rs 256 _ (HIU.out.ext HE5.out) (HIR.out.ext HE5.out) HC0.out (by decide) HN8.out).mono ?_
          rintro e w6 (⟨hlt, rfl, hE6⟩ | ⟨hle, v6, rfl, hss6, hE6⟩)
          · rw [HAL.out] at hlt
            exact absurd HLL.out (by omega)
          · clear hle
            rw [HAL.out] at hss6
            have hh0 := hE6.cell hg0
            have hh1 := hE6.cell hg1
            clear hg0 hg1
            have HE6 := Lib.hid (HE5.out.trans hE6); clear hE6
            have hrd6 := hss6.rd
            obtain ⟨qs6, h61, h62, h63⟩ := hrd6
            have h61' := h61
            obtain ⟨A6, n6, c6, rfl, hn6, hnc6, hcm6, hcell6⟩ := h61'
            have hn6' : n6 = (allRef u rs).length := by rw [← hn6, h62]
            unfold maxLen at hcm6
            subst hn6'
            have HC6 := Lib.hid hcell6; clear hcell6
            have H63 := Lib.hid h63; clear h63
            have H62 := Lib.hid h62; clear h62
            clear h61 hss6 hn6
            have hck : ∀ l ∈ allRef u rs, check2E u [r] l = 0 := fun l hl => check2E_one HC0.out HR0.out (allRef_mem hl).1
            have HCK := Lib.hid hck; clear hck
            generalize hL : allRef u rs = L at *
            clear hL
            go_wp2_with (fail)
            go_loopw [11, 12, 13, 14] (fun a i g h wr => ∃ k : Nat, k ≤ L.length ∧ i = .int .i64 k ∧ (∃ b : Bool, a = .bool b ∧ b = ((L.take k).all fun c => closedN [r] c)) ∧ Ext w6 wr) (fun _ i _ _ _ => L.length - (intOf i).toNat)
            case atStart => exact ⟨0, Nat.zero_le _, rfl, ⟨true, rfl, rfl⟩, Ext.refl _⟩
            case round =>
              obtain ⟨k, hk, rfl, ⟨ba, rfl, hba⟩, hEr⟩ := hrel
              have HBA := Lib.hid hba; clear hba
              have HER := Lib.hid hEr; clear hEr
              by_cases hlt : k < L.length
              · obtain ⟨b6, off6, rfl, hb6, hcc6⟩ := HC6.out (by omega)
                have hk6 : k < qs6.length := by rw [H62.out]; exact hlt
                have hr6 := (H63.out k _ _ (List.getElem?_eq_getElem hk6) (List.getElem?_eq_getElem hlt)).ext HER.out
                have hc6 : wr.cell? ⟨b6, off6 + k, none⟩ = some qs6[k] := HER.out.cell (hcc6 k _ (List.getElem?_eq_getElem hk6))
                clear hcc6
                generalize qs6[k] = q6 at *
                have HR6 := Lib.hid hr6; clear hr6
                have hkI : (k : Int) < (L.length : Int) := by omega
                have hr0 := HER.out.cell hh0
                have hr1 := HER.out.cell hh1
                have hrb := World.block_lt_of_cell? _ _ hr0
                simp only at hrb
                have hcb := World.block_lt_of_cell? _ _ hc6
                simp only at hcb
                have hLk : L[k] ∈ L := List.getElem_mem hlt
                cases ba with
                | true =>
                  go_upto_region 15 with (fail)
                  go_region_held3 (fun w' => w'.cell? ⟨w.heap.size, 0, none⟩ = some (.slice A n c) ∧ w'.cell? ⟨w.heap.size, 1, none⟩ = some (encS r.2) ∧ w'.cell? ⟨b6, off6 + k, none⟩ = some q6) (first | exact ⟨hr0, hr1, hc6⟩ | exact ⟨((Ext.refl _).alloc _).cell hr0, ((Ext.refl _).alloc _).cell hr1, ((Ext.refl _).alloc _).cell hc6⟩ | exact ⟨HE9.out.cell hr0, HE9.out.cell hr1, HE9.out.cell hc6⟩)
                    (first | (go_at_call 29; refine (closed_ok _ _ _ u [r] L[k] _ (HIU.out.ext ((HE6.out.trans HER.out).trans (((Ext.refl _).alloc _).drew))) (inR_one wr.heap.size ((Blk.new _ _ _).drew) (HV.out.ext ((HE6.out.trans HER.out).trans (((Ext.refl _).alloc _).drew))) HSF.out) (HR6.out.ext (((Ext.refl _).alloc _).drew)) (HCK.out _ hLk)).mono ?_; rintro e w9 ⟨rfl, hE9⟩; rw [closedB_eq (HCK.out _ hLk)]; have HE9 := Lib.hid ((((Ext.refl wr).alloc _).drew).trans hE9); clear hE9))
                  all_goals
                    go_wp2_with (fail)
                    go_roundw
                    case rel =>
                      refine ⟨k + 1, by omega, by go_num, ⟨_, rfl, ?_⟩, HER.out.trans HE9.out⟩
                      rw [List.take_succ_eq_append_getElem hlt, List.all_append, ← HBA.out]
                      simp
                    case measure => simp [intOf]; omega
                | false =>
                  go_upto_region 15 with (fail)
                  go_region_held3 (fun w' => w'.cell? ⟨w.heap.size, 0, none⟩ = some (.slice A n c) ∧ w'.cell? ⟨w.heap.size, 1, none⟩ = some (encS r.2) ∧ w'.cell? ⟨b6, off6 + k, none⟩ = some q6) (first | exact ⟨hr0, hr1, hc6⟩ | exact ⟨((Ext.refl _).alloc _).cell hr0, ((Ext.refl _).alloc _).cell hr1, ((Ext.refl _).alloc _).cell hc6⟩ | exact ⟨HE9.out.cell hr0, HE9.out.cell hr1, HE9.out.cell hc6⟩)
                    (first | (go_at_call 29; refine (closed_ok _ _ _ u [r] L[k] _ (HIU.out.ext ((HE6.out.trans HER.out).trans (((Ext.refl _).alloc _).drew))) (inR_one wr.heap.size ((Blk.new _ _ _).drew) (HV.out.ext ((HE6.out.trans HER.out).trans (((Ext.refl _).alloc _).drew))) HSF.out) (HR6.out.ext (((Ext.refl _).alloc _).drew)) (HCK.out _ hLk)).mono ?_; rintro e w9 ⟨rfl, hE9⟩; rw [closedB_eq (HCK.out _ hLk)]; have HE9 := Lib.hid ((((Ext.refl wr).alloc _).drew).trans hE9); clear hE9))
                  all_goals
                    go_wp2_with (fail)
                    go_roundw
                    case rel =>
                      refine ⟨k + 1, by omega, by go_num, ⟨_, rfl, ?_⟩, HER.out.trans HE9.out⟩
                      rw [List.take_succ_eq_append_getElem hlt, List.all_append, ← HBA.out]
                      simp
                    case measure => simp [intOf]; omega
              · go_wp2_with (fail)
                go_ret
                refine ⟨ret_bool ?_, HE6.out.trans HER.out⟩
                rw [HBA.out, List.take_of_length_le (by omega), ← HCO.out]
                simp
        · have HN0 := Lib.hid h0
          have hzb : (entE u rs r != 0) = true := by simpa using h0
          have hzc : (entE u rs r == 0) = false := by simpa using h0
          clear h0
          go_enter Try.func10, Try.ntmps10
          go_upto_region 1 with (fail)
          have hc0 : (w.alloc (.cells #[.slice A n c, encS r.2] 35)).cell? ⟨w.heap.size, 0, none⟩ = some (.slice A n c) := (Blk.new _ _ _).cell 0
          have hc1 : (w.alloc (.cells #[.slice A n c, encS r.2] 35)).cell? ⟨w.heap.size, 1, none⟩ = some (encS r.2) := (Blk.new _ _ _).cell 1
          have hEa : Ext w (w.alloc (.cells #[.slice A n c, encS r.2] 35)) := (Ext.refl w).alloc _
          generalize w.alloc (.cells #[.slice A n c, encS r.2] 35) = wa at *
          have HEA := Lib.hid hEa; clear hEa
          go_wp2_with (first | (go_at_call 15; refine (awake_any _).mono ?_; rintro e w1 ⟨rfl, hE1⟩; have hd0 := hE1.cell hc0; have hd1 := hE1.cell hc1; clear hc0 hc1; have HE1 := Lib.hid (HEA.out.trans hE1); clear hE1) | (go_at_call 16; refine (heavy_any _ _ u rs _ (HU.out.ext HE1.out) (HR.out.ext HE1.out)).mono ?_; rintro e w2 ⟨rfl, rfl⟩; rw [HH.out]) | (go_at_call 22; refine (entails_err _ _ _ u rs r _ (HIU.out.ext HE1.out) (HIR.out.ext HE1.out) (HV.out.ext HE1.out) HN0.out HSZ.out HSF.out).mono ?_; rintro e w5 ⟨rfl, hE5⟩; have HE5 := Lib.hid (HE1.out.trans hE5); clear hE5))
          go_ret
          exact ⟨rfl, HE5.out⟩
end Go.Proofs.Ythgplaledmccgaa
