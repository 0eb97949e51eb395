/-
  The walk of the law ClosureEntails: it returns true, whatever comes in.
-/
import Derived.Test.YthgplaledmccgaaW19
import Derived.Test.YthgplaledmccgaaSpec10
import Derived.Test.YthgplaledmccgaaLA
namespace Go.Proofs.Ythgplaledmccgaa
open Go.RowKit

set_option maxRecDepth 100000 in
set_option maxHeartbeats 4000000 in
theorem lawEntails_any (vu vs vf : Value) (u : List Nm) (rs : List RuleN) (r : RuleN) (w : World) (hu : RdS w vu u) (hum : ∀ x ∈ u, x.length ≤ maxLen) (hr : RdR w vs rs) (hl : RdS w vf r.1) :
    Calls Try.prog 4 #[vu, vs, .agg #[vf, encS r.2]] w fun e w' => e = .returned (.bool true) ∧ Ext w w' := by
  have HU := Lib.hid hu; clear hu
  have HR := Lib.hid hr; clear hr
  have HUM := Lib.hid hum; clear hum
  have HV := Lib.hid hl
  obtain ⟨A, n, c, rfl, hln, -, hcm, -⟩ := hl
  unfold maxLen at hcm
  have HLN := Lib.hid hln; clear hln
  cases hh : heavyB u rs with
  | true =>
    have HH := Lib.hid hh; clear hh
    go_enter Try.func4, Try.ntmps4
    go_upto_region 1 with (fail)
    have hc0 : (w.alloc (.cells #[.slice A n c, encS r.2] 35)).cell? ⟨w.heap.size, 0, none⟩ = some (.slice A n c) := (Blk.new _ _ _).cell 0
    have hc1 : (w.alloc (.cells #[.slice A n c, encS r.2] 35)).cell? ⟨w.heap.size, 1, none⟩ = some (encS r.2) := (Blk.new _ _ _).cell 1
    have hEa : Ext w (w.alloc (.cells #[.slice A n c, encS r.2] 35)) := (Ext.refl w).alloc _
    generalize w.alloc (.cells #[.slice A n c, encS r.2] 35) = wa at *
    have HEA := Lib.hid hEa; clear hEa
    go_wp2_with (first | (go_at_call 15; refine (awake_any _).mono ?_; rintro e w1 ⟨rfl, hE1⟩; have hd0 := hE1.cell hc0; have hd1 := hE1.cell hc1; clear hc0 hc1; have HE1 := Lib.hid (HEA.out.trans hE1); clear hE1) | (go_at_call 16; refine (heavy_any _ _ u rs _ (HU.out.ext HE1.out) (HR.out.ext HE1.out)).mono ?_; rintro e w2 ⟨rfl, rfl⟩; rw [HH.out]))
    go_ret
    exact ⟨rfl, HE1.out⟩
  | false =>
    have HIU := Lib.hid (InU.of HU.out HUM.out hh)
    have HIR := Lib.hid (InR.of HR.out hh)
    have HSZ : Hid (rs.length ≤ 1000000) := Lib.hid (by have := (heavyB_no hh).2.1; omega)
    have HH := Lib.hid hh; clear hh
    by_cases hx : 41 < n
    · go_enter Try.func4, Try.ntmps4
      go_upto_region 1 with (fail)
      have hc0 : (w.alloc (.cells #[.slice A n c, encS r.2] 35)).cell? ⟨w.heap.size, 0, none⟩ = some (.slice A n c) := (Blk.new _ _ _).cell 0
      have hc1 : (w.alloc (.cells #[.slice A n c, encS r.2] 35)).cell? ⟨w.heap.size, 1, none⟩ = some (encS r.2) := (Blk.new _ _ _).cell 1
      have hEa : Ext w (w.alloc (.cells #[.slice A n c, encS r.2] 35)) := (Ext.refl w).alloc _
      generalize w.alloc (.cells #[.slice A n c, encS r.2] 35) = wa at *
      have HEA := Lib.hid hEa; clear hEa
      go_wp2_with (first | (go_at_call 15; refine (awake_any _).mono ?_; rintro e w1 ⟨rfl, hE1⟩; have hd0 := hE1.cell hc0; have hd1 := hE1.cell hc1; clear hc0 hc1; have HE1 := Lib.hid (HEA.out.trans hE1); clear hE1) | (go_at_call 16; refine (heavy_any _ _ u rs _ (HU.out.ext HE1.out) (HR.out.ext HE1.out)).mono ?_; rintro e w2 ⟨rfl, rfl⟩; rw [HH.out]))
      go_ret
      exact ⟨rfl, HE1.out⟩
    · have HSF : Hid (r.1.length ≤ 1048576) := Lib.hid (by have := HLN.out; omega)
      by_cases h0 : checkE u rs = 0
      · have H0 := Lib.hid h0
        by_cases h1 : ruleE u r = 0
        · have HN0 : Hid (entE u rs r = 0) := Lib.hid (by unfold entE; rw [if_pos h0]; exact h1)
          have HEB : Hid (entB u rs r = entR u rs r) := Lib.hid (entB_eq h0 (ruleE_ok.1 h1))
          have H1 := Lib.hid h1; clear h0 h1
          go_enter Try.func4, Try.ntmps4
          go_upto_region 1 with (fail)
          have hc0 : (w.alloc (.cells #[.slice A n c, encS r.2] 35)).cell? ⟨w.heap.size, 0, none⟩ = some (.slice A n c) := (Blk.new _ _ _).cell 0
          have hc1 : (w.alloc (.cells #[.slice A n c, encS r.2] 35)).cell? ⟨w.heap.size, 1, none⟩ = some (encS r.2) := (Blk.new _ _ _).cell 1
          have hEa : Ext w (w.alloc (.cells #[.slice A n c, encS r.2] 35)) := (Ext.refl w).alloc _
          generalize w.alloc (.cells #[.slice A n c, encS r.2] 35) = wa at *
          have HEA := Lib.hid hEa; clear hEa
          go_wp2_with (first | (go_at_call 15; refine (awake_any _).mono ?_; rintro e w1 ⟨rfl, hE1⟩; have hd0 := hE1.cell hc0; have hd1 := hE1.cell hc1; clear hc0 hc1; have HE1 := Lib.hid (HEA.out.trans hE1); clear hE1) | (go_at_call 16; refine (heavy_any _ _ u rs _ (HU.out.ext HE1.out) (HR.out.ext HE1.out)).mono ?_; rintro e w2 ⟨rfl, rfl⟩; rw [HH.out]) | (go_at_call 17; refine (refCheck_any _ _ u rs _ (HU.out.ext HE1.out) HUM.out (HR.out.ext HE1.out)).mono ?_; rintro e w3 ⟨rfl, hE3⟩; have he0 := hE3.cell hd0; have he1 := hE3.cell hd1; clear hd0 hd1; have HE3 := Lib.hid (HE1.out.trans hE3); clear hE3; rw [H0.out]) | (go_at_call 21; refine (refRule_any _ _ u r _ (HU.out.ext HE3.out) (HV.out.ext HE3.out)).mono ?_; rintro e w4 ⟨rfl, hE4⟩; have hf0 := hE4.cell he0; have hf1 := hE4.cell he1; clear he0 he1; have HE4 := Lib.hid (HE3.out.trans hE4); clear hE4; rw [H1.out]) | (go_at_call 22; refine (entails_ok _ _ _ u rs r _ (HIU.out.ext HE4.out) (HIR.out.ext HE4.out) (HV.out.ext HE4.out) HN0.out HSZ.out HSF.out).mono ?_; rintro e w5 ⟨rfl, hE5⟩; rw [HEB.out]; have hg0 := hE5.cell hf0; have hg1 := hE5.cell hf1; clear hf0 hf1; have HE5 := Lib.hid (HE4.out.trans hE5); clear hE5) | (go_at_call 23; refine (refEntails_any _ _ _ u rs r _ (HIU.out.ext HE5.out) (HIR.out.ext HE5.out) (HV.out.ext HE5.out) HSF.out).mono ?_; rintro e w6 ⟨rfl, hE6⟩; have HE6 := Lib.hid (HE5.out.trans hE6); clear hE6))
          go_ret
          exact ⟨rfl, HE6.out⟩
        · have HEN : Hid (entE u rs r = ruleE u r) := Lib.hid (by unfold entE; rw [if_pos h0])
          have HN0 : Hid (entE u rs r ≠ 0) := Lib.hid (by rw [HEN.out]; exact h1)
          have hzb : (ruleE u r != 0) = true := by simpa using h1
          have hzc : (ruleE u r == 0) = false := by simpa using h1
          clear h0 h1
          go_enter Try.func4, Try.ntmps4
          go_upto_region 1 with (fail)
          have hc0 : (w.alloc (.cells #[.slice A n c, encS r.2] 35)).cell? ⟨w.heap.size, 0, none⟩ = some (.slice A n c) := (Blk.new _ _ _).cell 0
          have hc1 : (w.alloc (.cells #[.slice A n c, encS r.2] 35)).cell? ⟨w.heap.size, 1, none⟩ = some (encS r.2) := (Blk.new _ _ _).cell 1
          have hEa : Ext w (w.alloc (.cells #[.slice A n c, encS r.2] 35)) := (Ext.refl w).alloc _
          generalize w.alloc (.cells #[.slice A n c, encS r.2] 35) = wa at *
          have HEA := Lib.hid hEa; clear hEa
          go_wp2_with (first | (go_at_call 15; refine (awake_any _).mono ?_; rintro e w1 ⟨rfl, hE1⟩; have hd0 := hE1.cell hc0; have hd1 := hE1.cell hc1; clear hc0 hc1; have HE1 := Lib.hid (HEA.out.trans hE1); clear hE1) | (go_at_call 16; refine (heavy_any _ _ u rs _ (HU.out.ext HE1.out) (HR.out.ext HE1.out)).mono ?_; rintro e w2 ⟨rfl, rfl⟩; rw [HH.out]) | (go_at_call 17; refine (refCheck_any _ _ u rs _ (HU.out.ext HE1.out) HUM.out (HR.out.ext HE1.out)).mono ?_; rintro e w3 ⟨rfl, hE3⟩; have he0 := hE3.cell hd0; have he1 := hE3.cell hd1; clear hd0 hd1; have HE3 := Lib.hid (HE1.out.trans hE3); clear hE3; rw [H0.out]) | (go_at_call 21; refine (refRule_any _ _ u r _ (HU.out.ext HE3.out) (HV.out.ext HE3.out)).mono ?_; rintro e w4 ⟨rfl, hE4⟩; have hf0 := hE4.cell he0; have hf1 := hE4.cell he1; clear he0 he1; have HE4 := Lib.hid (HE3.out.trans hE4); clear hE4) | (go_at_call 22; refine (entails_err _ _ _ u rs r _ (HIU.out.ext HE4.out) (HIR.out.ext HE4.out) (HV.out.ext HE4.out) HN0.out HSZ.out HSF.out).mono ?_; rintro e w5 ⟨rfl, hE5⟩; rw [HEN.out]; have HE5 := Lib.hid (HE4.out.trans hE5); clear hE5))
          go_ret
          exact ⟨rfl, HE5.out⟩
      · have HEN : Hid (entE u rs r = checkE u rs) := Lib.hid (by unfold entE; rw [if_neg h0])
        have HN0 : Hid (entE u rs r ≠ 0) := Lib.hid (by rw [HEN.out]; exact h0)
        have hzb : (checkE u rs != 0) = true := by simpa using h0
        have hzc : (checkE u rs == 0) = false := by simpa using h0
        clear h0
        go_enter Try.func4, Try.ntmps4
        go_upto_region 1 with (fail)
        have hc0 : (w.alloc (.cells #[.slice A n c, encS r.2] 35)).cell? ⟨w.heap.size, 0, none⟩ = some (.slice A n c) := (Blk.new _ _ _).cell 0
        have hc1 : (w.alloc (.cells #[.slice A n c, encS r.2] 35)).cell? ⟨w.heap.size, 1, none⟩ = some (encS r.2) := (Blk.new _ _ _).cell 1
        have hEa : Ext w (w.alloc (.cells #[.slice A n c, encS r.2] 35)) := (Ext.refl w).alloc _
        generalize w.alloc (.cells #[.slice A n c, encS r.2] 35) = wa at *
        have HEA := Lib.hid hEa; clear hEa
        go_wp2_with (first | (go_at_call 15; refine (awake_any _).mono ?_; rintro e w1 ⟨rfl, hE1⟩; have hd0 := hE1.cell hc0; have hd1 := hE1.cell hc1; clear hc0 hc1; have HE1 := Lib.hid (HEA.out.trans hE1); clear hE1) | (go_at_call 16; refine (heavy_any _ _ u rs _ (HU.out.ext HE1.out) (HR.out.ext HE1.out)).mono ?_; rintro e w2 ⟨rfl, rfl⟩; rw [HH.out]) | (go_at_call 17; refine (refCheck_any _ _ u rs _ (HU.out.ext HE1.out) HUM.out (HR.out.ext HE1.out)).mono ?_; rintro e w3 ⟨rfl, hE3⟩; have he0 := hE3.cell hd0; have he1 := hE3.cell hd1; clear hd0 hd1; have HE3 := Lib.hid (HE1.out.trans hE3); clear hE3) | (go_at_call 22; refine (entails_err _ _ _ u rs r _ (HIU.out.ext HE3.out) (HIR.out.ext HE3.out) (HV.out.ext HE3.out) HN0.out HSZ.out HSF.out).mono ?_; rintro e w5 ⟨rfl, hE5⟩; rw [HEN.out]; have HE5 := Lib.hid (HE3.out.trans hE5); clear hE5))
        go_ret
        exact ⟨rfl, HE5.out⟩
end Go.Proofs.Ythgplaledmccgaa
