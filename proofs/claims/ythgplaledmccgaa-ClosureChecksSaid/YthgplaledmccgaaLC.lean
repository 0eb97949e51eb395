/-
  The walk of the law ClosureChecks: it returns true, whatever comes in.
-/
import Derived.Test.YthgplaledmccgaaSpec12
import Derived.Test.YthgplaledmccgaaW19
import Derived.Test.YthgplaledmccgaaLA
namespace Go.Proofs.Ythgplaledmccgaa
open Go.RowKit

set_option maxRecDepth 100000 in
set_option maxHeartbeats 4000000 in
theorem lawChecks_any (vu vs vl : Value) (u : List Nm) (rs : List RuleN) (l : List Nm) (w : World) (hu : RdS w vu u) (hum : ∀ x ∈ u, x.length ≤ maxLen) (hr : RdR w vs rs) (hl : RdS w vl l) :
    Calls Try.prog 6 #[vu, vs, vl] w fun e w' => e = .returned (.bool true) ∧ Ext w w' := by
  have HU := Lib.hid hu; clear hu
  have HR := Lib.hid hr; clear hr
  have HUM := Lib.hid hum; clear hum
  have HV := Lib.hid hl
  obtain ⟨A, n, c, rfl, hln, -, hcm, -⟩ := hl
  unfold maxLen at hcm
  have HLN := Lib.hid hln; clear hln
  cases hh : heavyB u rs with
  | true =>
    have HH := Lib.hid hh; clear hh
    go_enter Try.func6, Try.ntmps6
    go_wp2_with (first | (go_at_call 15; refine (awake_any _).mono ?_; rintro e w1 ⟨rfl, hE1⟩; have HE1 := Lib.hid hE1; clear hE1) | (go_at_call 16; refine (heavy_any _ _ u rs _ (HU.out.ext HE1.out) (HR.out.ext HE1.out)).mono ?_; rintro e w2 ⟨rfl, rfl⟩; rw [HH.out]))
    go_ret
    exact ⟨rfl, HE1.out⟩
  | false =>
    have HIU := Lib.hid (InU.of HU.out HUM.out hh)
    have HIR := Lib.hid (InR.of HR.out hh)
    have HH := Lib.hid hh; clear hh
    by_cases hx : 41 < n
    · go_enter Try.func6, Try.ntmps6
      go_wp2_with (first | (go_at_call 15; refine (awake_any _).mono ?_; rintro e w1 ⟨rfl, hE1⟩; have HE1 := Lib.hid hE1; clear hE1) | (go_at_call 16; refine (heavy_any _ _ u rs _ (HU.out.ext HE1.out) (HR.out.ext HE1.out)).mono ?_; rintro e w2 ⟨rfl, rfl⟩; rw [HH.out]))
      go_ret
      exact ⟨rfl, HE1.out⟩
    · have HLL : Hid (l.length ≤ 1048576) := Lib.hid (by have := HLN.out; omega)
      by_cases h0 : checkE u rs = 0
      · by_cases h1 : setE u l = 0
        · have hn0 : check2E u rs l = 0 := by unfold check2E; rw [if_pos h0]; exact h1
          have HCB := Lib.hid (closedB_eq hn0)
          have HCE := Lib.hid (close_eq h0 (check2E_zero hn0).2.2)
          have HN0 := Lib.hid hn0
          have H0 := Lib.hid h0
          have H1 := Lib.hid h1
          clear hn0 h0 h1
          go_enter Try.func6, Try.ntmps6
          go_wp2_with (first | (go_at_call 15; refine (awake_any _).mono ?_; rintro e w1 ⟨rfl, hE1⟩; have HE1 := Lib.hid hE1; clear hE1) | (go_at_call 16; refine (heavy_any _ _ u rs _ (HU.out.ext HE1.out) (HR.out.ext HE1.out)).mono ?_; rintro e w2 ⟨rfl, rfl⟩; rw [HH.out]) | (go_at_call 17; refine (refCheck_any _ _ u rs _ (HU.out.ext HE1.out) HUM.out (HR.out.ext HE1.out)).mono ?_; rintro e w3 ⟨rfl, hE3⟩; have HE3 := Lib.hid (HE1.out.trans hE3); clear hE3 HE1; rw [H0.out]) | (go_at_call 26; refine (check_any _ _ u rs _ (HIU.out.ext HE3.out) (HIR.out.ext HE3.out)).mono ?_; rintro e w4 ⟨rfl, hE4⟩; have HE4 := Lib.hid (HE3.out.trans hE4); clear hE4 HE3; rw [H0.out]) | (go_at_call 27; refine (refSet_any _ _ u l _ (HU.out.ext HE4.out) (HV.out.ext HE4.out)).mono ?_; rintro e w5 ⟨rfl, n5, hw5⟩; have hE5 := hw5 ▸ (Ext.refl _).drewN n5; clear hw5; have HE5 := Lib.hid (HE4.out.trans hE5); clear hE5 HE4; rw [H1.out]))
          go_wp2_with (first | (go_at_call 28; refine (close_ok _ _ _ u rs l _ (HIU.out.ext HE5.out) (HIR.out.ext HE5.out) (HV.out.ext HE5.out) HN0.out).mono ?_; rintro e w6 ⟨v6, rfl, hs6, hE6⟩; have HS6 := Lib.hid hs6; clear hs6; have HE6 := Lib.hid (HE5.out.trans hE6); clear hE6 HE5) | (go_at_call 29; refine (closed_ok _ _ _ u rs l _ (HIU.out.ext HE6.out) (HIR.out.ext HE6.out) (HV.out.ext HE6.out) HN0.out).mono ?_; rintro e w7 ⟨rfl, hE7⟩; rw [HCB.out]; have HS7 := Lib.hid (HS6.out.ext hE7); have HE7 := Lib.hid (HE6.out.trans hE7); clear hE7 HE6 HS6))
          go_wp2_with (first | (go_at_call 30; refine (refClose_any _ _ _ u rs l _ (HIU.out.ext HE7.out) (HIR.out.ext HE7.out) (HV.out.ext HE7.out) HLL.out).mono ?_; rintro e w8 ⟨v8, rfl, hO8, hE8⟩; have HO8 := Lib.hid hO8.rd; clear hO8; have HS8 := Lib.hid (HS7.out.ext hE8); have HE8 := Lib.hid (HE7.out.trans hE8); clear hE8 HE7 HS7) | (go_at_call 20; refine (same_any _ _ (closeR u rs l) (closeR u rs l) _ (HCE.out ▸ HS8.out) HO8.out).mono ?_; rintro e w9 ⟨rfl, n9, hw9⟩; rw [decide_eq_true rfl]; have hE9 := hw9 ▸ (Ext.refl _).drewN n9; clear hw9; have HE9 := Lib.hid (HE8.out.trans hE9); clear hE9 HE8) | (go_at_call 31; refine (refClosed_any _ _ rs l _ (HR.out.ext HE9.out) (HV.out.ext HE9.out)).mono ?_; rintro e w10 ⟨rfl, rfl⟩))
          go_ret
          exact ⟨rfl, HE9.out⟩
        · have HEN : Hid (check2E u rs l = setE u l) := Lib.hid (by unfold check2E; rw [if_pos h0])
          have HN0 : Hid (check2E u rs l ≠ 0) := Lib.hid (by rw [HEN.out]; exact h1)
          have hzb : (setE u l != 0) = true := by simpa using h1
          have hzc : (setE u l == 0) = false := by simpa using h1
          have H0 := Lib.hid h0
          clear h0 h1
          go_enter Try.func6, Try.ntmps6
          go_wp2_with (first | (go_at_call 15; refine (awake_any _).mono ?_; rintro e w1 ⟨rfl, hE1⟩; have HE1 := Lib.hid hE1; clear hE1) | (go_at_call 16; refine (heavy_any _ _ u rs _ (HU.out.ext HE1.out) (HR.out.ext HE1.out)).mono ?_; rintro e w2 ⟨rfl, rfl⟩; rw [HH.out]) | (go_at_call 17; refine (refCheck_any _ _ u rs _ (HU.out.ext HE1.out) HUM.out (HR.out.ext HE1.out)).mono ?_; rintro e w3 ⟨rfl, hE3⟩; have HE3 := Lib.hid (HE1.out.trans hE3); clear hE3 HE1; rw [H0.out]) | (go_at_call 26; refine (check_any _ _ u rs _ (HIU.out.ext HE3.out) (HIR.out.ext HE3.out)).mono ?_; rintro e w4 ⟨rfl, hE4⟩; have HE4 := Lib.hid (HE3.out.trans hE4); clear hE4 HE3; rw [H0.out]) | (go_at_call 27; refine (refSet_any _ _ u l _ (HU.out.ext HE4.out) (HV.out.ext HE4.out)).mono ?_; rintro e w5 ⟨rfl, n5, hw5⟩; have hE5 := hw5 ▸ (Ext.refl _).drewN n5; clear hw5; have HE5 := Lib.hid (HE4.out.trans hE5); clear hE5 HE4) | (go_at_call 28; refine (close_err _ _ _ u rs l _ (HIU.out.ext HE5.out) (HIR.out.ext HE5.out) (HV.out.ext HE5.out) HN0.out).mono ?_; rintro e w6 ⟨rfl, hE6⟩; rw [HEN.out]; have HE6 := Lib.hid (HE5.out.trans hE6); clear hE6) | (go_at_call 29; refine (closed_err _ _ _ u rs l _ (HIU.out.ext HE6.out) (HIR.out.ext HE6.out) (HV.out.ext HE6.out) HN0.out).mono ?_; rintro e w7 ⟨rfl, hE7⟩; rw [HEN.out]; have HE7 := Lib.hid (HE6.out.trans hE7); clear hE7))
          go_ret
          exact ⟨rfl, HE7.out⟩
      · have HEN : Hid (check2E u rs l = checkE u rs) := Lib.hid (by unfold check2E; rw [if_neg h0])
        have HN0 : Hid (check2E u rs l ≠ 0) := Lib.hid (by rw [HEN.out]; exact h0)
        have hzb : (checkE u rs != 0) = true := by simpa using h0
        have hzc : (checkE u rs == 0) = false := by simpa using h0
        clear h0
        go_enter Try.func6, Try.ntmps6
        go_wp2_with (first | (go_at_call 15; refine (awake_any _).mono ?_; rintro e w1 ⟨rfl, hE1⟩; have HE1 := Lib.hid hE1; clear hE1) | (go_at_call 16; refine (heavy_any _ _ u rs _ (HU.out.ext HE1.out) (HR.out.ext HE1.out)).mono ?_; rintro e w2 ⟨rfl, rfl⟩; rw [HH.out]) | (go_at_call 17; refine (refCheck_any _ _ u rs _ (HU.out.ext HE1.out) HUM.out (HR.out.ext HE1.out)).mono ?_; rintro e w3 ⟨rfl, hE3⟩; have HE3 := Lib.hid (HE1.out.trans hE3); clear hE3 HE1) | (go_at_call 26; refine (check_any _ _ u rs _ (HIU.out.ext HE3.out) (HIR.out.ext HE3.out)).mono ?_; rintro e w4 ⟨rfl, hE4⟩; have HE4 := Lib.hid (HE3.out.trans hE4); clear hE4 HE3) | (go_at_call 28; refine (close_err _ _ _ u rs l _ (HIU.out.ext HE4.out) (HIR.out.ext HE4.out) (HV.out.ext HE4.out) HN0.out).mono ?_; rintro e w6 ⟨rfl, hE6⟩; rw [HEN.out]; have HE6 := Lib.hid (HE4.out.trans hE6); clear hE6) | (go_at_call 29; refine (closed_err _ _ _ u rs l _ (HIU.out.ext HE6.out) (HIR.out.ext HE6.out) (HV.out.ext HE6.out) HN0.out).mono ?_; rintro e w7 ⟨rfl, hE7⟩; rw [HEN.out]; have HE7 := Lib.hid (HE6.out.trans hE7); clear hE7))
        go_ret
        exact ⟨rfl, HE7.out⟩
end Go.Proofs.Ythgplaledmccgaa
