/-
  The walk of the law ClosureEquivalent: it returns true, whatever comes in.
-/
import Derived.Test.YthgplaledmccgaaSpec11
import Derived.Test.YthgplaledmccgaaLA
namespace Go.Proofs.Ythgplaledmccgaa
open Go.RowKit

set_option maxRecDepth 100000 in
set_option maxHeartbeats 4000000 in
theorem lawEquivalent_any (vu va vb : Value) (u : List Nm) (a b : List RuleN) (w : World) (hu : RdS w vu u) (hum : ∀ x ∈ u, x.length ≤ maxLen) (hra : RdR w va a) (hrb : RdR w vb b) :
    Calls Try.prog 5 #[vu, va, vb] w fun e w' => e = .returned (.bool true) ∧ Ext w w' := by
  have HU := Lib.hid hu; clear hu
  have HA := Lib.hid hra; clear hra
  have HB := Lib.hid hrb; clear hrb
  have HUM := Lib.hid hum; clear hum
  cases hha : heavyB u a with
  | true =>
    have HHA := Lib.hid hha; clear hha
    go_enter Try.func5, Try.ntmps5
    go_wp2_with (first | (go_at_call 15; refine (awake_any _).mono ?_; rintro e w1 ⟨rfl, hE1⟩; have HE1 := Lib.hid hE1; clear hE1) | (go_at_call 16; refine (heavy_any _ _ u a _ (HU.out.ext HE1.out) (HA.out.ext HE1.out)).mono ?_; rintro e w2 ⟨rfl, rfl⟩; rw [HHA.out]))
    go_ret
    exact ⟨rfl, HE1.out⟩
  | false =>
    have HHA := Lib.hid hha
    cases hhb : heavyB u b with
    | true =>
      have HHB := Lib.hid hhb; clear hhb hha
      go_enter Try.func5, Try.ntmps5
      go_wp2_with (first | (go_at_call 15; refine (awake_any _).mono ?_; rintro e w1 ⟨rfl, hE1⟩; have HE1 := Lib.hid hE1; clear hE1) | (go_at_call 16; refine (heavy_any _ _ u _ _ (HU.out.ext HE1.out) (by first | exact HA.out.ext HE1.out | exact HB.out.ext HE1.out)).mono ?_; rintro e w2 ⟨rfl, rfl⟩; first | rw [HHA.out] | rw [HHB.out]))
      go_ret
      exact ⟨rfl, HE1.out⟩
    | false =>
      have HHB := Lib.hid hhb
      have HIU := Lib.hid (InU.of HU.out HUM.out hha)
      have HIA := Lib.hid (InR.of HA.out hha)
      have HIB := Lib.hid (InR.of HB.out hhb)
      have HSZ : Hid (a.length + b.length ≤ 1000000) := Lib.hid (by have := (heavyB_no hha).2.1; have := (heavyB_no hhb).2.1; omega)
      clear hha hhb
      by_cases h0 : checkE u a = 0
      · have H0 := Lib.hid h0
        have HO := Lib.hid (checkE_other (b := b) h0)
        by_cases h1 : rulesE u b = 0
        · have HN0 : Hid (eqE u a b = 0) := Lib.hid (by unfold eqE; rw [if_pos h0]; exact h1)
          have HEB := Lib.hid (eqB_eq h0 h1)
          have H1 := Lib.hid h1; clear h0 h1
          go_enter Try.func5, Try.ntmps5
          go_wp2_with (first | (go_at_call 15; refine (awake_any _).mono ?_; rintro e w1 ⟨rfl, hE1⟩; have HE1 := Lib.hid hE1; clear hE1) | (go_at_call 16; refine (heavy_any _ _ u _ _ (HU.out.ext HE1.out) (by first | exact HA.out.ext HE1.out | exact HB.out.ext HE1.out)).mono ?_; rintro e w2 ⟨rfl, rfl⟩; first | rw [HHA.out] | rw [HHB.out]) | (go_at_call 17; refine (refCheck_any _ _ u a _ (HU.out.ext HE1.out) HUM.out (by exact HA.out.ext HE1.out)).mono ?_; rintro e w4 ⟨rfl, hE3⟩; have HE3 := Lib.hid (HE1.out.trans hE3); clear hE3 HE1; rw [H0.out]) | (go_at_call 17; refine (refCheck_any _ _ u b _ (HU.out.ext HE3.out) HUM.out (by exact HB.out.ext HE3.out)).mono ?_; rintro e w5 ⟨rfl, hE4⟩; have HE4 := Lib.hid (HE3.out.trans hE4); clear hE4; rw [HO.out, H1.out]) | (go_at_call 24; refine (equivalent_ok _ _ _ u a b _ (HIU.out.ext HE4.out) (HIA.out.ext HE4.out) (HIB.out.ext HE4.out) HN0.out HSZ.out).mono ?_; rintro e w6 ⟨rfl, hE5⟩; rw [HEB.out]; have HE5 := Lib.hid (HE4.out.trans hE5); clear hE5) | (go_at_call 25; refine (refEquivalent_any _ _ _ u a b _ (HIU.out.ext HE5.out) (HIA.out.ext HE5.out) (HIB.out.ext HE5.out)).mono ?_; rintro e w7 ⟨rfl, hE6⟩; have HE6 := Lib.hid (HE5.out.trans hE6); clear hE6))
          go_ret
          exact ⟨rfl, HE6.out⟩
        · have HEN : Hid (eqE u a b = rulesE u b) := Lib.hid (by unfold eqE; rw [if_pos h0])
          have HN0 : Hid (eqE u a b ≠ 0) := Lib.hid (by rw [HEN.out]; exact h1)
          have hzb : (rulesE u b != 0) = true := by simpa using h1
          have hzc : (rulesE u b == 0) = false := by simpa using h1
          clear h0 h1
          go_enter Try.func5, Try.ntmps5
          go_wp2_with (first | (go_at_call 15; refine (awake_any _).mono ?_; rintro e w1 ⟨rfl, hE1⟩; have HE1 := Lib.hid hE1; clear hE1) | (go_at_call 16; refine (heavy_any _ _ u _ _ (HU.out.ext HE1.out) (by first | exact HA.out.ext HE1.out | exact HB.out.ext HE1.out)).mono ?_; rintro e w2 ⟨rfl, rfl⟩; first | rw [HHA.out] | rw [HHB.out]) | (go_at_call 17; refine (refCheck_any _ _ u a _ (HU.out.ext HE1.out) HUM.out (by exact HA.out.ext HE1.out)).mono ?_; rintro e w4 ⟨rfl, hE3⟩; have HE3 := Lib.hid (HE1.out.trans hE3); clear hE3 HE1; rw [H0.out]) | (go_at_call 17; refine (refCheck_any _ _ u b _ (HU.out.ext HE3.out) HUM.out (by exact HB.out.ext HE3.out)).mono ?_; rintro e w5 ⟨rfl, hE4⟩; have HE4 := Lib.hid (HE3.out.trans hE4); clear hE4; rw [HO.out]) | (go_at_call 24; refine (equivalent_err _ _ _ u a b _ (HIU.out.ext HE4.out) (HIA.out.ext HE4.out) (HIB.out.ext HE4.out) HN0.out HSZ.out).mono ?_; rintro e w6 ⟨rfl, hE5⟩; rw [HEN.out]; have HE5 := Lib.hid (HE4.out.trans hE5); clear hE5))
          go_ret
          exact ⟨rfl, HE5.out⟩
      · have HEN : Hid (eqE u a b = checkE u a) := Lib.hid (by unfold eqE; rw [if_neg h0])
        have HN0 : Hid (eqE u a b ≠ 0) := Lib.hid (by rw [HEN.out]; exact h0)
        have hzb : (checkE u a != 0) = true := by simpa using h0
        have hzc : (checkE u a == 0) = false := by simpa using h0
        clear h0
        go_enter Try.func5, Try.ntmps5
        go_wp2_with (first | (go_at_call 15; refine (awake_any _).mono ?_; rintro e w1 ⟨rfl, hE1⟩; have HE1 := Lib.hid hE1; clear hE1) | (go_at_call 16; refine (heavy_any _ _ u _ _ (HU.out.ext HE1.out) (by first | exact HA.out.ext HE1.out | exact HB.out.ext HE1.out)).mono ?_; rintro e w2 ⟨rfl, rfl⟩; first | rw [HHA.out] | rw [HHB.out]) | (go_at_call 17; refine (refCheck_any _ _ u a _ (HU.out.ext HE1.out) HUM.out (by exact HA.out.ext HE1.out)).mono ?_; rintro e w4 ⟨rfl, hE3⟩; have HE3 := Lib.hid (HE1.out.trans hE3); clear hE3 HE1) | (go_at_call 24; refine (equivalent_err _ _ _ u a b _ (HIU.out.ext HE3.out) (HIA.out.ext HE3.out) (HIB.out.ext HE3.out) HN0.out HSZ.out).mono ?_; rintro e w6 ⟨rfl, hE5⟩; rw [HEN.out]; have HE5 := Lib.hid (HE3.out.trans hE5); clear hE5))
        go_ret
        exact ⟨rfl, HE5.out⟩
end Go.Proofs.Ythgplaledmccgaa
