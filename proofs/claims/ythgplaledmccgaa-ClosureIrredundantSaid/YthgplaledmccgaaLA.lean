/-
  The walk of the law ClosureAll: it returns true, whatever comes in; what lay in memory lies there unturned.
-/
import Derived.Test.YthgplaledmccgaaW17
namespace Go.Proofs.Ythgplaledmccgaa
open Go.RowKit

theorem same_quiet (va vb : Value) (a b : List Nm) (w : World) (n : Nat) (r : Bool) (ha : RdS w va a) (hb : RdS w vb b) (hr : decide (a = b) = r) :
    Calls Try.prog 20 #[va, vb] (w.drewN n) fun e w' => e = .returned (.bool r) ∧ ∃ m, w' = w.drewN m := by
  rw [← hr]
  exact Calls.quiet_of (same_any va vb a b _ (ha.ext ((Ext.refl _).drewN _)) (hb.ext ((Ext.refl _).drewN _)))

theorem heavyB_no {u : List Nm} {rs : List RuleN} (h : heavyB u rs = false) : u.length ≤ 40 ∧ rs.length ≤ 60 ∧ ∀ r ∈ rs, r.1.length ≤ 41 := by
  unfold heavyB at h
  simp only [Bool.or_eq_false_iff, decide_eq_false_iff_not, List.any_eq_false, decide_eq_true_eq] at h
  exact ⟨by omega, by omega, fun r hr => by have := h.2 r hr; omega⟩
theorem InU.of {w : World} {v : Value} {u : List Nm} {rs : List RuleN} (h : RdS w v u) (hm : ∀ x ∈ u, x.length ≤ maxLen) (hh : heavyB u rs = false) : InU w v u :=
  ⟨h, hm, by have := (heavyB_no hh).1; omega⟩
theorem InR.of {w : World} {v : Value} {u : List Nm} {rs : List RuleN} (h : RdR w v rs) (hh : heavyB u rs = false) : InR w v rs :=
  ⟨h, by have := (heavyB_no hh).2.1; omega, fun r hr => by have := (heavyB_no hh).2.2 r hr; omega⟩

set_option maxRecDepth 100000 in
set_option maxHeartbeats 4000000 in
theorem lawAll_any (vu vs : Value) (u : List Nm) (rs : List RuleN) (lim : Int) (w : World) (hu : RdS w vu u) (hum : ∀ x ∈ u, x.length ≤ maxLen) (hr : RdR w vs rs) :
    Calls Try.prog 3 #[vu, vs, .int .i64 lim] w fun e w' => e = .returned (.bool true) ∧ Ext w w' := by
  have HU := Lib.hid hu
  have HR := Lib.hid hr; clear hr
  have HUM := Lib.hid hum; clear hum
  obtain ⟨A, n, c, rfl, hln, -, hcm, -⟩ := hu
  unfold maxLen at hcm
  have HLN := Lib.hid hln; clear hln
  by_cases h8 : 8 < n
  · go_enter Try.func3, Try.ntmps3
    go_wp2_with (go_at_call 15; refine (awake_any _).mono ?_; rintro e w1 ⟨rfl, hE1⟩)
    go_ret
    exact ⟨rfl, hE1⟩
  · cases hh : heavyB u rs with
    | true =>
      have HH := Lib.hid hh; clear hh
      go_enter Try.func3, Try.ntmps3
      go_wp2_with (first | (go_at_call 15; refine (awake_any _).mono ?_; rintro e w1 ⟨rfl, hE1⟩) | (go_at_call 16; refine (heavy_any _ _ u rs _ (HU.out.ext hE1) (HR.out.ext hE1)).mono ?_; rintro e w2 ⟨rfl, rfl⟩; rw [HH.out]))
      go_ret
      exact ⟨rfl, hE1⟩
    | false =>
      have HIU := Lib.hid (InU.of HU.out HUM.out hh)
      have HIR := Lib.hid (InR.of HR.out hh)
      have HH := Lib.hid hh; clear hh
      by_cases h0 : checkE u rs = 0
      · have H0 := Lib.hid h0; clear h0
        have hn8 : u.length ≤ 8 := by rw [HLN.out]; omega
        have HN8 := Lib.hid hn8; clear hn8
        have hal := all_eq H0.out
        have HAL := Lib.hid hal; clear hal
        have hll : (allRef u rs).length ≤ 256 := by
          unfold allRef
          refine Nat.le_trans (List.length_filter_le _ _) ?_
          rw [subsetsN_len]
          exact Nat.le_trans (Nat.pow_le_pow_right (n := 2) (j := 8) (by decide) HN8.out) (by decide)
        have HLL := Lib.hid hll; clear hll
        by_cases hl1 : lim < 1
        · go_enter Try.func3, Try.ntmps3
          go_wp2_with (first | (go_at_call 15; refine (awake_any _).mono ?_; rintro e w1 ⟨rfl, hE1⟩; have HE1 := Lib.hid hE1; clear hE1) | (go_at_call 16; refine (heavy_any _ _ u rs _ (HU.out.ext HE1.out) (HR.out.ext HE1.out)).mono ?_; rintro e w2 ⟨rfl, rfl⟩; rw [HH.out]) | (go_at_call 17; refine (refCheck_any _ _ u rs _ (HU.out.ext HE1.out) HUM.out (HR.out.ext HE1.out)).mono ?_; rintro e w3 ⟨rfl, hE3⟩; have HE3 := Lib.hid (HE1.out.trans hE3); clear hE3; rw [H0.out]) | (go_at_call 18; refine (all_arg _ _ u rs lim _ (HIU.out.ext HE3.out) (HIR.out.ext HE3.out) H0.out hl1).mono ?_; rintro e w4 ⟨rfl, hE4⟩))
          go_ret
          exact ⟨rfl, HE3.out.trans hE4⟩
        · have hl1' : 1 ≤ lim := by omega
          go_enter Try.func3, Try.ntmps3
          go_wp2_with (first | (go_at_call 15; refine (awake_any _).mono ?_; rintro e w1 ⟨rfl, hE1⟩; have HE1 := Lib.hid hE1; clear hE1) | (go_at_call 16; refine (heavy_any _ _ u rs _ (HU.out.ext HE1.out) (HR.out.ext HE1.out)).mono ?_; rintro e w2 ⟨rfl, rfl⟩; rw [HH.out]) | (go_at_call 17; refine (refCheck_any _ _ u rs _ (HU.out.ext HE1.out) HUM.out (HR.out.ext HE1.out)).mono ?_; rintro e w3 ⟨rfl, hE3⟩; have HE3 := Lib.hid (HE1.out.trans hE3); clear hE3; rw [H0.out]))
          refine (all_any _ _ u rs lim _ (HIU.out.ext HE3.out) (HIR.out.ext HE3.out) H0.out hl1' HN8.out).mono ?_
          rintro e w4 (⟨hlt, rfl, hE4⟩ | ⟨hle, v4, rfl, hss4, hE4⟩)
          · rw [HAL.out] at hlt
            have HLT := Lib.hid hlt; clear hlt
            have HE4 := Lib.hid (HE3.out.trans hE4); clear hE4
            go_wp2_with (fail)
            refine (refAll_any _ _ u rs _ (HU.out.ext HE4.out) (HR.out.ext HE4.out) (by have := HN8.out; omega)).mono ?_
            rintro e w5 ⟨v5, rfl, hss5, hE5⟩
            obtain ⟨qs5, h51, h52, -⟩ := hss5
            obtain ⟨A5, n5, c5, rfl, hn5, -⟩ := h51.rd
            have hn5' : lim < (n5 : Int) := by rw [← hn5, h52]; exact HLT.out
            clear h51 h52 hn5
            go_wp2_with (fail)
            go_ret
            exact ⟨rfl, HE4.out.trans hE5⟩
          · rw [HAL.out] at hle
            have HLE := Lib.hid hle; clear hle
            have HE4 := Lib.hid (HE3.out.trans hE4); clear hE4
            rw [HAL.out] at hss4
            have hrd4 := hss4.rd
            obtain ⟨qs4, h41, h42, h43⟩ := hrd4
            have h41' := h41
            obtain ⟨A4, n4, c4, rfl, hn4, hnc4, hcm4, hcell4⟩ := h41'
            have hn4' : n4 = (allRef u rs).length := by rw [← hn4, h42]
            unfold maxLen at hcm4
            subst hn4'
            have HC4 := Lib.hid hcell4; clear hcell4
            have H43 := Lib.hid h43; clear h43
            have H42 := Lib.hid h42; clear h42
            clear h41 hss4 hn4
            go_wp2_with (fail)
            refine (refAll_any _ _ u rs _ (HU.out.ext HE4.out) (HR.out.ext HE4.out) (by have := HN8.out; omega)).mono ?_
            rintro e w5 ⟨v5, rfl, hss5, hE5⟩
            have hrd5 := hss5.rd
            obtain ⟨qs5, h51, h52, h53⟩ := hrd5
            have h51' := h51
            obtain ⟨A5, n5, c5, rfl, hn5, hnc5, hcm5, hcell5⟩ := h51'
            have hn5' : n5 = (allRef u rs).length := by rw [← hn5, h52]
            unfold maxLen at hcm5
            subst hn5'
            have HC5 := Lib.hid hcell5; clear hcell5
            have H53 := Lib.hid h53; clear h53
            have H52 := Lib.hid h52; clear h52
            have HE5 := Lib.hid hE5; clear hE5
            clear h51 hss5 hn5
            have hlim : ((allRef u rs).length : Int) ≤ lim := HLE.out
            have h256 := HLL.out
            generalize hL : allRef u rs = L at *
            clear hL HAL HLE HLL
            go_wp2_with (fail)
            go_loopw [10] (fun i wr => ∃ k : Nat, k ≤ L.length ∧ i = .int .i64 k ∧ Ext w5 wr) (fun i _ => L.length - (intOf i).toNat)
            case atStart => exact ⟨0, Nat.zero_le _, rfl, Ext.refl _⟩
            case round =>
              obtain ⟨k, hk, rfl, hEr⟩ := hrel
              have HER := Lib.hid hEr; clear hEr
              by_cases hlt : k < L.length
              · obtain ⟨b4, off4, rfl, hb4, hcc4⟩ := HC4.out (by omega)
                obtain ⟨b5, off5, rfl, hb5, hcc5⟩ := HC5.out (by omega)
                have hk4 : k < qs4.length := by rw [H42.out]; exact hlt
                have hk5 : k < qs5.length := by rw [H52.out]; exact hlt
                have hr4 := (H43.out k _ _ (List.getElem?_eq_getElem hk4) (List.getElem?_eq_getElem hlt)).ext (HE5.out.trans HER.out)
                have hr5 := (H53.out k _ _ (List.getElem?_eq_getElem hk5) (List.getElem?_eq_getElem hlt)).ext HER.out
                have hc4 : wr.cell? ⟨b4, off4 + k, none⟩ = some qs4[k] := (HE5.out.trans HER.out).cell (hcc4 k _ (List.getElem?_eq_getElem hk4))
                have hc5 : wr.cell? ⟨b5, off5 + k, none⟩ = some qs5[k] := HER.out.cell (hcc5 k _ (List.getElem?_eq_getElem hk5))
                clear hcc4 hcc5
                generalize qs4[k] = q4 at *
                generalize qs5[k] = q5 at *
                have HR4 := Lib.hid hr4; clear hr4
                have HR5 := Lib.hid hr5; clear hr5
                have hkI : (k : Int) < (L.length : Int) := by omega
                go_wp2_with (fail)
                go_quiet ((go_at_call 20; exact same_quiet _ _ L[k] L[k] _ _ true HR4.out HR5.out (decide_eq_true rfl)))
                go_wp2_with (fail)
                go_roundw
                case rel => exact ⟨k + 1, by omega, by go_num, HER.out.drewN _⟩
                case measure => simp [intOf]; omega
              · go_wp2_with (fail)
                go_ret
                exact ⟨rfl, (HE4.out.trans HE5.out).trans HER.out⟩
      · have hzb : (checkE u rs != 0) = true := by simpa using h0
        have H0 := Lib.hid h0; clear h0
        go_enter Try.func3, Try.ntmps3
        go_wp2_with (first | (go_at_call 15; refine (awake_any _).mono ?_; rintro e w1 ⟨rfl, hE1⟩; have HE1 := Lib.hid hE1; clear hE1) | (go_at_call 16; refine (heavy_any _ _ u rs _ (HU.out.ext HE1.out) (HR.out.ext HE1.out)).mono ?_; rintro e w2 ⟨rfl, rfl⟩; rw [HH.out]) | (go_at_call 17; refine (refCheck_any _ _ u rs _ (HU.out.ext HE1.out) HUM.out (HR.out.ext HE1.out)).mono ?_; rintro e w3 ⟨rfl, hE3⟩; have HE3 := Lib.hid (HE1.out.trans hE3); clear hE3))
        go_ret
        exact ⟨rfl, HE3.out⟩
end Go.Proofs.Ythgplaledmccgaa
