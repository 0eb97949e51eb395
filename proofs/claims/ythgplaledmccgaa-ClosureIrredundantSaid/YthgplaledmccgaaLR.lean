/-
  The walk of the law ClosureReduces: it returns true, whatever comes in.
-/
import Derived.Test.YthgplaledmccgaaW31
import Derived.Test.YthgplaledmccgaaLA
namespace Go.Proofs.Ythgplaledmccgaa
open Go.RowKit

set_option maxRecDepth 100000 in
set_option maxHeartbeats 1600000 in
theorem sameRules_any (va vb : Value) (a : List RuleN) (w : World) (ha : RdR w va a) (hb : RdR w vb a) (hs : a.length ≤ 1048576) :
    Calls Try.prog 40 #[va, vb] w fun e w' => e = .returned (.bool true) ∧ Ext w w' := by
  obtain ⟨A, n, c, rfl, hl, hnc, hcm, hcell⟩ := ha
  obtain ⟨A', n', c', rfl, hl', hnc', hcm', hcell'⟩ := hb
  obtain rfl : n = n' := by omega
  unfold maxLen at hcm hcm'
  have hn : n ≤ 1048576 := by omega
  have HL := Lib.hid hl
  have HC := Lib.hid hcell
  have HC' := Lib.hid hcell'
  clear hl hl' hcell hcell' hs
  go_enter Try.func40, Try.ntmps40
  go_wp2_with (fail)
  go_loopw [5] (fun vi wr => ∃ k : Nat, k ≤ n ∧ vi = .int .i64 k ∧ Ext w wr) (fun vi _ => n - (intOf vi).toNat)
  case atStart => exact ⟨0, Nat.zero_le _, rfl, Ext.refl _⟩
  case round =>
    obtain ⟨k, hk, rfl, hE⟩ := hrel
    have HE := Lib.hid hE; clear hE
    by_cases hlt : k < n
    · obtain ⟨b1, o1, rfl, hb1, h1⟩ := HC.out (by omega)
      obtain ⟨b2, o2, rfl, hb2, h2⟩ := HC'.out (by omega)
      have hkl : k < a.length := by rw [HL.out]; exact hlt
      obtain ⟨q1, c11, c12, g1⟩ := h1 k _ (List.getElem?_eq_getElem hkl)
      obtain ⟨q2, c21, c22, g2⟩ := h2 k _ (List.getElem?_eq_getElem hkl)
      have c11 := HE.out.cell c11
      have c12 := HE.out.cell c12
      have c21 := HE.out.cell c21
      have c22 := HE.out.cell c22
      have HG1 := Lib.hid (g1.ext HE.out)
      have HG2 := Lib.hid (g2.ext HE.out)
      clear h1 h2 g1 g2
      generalize a[k] = r at *
      have tl := fun (x : List UInt8) => ByteArray.toList_mk x
      have hkI : (k : Int) < (n : Int) := by omega
      go_wp2_with (fail)
      go_quiet ((go_at_call 20; exact same_quiet _ _ r.1 r.1 _ _ true HG1.out HG2.out (decide_eq_true rfl)))
      go_wp2_with (fail)
      go_roundw
      case rel => exact ⟨k + 1, by omega, by go_num, HE.out.drewN _⟩
      case measure => simp [intOf]; omega
    · go_wp2_with (fail)
      go_ret
      exact ⟨rfl, HE.out⟩

theorem keepR_len (u : NmL) (kept todo : List RuleN) : (keepR u kept todo).length ≤ kept.length + todo.length := by
  induction todo generalizing kept with
  | nil => simp [keepR]
  | cons r t ih =>
    rw [keepR]
    split
    · refine Nat.le_trans (ih _) ?_; simp
    · refine Nat.le_trans (ih _) ?_; simp; omega
theorem reduceR_len (u : NmL) (rs : List RuleN) : (reduceR u rs).length ≤ rs.length := by
  have := keepR_len u [] (rs.map (shortR u rs))
  simpa [reduceR] using this

set_option maxRecDepth 100000 in
set_option maxHeartbeats 4000000 in
theorem lawReduces_any (vu vs : Value) (u : List Nm) (rs : List RuleN) (w : World) (hu : RdS w vu u) (hum : ∀ x ∈ u, x.length ≤ maxLen) (hr : RdR w vs rs) :
    Calls Try.prog 12 #[vu, vs] w fun e w' => e = .returned (.bool true) ∧ Ext w w' := by
  have HU := Lib.hid hu; clear hu
  have HR := Lib.hid hr; clear hr
  have HUM := Lib.hid hum; clear hum
  cases hh : heavyB u rs with
  | true =>
    have HH := Lib.hid hh; clear hh
    go_enter Try.func12, Try.ntmps12
    go_wp2_with (first | (go_at_call 15; refine (awake_any _).mono ?_; rintro e w1 ⟨rfl, hE1⟩; have HE1 := Lib.hid hE1; clear hE1) | (go_at_call 16; refine (heavy_any _ _ u rs _ (HU.out.ext HE1.out) (HR.out.ext HE1.out)).mono ?_; rintro e w2 ⟨rfl, rfl⟩; rw [HH.out]))
    go_ret
    exact ⟨rfl, HE1.out⟩
  | false =>
    have HIU := Lib.hid (InU.of HU.out HUM.out hh)
    have HIR := Lib.hid (InR.of HR.out hh)
    have hlen := (heavyB_no hh).2.1
    have HH := Lib.hid hh; clear hh
    have HRL : Hid ((reduceR u rs).length ≤ 1048576) := Lib.hid (by have := reduceR_len u rs; omega)
    clear hlen
    by_cases h0 : checkE u rs = 0
    · have HEQ := Lib.hid (reduce_eq h0)
      have H0 := Lib.hid h0; clear h0
      go_enter Try.func12, Try.ntmps12
      go_wp2_with (first | (go_at_call 15; refine (awake_any _).mono ?_; rintro e w1 ⟨rfl, hE1⟩; have HE1 := Lib.hid hE1; clear hE1) | (go_at_call 16; refine (heavy_any _ _ u rs _ (HU.out.ext HE1.out) (HR.out.ext HE1.out)).mono ?_; rintro e w2 ⟨rfl, rfl⟩; rw [HH.out]) | (go_at_call 17; refine (refCheck_any _ _ u rs _ (HU.out.ext HE1.out) HUM.out (HR.out.ext HE1.out)).mono ?_; rintro e w3 ⟨rfl, hE3⟩; have HE3 := Lib.hid (HE1.out.trans hE3); clear hE3; rw [H0.out]) | (go_at_call 39; refine (reduce_ok _ _ u rs _ (HIU.out.ext HE3.out) (HIR.out.ext HE3.out) H0.out).mono ?_; rintro e w4 ⟨v4, rfl, hr4, hE4⟩; rw [HEQ.out] at hr4; have HR4 := Lib.hid hr4; have HE4 := Lib.hid (HE3.out.trans hE4); clear hE4; obtain ⟨A4, n4, c4, rfl, -⟩ := hr4) | (go_at_call 41; refine (refReduce_any _ _ u rs _ (HIU.out.ext HE4.out) (HIR.out.ext HE4.out) H0.out).mono ?_; rintro e w5 ⟨v5, rfl, hr5, hE5⟩; have HR5 := Lib.hid hr5; have HR45 := Lib.hid (HR4.out.ext hE5); have HE5 := Lib.hid (HE4.out.trans hE5); clear hE5 hr5) | (go_at_call 40; refine (sameRules_any _ _ (reduceR u rs) _ HR45.out HR5.out HRL.out).mono ?_; rintro e w6 ⟨rfl, hE6⟩; have HE6 := Lib.hid (HE5.out.trans hE6); clear hE6))
      go_ret
      exact ⟨rfl, HE6.out⟩
    · have hzb : (checkE u rs != 0) = true := by simpa using h0
      have hzc : (checkE u rs == 0) = false := by simpa using h0
      have H0 := Lib.hid h0; clear h0
      go_enter Try.func12, Try.ntmps12
      go_wp2_with (first | (go_at_call 15; refine (awake_any _).mono ?_; rintro e w1 ⟨rfl, hE1⟩; have HE1 := Lib.hid hE1; clear hE1) | (go_at_call 16; refine (heavy_any _ _ u rs _ (HU.out.ext HE1.out) (HR.out.ext HE1.out)).mono ?_; rintro e w2 ⟨rfl, rfl⟩; rw [HH.out]) | (go_at_call 17; refine (refCheck_any _ _ u rs _ (HU.out.ext HE1.out) HUM.out (HR.out.ext HE1.out)).mono ?_; rintro e w3 ⟨rfl, hE3⟩; have HE3 := Lib.hid (HE1.out.trans hE3); clear hE3) | (go_at_call 39; refine (reduce_err _ _ u rs _ (HIU.out.ext HE3.out) (HIR.out.ext HE3.out) H0.out).mono ?_; rintro e w4 ⟨rfl, hE4⟩; have HE4 := Lib.hid (HE3.out.trans hE4); clear hE4))
      go_ret
      exact ⟨rfl, HE4.out⟩
end Go.Proofs.Ythgplaledmccgaa
