/-
  Contracts: the reference's element, Valid, Is at registers; the law's small.
-/
import Derived.Test.YthldgioggjpnpaaGreatS5
namespace Go.Proofs.YthldgioggjpnpaaGreat
open Go.RowKit

/-- the reference's word for a register -/
def IsReg (N : Int) (nn np : Nat) (es : List En) : Prop := N = 0 ∧ nn = 0 ∧ np = 0 ∧ ∀ j, okE es j

noncomputable def isB (P : Prop) : Bool := @decide P (Classical.propDecidable P)
theorem isB_iff (P : Prop) : isB P = true ↔ P := @decide_eq_true_iff P (Classical.propDecidable P)
theorem isB_of {r : Bool} {P : Prop} (h : r = true ↔ P) : r = isB P := by
  rw [Bool.eq_iff_iff, isB_iff]; exact h

set_option maxRecDepth 100000 in
set_option maxHeartbeats 2000000 in
theorem relementR (v : Value) (N : Int) (nn np : Nat) (es : List En) (w : World) (h : RdV w v N nn np es) :
    Calls Tryz.prog 88 #[latR, v] w fun e w' => ∃ r, e = .returned (.bool r) ∧ (r = true ↔ IsReg N nn np es) ∧ Ext w w' := by
  obtain ⟨An, cn, Ap, cp, ve, rfl, he⟩ := h
  have HE := Lib.hid he
  obtain ⟨A, n, c, rfl, hl, hnc, hcm, -⟩ := he
  clear hl
  have hEE : Ext w ((w.alloc (.cells #[.int .i64 9, .int .i64 0, .int .i64 0, nilS, nilS, nilS] 46)).alloc (.cells #[.int .i64 N, .slice An nn cn, .slice Ap np cp, .slice A n c] 26)) := ((Ext.refl w).alloc _).alloc _
  have HEE := Lib.hid hEE; clear hEE
  have CE := Lib.hid (fun W (hW : Ext w W) => rentries_any _ es W (HE.out.ext hW))
  by_cases h1 : N = 0
  · subst h1
    by_cases h2 : nn = 0
    · subst h2
      by_cases h3 : np = 0
      · subst h3
        go_enter Tryz.func88, Tryz.ntmps88
        go_wp2_with (first
          | (go_at_call 125; refine (CE.out _ HEE.out).mono ?_; rintro e w1 ⟨r, rfl, hr, hE1⟩; have HR := Lib.hid hr; clear hr; have HE1 := Lib.hid (HEE.out.trans hE1); clear hE1))
        go_ret
        exact ⟨r, rfl, ⟨fun h => ⟨by first | rfl | trivial, by first | rfl | trivial, by first | rfl | trivial, HR.out.1 h⟩, fun h => HR.out.2 h.2.2.2⟩, HE1.out⟩
      · have e2 : ((np : Int) == 0) = false := by rw [beq_eq_false_iff_ne]; omega
        have HN := Lib.hid h3; clear h3
        go_enter Tryz.func88, Tryz.ntmps88
        go_wp2_with (fail)
        go_ret
        exact ⟨false, rfl, ⟨fun h => absurd h (by decide), fun h => absurd h.2.2.1 HN.out⟩, HEE.out⟩
    · have e2 : ((nn : Int) == 0) = false := by rw [beq_eq_false_iff_ne]; omega
      have HN := Lib.hid h2; clear h2
      go_enter Tryz.func88, Tryz.ntmps88
      go_wp2_with (fail)
      go_ret
      exact ⟨false, rfl, ⟨fun h => absurd h (by decide), fun h => absurd h.2.1 HN.out⟩, HEE.out⟩
  · have e2 : (N == 0) = false := by simpa using h1
    have e3 : (N != 0) = true := by simpa using h1
    have HN := Lib.hid h1; clear h1
    go_enter Tryz.func88, Tryz.ntmps88
    go_wp2_with (fail)
    go_ret
    exact ⟨false, rfl, ⟨fun h => absurd h (by decide), fun h => absurd h.1 HN.out⟩, HEE.out⟩

set_option maxRecDepth 100000 in
set_option maxHeartbeats 2000000 in
theorem rvvalid_any (v : Value) (N : Int) (nn np : Nat) (es : List En) (w : World) (h : RdV w v N nn np es) :
    Calls Tryz.prog 57 #[latR, v] w fun e w' => ∃ r, e = .returned (.bool r) ∧ (r = true ↔ IsReg N nn np es) ∧ Ext w w' := by
  have H := Lib.hid h
  obtain ⟨An, cn, Ap, cp, ve, rfl, he⟩ := h
  clear he
  have hB1 : Blk ((w.alloc (.cells #[.int .i64 9, .int .i64 0, .int .i64 0, nilS, nilS, nilS] 46)).alloc (.cells #[.int .i64 N, .slice An nn cn, .slice Ap np cp, ve] 26)) w.heap.size 46 #[.int .i64 9, .int .i64 0, .int .i64 0, nilS, nilS, nilS] := (Blk.new _ _ _).alloc _
  have hB2 : Blk ((w.alloc (.cells #[.int .i64 9, .int .i64 0, .int .i64 0, nilS, nilS, nilS] 46)).alloc (.cells #[.int .i64 N, .slice An nn cn, .slice Ap np cp, ve] 26)) (w.heap.size + 1) 26 #[.int .i64 N, .slice An nn cn, .slice Ap np cp, ve] := Blk.new' _ _ _ _ (by simp)
  have HB1 := Lib.hid hB1; clear hB1
  have HB2 := Lib.hid hB2; clear hB2
  have HEL := Lib.hid (fun W (hW : Ext w W) => relementR _ N nn np es W (H.out.ext hW))
  go_enter Tryz.func57, Tryz.ntmps57
  go_wp2_with (first
    | (go_at_call 87; refine (rcheckR _).mono ?_; rintro e w1 ⟨rfl, hE1⟩; have g1 := HB1.out.ext hE1; have g2 := HB2.out.ext hE1; have c0 := g1.cell 0; have c1 := g1.cell 1; have c2 := g1.cell 2; have c3 := g1.cell 3; have c4 := g1.cell 4; have c5 := g1.cell 5; have d0 := g2.cell 0; have d1 := g2.cell 1; have d2 := g2.cell 2; have d3 := g2.cell 3; have l1 := g1.lt; have l2 := g2.lt; clear g1 g2; simp at c0 c1 c2 c3 c4 c5 d0 d1 d2 d3; have HE1 := Lib.hid (((Ext.refl w).alloc _ |>.alloc _).trans hE1); clear hE1)
    | (go_at_call 88; refine (HEL.out _ HE1.out).mono ?_; rintro e w2 ⟨r, rfl, hr, hE2⟩; have HR := Lib.hid hr; clear hr; have HE2 := Lib.hid (HE1.out.trans hE2); clear hE2))
  go_ret
  exact ⟨r, rfl, HR.out, HE2.out⟩

set_option maxRecDepth 100000 in
set_option maxHeartbeats 2000000 in
theorem ris_any (v : Value) (N : Int) (nn np : Nat) (es : List En) (w : World) (h : RdV w v N nn np es) :
    Calls Tryz.prog 39 #[v] w fun e w' => e = .returned (.bool (isB (IsReg N nn np es))) ∧ Ext w w' := by
  have H := Lib.hid h
  obtain ⟨An, cn, Ap, cp, ve, rfl, he⟩ := h
  clear he
  have hB1 : Blk (w.alloc (.cells #[.int .i64 N, .slice An nn cn, .slice Ap np cp, ve] 26)) w.heap.size 26 #[.int .i64 N, .slice An nn cn, .slice Ap np cp, ve] := Blk.new _ _ _
  have HEL := Lib.hid (fun W (hW : Ext w W) => rvvalid_any _ N nn np es W (H.out.ext hW))
  go_enter Tryz.func39, Tryz.ntmps39
  go_wp2_with (fail)
  obtain ⟨wa, hwa⟩ : ∃ wa, wa = w.alloc (.cells #[.int .i64 N, .slice An nn cn, .slice Ap np cp, ve] 26) := ⟨_, rfl⟩
  have HEA : Hid (Ext w wa) := Lib.hid (by rw [hwa]; exact (Ext.refl w).alloc _)
  rw [← hwa] at hB1 ⊢
  clear hwa
  have lb := hB1.lt
  have b0 : wa.cell? ⟨w.heap.size, 0, none⟩ = some (.int .i64 N) := hB1.cell 0
  have b1 : wa.cell? ⟨w.heap.size, 1, none⟩ = some (.slice An nn cn) := hB1.cell 1
  have b2 : wa.cell? ⟨w.heap.size, 2, none⟩ = some (.slice Ap np cp) := hB1.cell 2
  have b3 : wa.cell? ⟨w.heap.size, 3, none⟩ = some ve := hB1.cell 3
  clear hB1
  generalize w.heap.size = G at *
  have k0 := cell_regrown b0
  have k1 := cell_regrown b1
  have k2 := cell_regrown b2
  have k3 := cell_regrown b3
  have CK : Hid (∀ W, Ext wa W → Calls Tryz.prog 28 #[] W fun e w' => e = .returned latR ∧ Ext W w') := Lib.hid (fun W _ => rkind_any W)
  obtain ⟨r, hr⟩ : ∃ r, isB (IsReg N nn np es) = r := ⟨_, rfl⟩
  have CV : Hid (∀ W, Ext wa W → Calls Tryz.prog 57 #[latR, .agg #[.int .i64 N, .slice An nn cn, .slice Ap np cp, ve]] W fun e w' => e = .returned (.bool r) ∧ Ext W w') := Lib.hid (fun W hW => (HEL.out W (HEA.out.trans hW)).mono (by rintro e w' ⟨r', rfl, hr', hE⟩; exact ⟨by rw [isB_of hr', hr], hE⟩))
  have HRR := Lib.hid hr; clear hr
  refine wp_region_ext (by kernel_rfl) (by kernel_rfl) ?_
  repeat (go_big_quiet_step (first | (go_at_call 28; exact Calls.ext_of CK.out _ _) | (go_at_call 57; exact Calls.ext_of CV.out _ _)))
  refine wpQuiet_nil ?_
  intro w3 hE3
  go_wp2_with (fail)
  go_ret
  exact ⟨by rw [HRR.out]; rfl, HEA.out.trans hE3⟩

set_option maxRecDepth 100000 in
set_option maxHeartbeats 2000000 in
theorem small_any (v : Value) (N : Int) (nn np : Nat) (es : List En) (w : World) (h : RdV w v N nn np es) :
    Calls Tryz.prog 17 #[v] w fun e w' => e = .returned (.bool (isB (es.length ≤ 12 ∧ IsReg N nn np es))) ∧ Ext w w' := by
  have H := Lib.hid h
  obtain ⟨An, cn, Ap, cp, ve, rfl, he⟩ := h
  obtain ⟨A, n, c, rfl, hl, -⟩ := he
  obtain ⟨s, hs⟩ : ∃ s, isB (es.length ≤ 12 ∧ IsReg N nn np es) = s := ⟨_, rfl⟩
  rw [hs]
  rw [hl] at hs
  clear hl
  have HS := Lib.hid hs; clear hs
  have HEL := Lib.hid (fun W (hW : Ext w W) => ris_any _ N nn np es W (H.out.ext hW))
  have hEE : Ext w (w.alloc (.cells #[.int .i64 N, .slice An nn cn, .slice Ap np cp, .slice A n c] 26)) := (Ext.refl w).alloc _
  have HEE := Lib.hid hEE; clear hEE
  by_cases hle : n ≤ 12
  · have hd : decide ((n : Int) ≤ 12) = true := decide_eq_true (by omega)
    have hli : (n : Int) ≤ 12 := by omega
    have HLE := Lib.hid hle; clear hle
    go_enter Tryz.func17, Tryz.ntmps17
    go_wp2_with (go_at_call 39; go_loud (refine (HEL.out _ HEE.out).mono ?_; rintro e w1 ⟨rfl, hE1⟩; have HE1 := Lib.hid (HEE.out.trans hE1); clear hE1))
    go_ret
    exact ⟨by rw [← HS.out, ← isB_of (⟨fun h => ⟨HLE.out, (isB_iff _).1 h⟩, fun h => (isB_iff _).2 h.2⟩ : isB (IsReg N nn np es) = true ↔ n ≤ 12 ∧ IsReg N nn np es)]; rfl, HE1.out⟩
  · have hd : decide ((n : Int) ≤ 12) = false := decide_eq_false (by omega)
    have hli : ¬ (n : Int) ≤ 12 := by omega
    have HLE := Lib.hid hle; clear hle
    go_enter Tryz.func17, Tryz.ntmps17
    go_wp2_with (fail)
    go_ret
    exact ⟨by rw [← HS.out, ← isB_of (⟨fun h => absurd h (by decide), fun h => absurd h.1 HLE.out⟩ : false = true ↔ n ≤ 12 ∧ IsReg N nn np es)]; rfl, HEE.out⟩
end Go.Proofs.YthldgioggjpnpaaGreat
