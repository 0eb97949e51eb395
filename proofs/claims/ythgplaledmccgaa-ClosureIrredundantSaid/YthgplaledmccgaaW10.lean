/-
  Contract: closure.Closed.
-/
import Derived.Test.YthgplaledmccgaaW9
namespace Go.Proofs.Ythgplaledmccgaa
open Go.RowKit

set_option maxRecDepth 100000 in
set_option maxHeartbeats 400000 in
theorem closed1_any (q vs : Value) (h : Horn) (s : List Bool) (bb : Nat) (w : World) (hq : Rd1 w encI q h.1) (hv : Rd1 w Value.bool vs s) (hb : w.cell? ⟨bb, 0, none⟩ = some vs) (h2 : h.2 < s.length) (h1 : ∀ p ∈ h.1, p < s.length) :
    Calls Try.prog 55 #[.agg #[q, .int .i64 (h.2 : Int)], .pointer (some ⟨bb, 0, none⟩)] w fun e w' => e = .returned (.bool (firesB s h)) ∧ Ext w w' := by
  have hbw : bb < w.heap.size := World.block_lt_of_cell? _ _ hb
  have HQ := Lib.hid hq
  have HV := Lib.hid hv
  obtain ⟨A, n, c, rfl, -⟩ := hq
  obtain ⟨A', n', c', rfl, -⟩ := hv
  have H1 := Lib.hid h1; clear h1
  have H2 := Lib.hid h2; clear h2
  go_enter Try.func55, Try.ntmps55
  go_wp2_with (fail)
  refine (fires_any _ _ h s _ (HQ.out.ext ((Ext.refl _).alloc _)) (HV.out.ext ((Ext.refl _).alloc _)) H2.out H1.out).mono ?_
  rintro e w' ⟨rfl, hE⟩
  have HE := Lib.hid hE; clear hE
  go_wp2_with (fail)
  go_ret
  exact ⟨rfl, ((Ext.refl _).alloc _).trans HE.out⟩

def IndexPost (hs : List Horn) (s : List Bool) (w : World) (e : Ending) (w' : World) : Prop := ∃ r : Int, e = .returned (.int .i64 r) ∧ decide (0 ≤ r) = hs.any (fun h => firesB s h) ∧ Ext w w'

set_option maxRecDepth 100000 in
set_option maxHeartbeats 800000 in
theorem index_any (vr vs : Value) (hs : List Horn) (s : List Bool) (bb : Nat) (w : World) (hr : RdH w vr hs) (hv : Rd1 w Value.bool vs s) (hb : w.cell? ⟨bb, 0, none⟩ = some vs) (hok : okH s.length hs) :
    Calls Try.prog 73 #[vr, .func (.func 55) #[] #[.pointer (some ⟨bb, 0, none⟩)]] w (IndexPost hs s w) := by
  obtain ⟨A, n, c, rfl, hl, hnc, hcm, hcell⟩ := hr
  unfold maxLen at hcm
  have HV := Lib.hid hv; clear hv
  have HL := Lib.hid hl; clear hl
  have HC := Lib.hid hcell; clear hcell
  have HOK := Lib.hid hok; clear hok
  go_enter Try.func73, Try.ntmps73
  go_wp2_with (fail)
  go_loopw [8] (fun i wr => ∃ k : Nat, k ≤ n ∧ i = .int .i64 k ∧ Ext w wr ∧ (hs.take k).any (fun h => firesB s h) = false) (fun i _ => n - (intOf i).toNat)
  case atStart => exact ⟨0, Nat.zero_le _, rfl, Ext.refl _, by simp⟩
  case round =>
    obtain ⟨k, hk, rfl, hE, hno⟩ := hrel
    have HE := Lib.hid hE; clear hE
    have HNO := Lib.hid hno; clear hno
    by_cases hlt : k < n
    · obtain ⟨bl, off, rfl, hbl, hcl⟩ := HC.out (by omega)
      have hkl : k < hs.length := by rw [HL.out]; exact hlt
      obtain ⟨q, hq1, hq2, hq3⟩ := hcl k hs[k] (List.getElem?_eq_getElem hkl)
      have hq1 := HE.out.cell hq1
      have hq2 := HE.out.cell hq2
      clear hcl
      have hjok := HOK.out _ (List.getElem_mem hkl)
      have HJ := Lib.hid hjok; clear hjok
      have hq3' := hq3
      obtain ⟨Aq, nq, cq, rfl, -⟩ := hq3'
      have HQ := Lib.hid hq3; clear hq3
      cases hf : firesB s hs[k] with
      | true =>
        have HF := Lib.hid hf; clear hf
        go_wp2_with (go_at_call 55; refine (closed1_any _ vs hs[k] s bb _ (HQ.out.ext HE.out) (HV.out.ext HE.out) (HE.out.cell hb) HJ.out.1 HJ.out.2).mono ?_; rintro e w' ⟨rfl, hE'⟩; rw [HF.out])
        go_ret
        exact ⟨k, rfl, by
          rw [decide_eq_true (by omega)]
          exact (List.any_eq_true.2 ⟨_, List.getElem_mem hkl, HF.out⟩).symm, HE.out.trans hE'⟩
      | false =>
        have HF := Lib.hid hf; clear hf
        go_wp2_with (go_at_call 55; refine (closed1_any _ vs hs[k] s bb _ (HQ.out.ext HE.out) (HV.out.ext HE.out) (HE.out.cell hb) HJ.out.1 HJ.out.2).mono ?_; rintro e w' ⟨rfl, hE'⟩; rw [HF.out])
        go_roundw
        case rel => exact ⟨k + 1, by omega, by go_num, HE.out.trans hE', by rw [List.take_succ_eq_append_getElem hkl, List.any_append, HNO.out]; simp [HF.out]⟩
        case measure => simp [intOf]; omega
    · go_wp2_with (fail)
      go_ret
      have hno := HNO.out
      rw [List.take_of_length_le (by have := HL.out; omega)] at hno
      exact ⟨-1, rfl, by rw [hno]; rfl, HE.out⟩

set_option maxRecDepth 100000 in
set_option maxHeartbeats 400000 in
theorem contains_any (vr vs : Value) (hs : List Horn) (s : List Bool) (bb : Nat) (w : World) (hr : RdH w vr hs) (hv : Rd1 w Value.bool vs s) (hb : w.cell? ⟨bb, 0, none⟩ = some vs) (hok : okH s.length hs) :
    Calls Try.prog 54 #[vr, .func (.func 55) #[] #[.pointer (some ⟨bb, 0, none⟩)]] w fun e w' => e = .returned (.bool (hs.any (fun h => firesB s h))) ∧ Ext w w' := by
  have HR := Lib.hid hr; clear hr
  have HV := Lib.hid hv; clear hv
  have HOK := Lib.hid hok; clear hok
  go_enter Try.func54, Try.ntmps54
  go_wp2_with (fail)
  refine (index_any _ vs hs s bb _ HR.out HV.out hb HOK.out).mono ?_
  rintro e w' ⟨r, rfl, hr, hE⟩
  have HRR := Lib.hid hr; clear hr
  have HE := Lib.hid hE; clear hE
  go_wp2_with (fail)
  go_ret
  exact ⟨by rw [← HRR.out]; rfl, HE.out⟩

def closedB (u : List Nm) (rs : List RuleN) (l : List Nm) : Bool := !((rs.map (toHorn u)).any fun h => firesB (memB u l) h)

set_option maxRecDepth 100000 in
set_option maxHeartbeats 400000 in
theorem closed_ok (vu vs vl : Value) (u : List Nm) (rs : List RuleN) (l : List Nm) (w : World) (hu : InU w vu u) (hr : InR w vs rs) (hl : RdS w vl l) (h0 : check2E u rs l = 0) :
    Calls Try.prog 29 #[vu, vs, vl] w fun e w' => e = .returned (.tuple #[.bool (closedB u rs l), .int .i64 0]) ∧ Ext w w' := by
  have hc0 : checkE u rs = 0 := by
    unfold check2E at h0
    by_cases h : checkE u rs = 0
    · exact h
    · rw [if_neg h] at h0; exact absurd h0 h
  have hs0 : setE u l = 0 := by unfold check2E at h0; rwa [if_pos hc0] at h0
  have HU := Lib.hid hu; clear hu
  have HR := Lib.hid hr; clear hr
  have HL := Lib.hid hl; clear hl
  have HC0 := Lib.hid hc0; clear hc0
  have HS0 := Lib.hid hs0; clear hs0 h0
  have hss : ascB l = true ∧ ∀ x ∈ l, x ∈ u := by
    rcases setE_cases u l with h | h | h
    · exact h.2
    · have := HS0.out; rw [h.1] at this; cases this
    · have := HS0.out; rw [h.1] at this; cases this
  have HSS := Lib.hid hss; clear hss
  go_enter Try.func29, Try.ntmps29
  go_wp2_with (fail)
  refine (parse_ok _ _ u rs _ HU.out HR.out HC0.out).mono ?_
  rintro e w1 ⟨b, vu', vr, rfl, hS⟩
  have HS := Lib.hid hS; clear hS
  go_wp2_with (fail)
  refine (set_ok b vu' vl u l _ HS.out.read.cu HS.out.read.ru HS.out.asc (HL.out.ext HS.out.ext) HSS.out.1 HSS.out.2 HS.out.szu).mono ?_
  rintro e w2 ⟨g, rfl, hg, hA, hE⟩
  have HA := Lib.hid hA; clear hA
  have hrd := HA.out.rd (by rw [memB_len]; have := HU.out.sz; unfold maxLen; omega)
  rw [memB_len] at hrd
  have HRD := Lib.hid hrd; clear hrd
  have hS2 := HS.out.read.ext hE
  have hcr := hS2.cr
  have hb1 : b < w2.heap.size := World.block_lt_of_cell? _ _ hcr
  have HE := Lib.hid hE; clear hE
  have HRH := Lib.hid hS2.rh
  have HOK : Hid (okH (memB u l).length (rs.map (toHorn u))) := by rw [memB_len]; exact hS2.ok
  have hrh := hS2.rh
  obtain ⟨Ar, nr, cr, rfl, -⟩ := hrh
  clear hS2
  go_wp2_with (fail)
  refine (contains_any _ _ (rs.map (toHorn u)) (memB u l) _ _ (HRH.out.ext ((Ext.refl _).alloc _)) (HRD.out.ext ((Ext.refl _).alloc _)) (cell_new1 _ _ _) HOK.out).mono ?_
  rintro e w3 ⟨rfl, hE3⟩
  have HE3 := Lib.hid hE3; clear hE3
  go_wp2_with (fail)
  go_ret2
  exact ⟨by simp only [closedB, List.any_map]; rfl, ((HS.out.ext.trans HE.out).alloc _).trans HE3.out⟩

set_option maxRecDepth 100000 in
set_option maxHeartbeats 400000 in
theorem closed_err (vu vs vl : Value) (u : List Nm) (rs : List RuleN) (l : List Nm) (w : World) (hu : InU w vu u) (hr : InR w vs rs) (hl : RdS w vl l) (h0 : check2E u rs l ≠ 0) :
    Calls Try.prog 29 #[vu, vs, vl] w fun e w' => e = .returned (.tuple #[.bool false, .int .i64 (check2E u rs l)]) ∧ Ext w w' := by
  have HU := Lib.hid hu; clear hu
  have HR := Lib.hid hr; clear hr
  have HL := Lib.hid hl; clear hl
  by_cases hc0 : checkE u rs = 0
  · have he : check2E u rs l = setE u l := by unfold check2E; rw [if_pos hc0]
    rw [he] at h0 ⊢
    have HC0 := Lib.hid hc0; clear hc0 he
    have hzb : (setE u l != 0) = true := by simpa using h0
    have H0 := Lib.hid h0; clear h0
    go_enter Try.func29, Try.ntmps29
    go_wp2_with (fail)
    refine (parse_ok _ _ u rs _ HU.out HR.out HC0.out).mono ?_
    rintro e w1 ⟨b, vu', vr, rfl, hS⟩
    have HS := Lib.hid hS; clear hS
    go_wp2_with (fail)
    refine (set_err b vu' vl u l _ HS.out.read.cu HS.out.read.ru HS.out.asc (HL.out.ext HS.out.ext) HS.out.szu H0.out).mono ?_
    rintro e w2 ⟨rfl, hE⟩
    have HE := Lib.hid hE; clear hE
    go_wp2_with (fail)
    go_ret2
    exact ⟨rfl, (HS.out.ext.trans HE.out).alloc _⟩
  · have he : check2E u rs l = checkE u rs := by unfold check2E; rw [if_neg hc0]
    rw [he] at h0 ⊢
    clear he hc0
    have hzb : (checkE u rs != 0) = true := by simpa using h0
    have H0 := Lib.hid h0; clear h0
    go_enter Try.func29, Try.ntmps29
    go_wp2_with (fail)
    refine (parse_err _ _ u rs _ HU.out HR.out H0.out).mono ?_
    rintro e w1 ⟨rfl, hE⟩
    have HE := Lib.hid hE; clear hE
    go_wp2_with (fail)
    go_ret2
    exact ⟨rfl, HE.out⟩
end Go.Proofs.Ythgplaledmccgaa
