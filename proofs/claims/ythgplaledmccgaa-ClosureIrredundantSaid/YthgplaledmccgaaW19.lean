/-
  Contracts: the reference Sorted, Close, Entails, Equivalent.
-/
import Derived.Test.YthgplaledmccgaaW18
import Derived.StillTailTactics
import Derived.Deep.RegionHeld3
namespace Go.Proofs.Ythgplaledmccgaa
open Go.RowKit

set_option maxRecDepth 100000 in
set_option maxHeartbeats 1000000 in
theorem refSorted_any (vu vl : Value) (u l : List Nm) (w : World) (hu : RdS w vu u) (hl : RdS w vl l) (hsz : u.length ≤ 1048576) :
    Calls Try.prog 58 #[vu, vl] w fun e w' => ∃ v, e = .returned v ∧ Own w' w.heap.size 9 encS v (sortedN u l) ∧ Ext w w' := by
  obtain ⟨i0, hi0, hz0, hz1, hz2⟩ := info_parts inf9
  obtain ⟨A, n, c, rfl, hln, hnc, hcm, hcell⟩ := hu
  unfold maxLen at hcm
  have hn : n ≤ 1048576 := by omega
  have HL := Lib.hid hln; clear hln hsz
  have HC := Lib.hid hcell; clear hcell
  have HV := Lib.hid hl; clear hl
  go_enter Try.func58, Try.ntmps58
  go_wp2_with (fail)
  go_loopw [5, 6] (fun v i wr => ∃ k : Nat, k ≤ n ∧ i = .int .i64 k ∧ Own wr w.heap.size 9 encS v (sortedN (u.take k) l) ∧ Ext w wr) (fun _ i _ => n - (intOf i).toNat)
  case atStart => exact ⟨0, Nat.zero_le _, rfl, by simpa [sortedN] using Own.empty w w.heap.size 9 encS (Nat.le_refl _), (Ext.refl w).alloc _⟩
  case round =>
    obtain ⟨k, hk, rfl, hown, hEr⟩ := hrel
    have HER := Lib.hid hEr; clear hEr
    have hlen : (sortedN (u.take k) l).length ≤ k := Nat.le_trans (List.length_filter_le _ _) (List.length_take_le _ _)
    obtain ⟨Ao, no, co, rfl, -⟩ := hown.rd
    have HOWN := Lib.hid hown; clear hown
    by_cases hlt : k < n
    · obtain ⟨bl, off, rfl, hbl, hcl⟩ := HC.out (by omega)
      have hkl : k < u.length := by rw [HL.out]; exact hlt
      have hc1 := HER.out.cell (hcl k u[k] (List.getElem?_eq_getElem hkl))
      clear hcl
      have htk := List.take_succ_eq_append_getElem hkl
      have HTK := Lib.hid htk; clear htk
      by_cases hm : u[k] ∈ l
      · have HM := Lib.hid hm; clear hm
        go_wp2_with (first | (go_at_call 33; refine (has_any _ l _ _ (HV.out.ext HER.out)).mono ?_; rintro e w' ⟨rfl, rfl⟩; rw [decide_eq_true HM.out]) | (at_builtin; go_must (refine wpList_append_one rfl (.tmp 20) (.tmp 25) 22 rfl 9 i0 _ 16 Try.underlying22 hi0 hz0 hz1 hz2 rfl encS w (HER.out.alloc _) (.slice Ao no co) _ rfl (HOWN.out.ext ((Ext.refl _).alloc _)) wr.heap.size 1 u[k] rfl (cell_new1 _ _ _) rfl (by unfold maxLen; omega) (by omega) ?_); intro v' w' hown' hE' _))
        go_roundw
        case rel =>
          refine ⟨k + 1, by omega, by go_num, ?_, hE'⟩
          have : sortedN (u.take (k + 1)) l = sortedN (u.take k) l ++ [u[k]] := by rw [HTK.out]; unfold sortedN; rw [List.filter_append]; simp [HM.out]
          rw [this]; exact hown'
        case measure => simp [intOf]; omega
      · have HM := Lib.hid hm; clear hm
        go_wp2_with (first | (go_at_call 33; refine (has_any _ l _ _ (HV.out.ext HER.out)).mono ?_; rintro e w' ⟨rfl, rfl⟩; rw [decide_eq_false HM.out]))
        go_roundw
        case rel =>
          refine ⟨k + 1, by omega, by go_num, ?_, HER.out⟩
          have : sortedN (u.take (k + 1)) l = sortedN (u.take k) l := by rw [HTK.out]; unfold sortedN; rw [List.filter_append]; simp [HM.out]
          rw [this]; exact HOWN.out
        case measure => simp [intOf]; omega
    · go_wp2_with (fail)
      go_ret
      have hown := HOWN.out
      rw [List.take_of_length_le (by have := HL.out; omega)] at hown
      exact ⟨_, rfl, hown, HER.out⟩

set_option maxRecDepth 100000 in
set_option maxHeartbeats 400000 in
theorem refClose_any (vu vs vl : Value) (u : List Nm) (rs : List RuleN) (l : List Nm) (w : World) (hu : InU w vu u) (hr : InR w vs rs) (hl : RdS w vl l) (hll : l.length ≤ 1048576) :
    Calls Try.prog 30 #[vu, vs, vl] w fun e w' => ∃ v, e = .returned v ∧ Own w' w.heap.size 9 encS v (closeR u rs l) ∧ Ext w w' := by
  have HU := Lib.hid hu; clear hu
  have HR := Lib.hid hr; clear hr
  have HV := Lib.hid hl; clear hl
  go_enter Try.func30, Try.ntmps30
  go_wp2_with (fail)
  refine (refChain_any _ _ rs l _ HR.out.rd HV.out HR.out.sz hll).mono ?_
  rintro e w1 ⟨v1, v2, rfl, ho1, ho2, hE1⟩
  have HO1 := Lib.hid ho1; clear ho1 ho2
  have HE1 := Lib.hid hE1; clear hE1
  go_wp2_with (fail)
  refine (refSorted_any _ _ u (chainR rs l).1 _ (HU.out.rd.ext HE1.out) HO1.out.rd HU.out.sz).mono ?_
  rintro e w2 ⟨v3, rfl, ho3, hE2⟩
  have HO3 := Lib.hid ho3; clear ho3
  have HE2 := Lib.hid hE2; clear hE2
  go_wp2_with (fail)
  go_ret
  exact ⟨_, rfl, HO3.out.up HE1.out.size, HE1.out.trans HE2.out⟩

def entR (u : List Nm) (rs : List RuleN) (r : RuleN) : Bool := decide (r.2 ∈ closeR u rs r.1)

set_option maxRecDepth 100000 in
set_option maxHeartbeats 1000000 in
theorem refEntails_any (vu vs vf : Value) (u : List Nm) (rs : List RuleN) (r : RuleN) (w : World) (hu : InU w vu u) (hr : InR w vs rs) (hl : RdS w vf r.1) (hll : r.1.length ≤ 1048576) :
    Calls Try.prog 23 #[vu, vs, .agg #[vf, encS r.2]] w fun e w' => e = .returned (.bool (entR u rs r)) ∧ Ext w w' := by
  have HU := Lib.hid hu; clear hu
  have HR := Lib.hid hr; clear hr
  have HV := Lib.hid hl
  obtain ⟨A, n, c, rfl, -⟩ := hl
  go_enter Try.func23, Try.ntmps23
  go_wp2_with (fail)
  have hc0 : (w.alloc (.cells #[.slice A n c, encS r.2] 35)).cell? ⟨w.heap.size, 0, none⟩ = some (.slice A n c) := (Blk.new _ _ _).cell 0
  have hc1 : (w.alloc (.cells #[.slice A n c, encS r.2] 35)).cell? ⟨w.heap.size, 1, none⟩ = some (encS r.2) := (Blk.new _ _ _).cell 1
  have hEa : Ext w (w.alloc (.cells #[.slice A n c, encS r.2] 35)) := (Ext.refl w).alloc _
  generalize w.alloc (.cells #[.slice A n c, encS r.2] 35) = wa at *
  have HEA := Lib.hid hEa; clear hEa
  go_region_held3 (fun w' => w'.cell? ⟨w.heap.size, 0, none⟩ = some (.slice A n c) ∧ w'.cell? ⟨w.heap.size, 1, none⟩ = some (encS r.2)) (first | exact ⟨hc0, hc1⟩ | exact ⟨HE1.out.cell hc0, HE1.out.cell hc1⟩)
    (first | (go_at_call 30; refine (refClose_any _ _ _ u rs r.1 _ (HU.out.ext HEA.out.drew) (HR.out.ext HEA.out.drew) (HV.out.ext HEA.out.drew) hll).mono ?_; rintro e w1 ⟨v1, rfl, ho1, hE1⟩; have HO1 := Lib.hid ho1; clear ho1; have HE1 := Lib.hid hE1; clear hE1) | (go_at_call 33; refine (has_any _ (closeR u rs r.1) _ _ HO1.out.rd).mono ?_; rintro e w2 ⟨rfl, rfl⟩))
  all_goals
    go_wp2_with (fail)
    go_ret
    exact ⟨rfl, HEA.out.drew.trans HE1.out⟩

def eqR (u : List Nm) (a b : List RuleN) : Bool := a.all (fun r => entR u b r) && b.all (fun r => entR u a r)

set_option maxRecDepth 100000 in
set_option maxHeartbeats 2000000 in
theorem refEquivalent_any (vu va vb : Value) (u : List Nm) (a b : List RuleN) (w : World) (hu : InU w vu u) (ha : InR w va a) (hb : InR w vb b) :
    Calls Try.prog 25 #[vu, va, vb] w fun e w' => e = .returned (.bool (eqR u a b)) ∧ Ext w w' := by
  have HU := Lib.hid hu; clear hu
  have hra := ha.rd
  obtain ⟨Aa, na, ca, rfl, hla, hnca, hcma, hcella⟩ := hra
  have hrb := hb.rd
  obtain ⟨Ab, nb, cb, rfl, hlb, hncb, hcmb, hcellb⟩ := hrb
  unfold maxLen at hcma hcmb
  have HA := Lib.hid ha; clear ha
  have HB := Lib.hid hb; clear hb
  have HLA := Lib.hid hla; clear hla
  have HLB := Lib.hid hlb; clear hlb
  have HCA := Lib.hid hcella; clear hcella
  have HCB := Lib.hid hcellb; clear hcellb
  go_enter Try.func25, Try.ntmps25
  go_wp2_with (fail)
  go_loopw [7] (fun i wr => ∃ k : Nat, k ≤ na ∧ i = .int .i64 k ∧ Ext w wr ∧ (a.take k).all (fun r => entR u b r) = true) (fun i _ => na - (intOf i).toNat)
  case atStart => exact ⟨0, Nat.zero_le _, rfl, Ext.refl _, by simp⟩
  case round =>
    obtain ⟨k, hk, rfl, hE, hno⟩ := hrel
    have HE := Lib.hid hE; clear hE
    have HNO := Lib.hid hno; clear hno
    by_cases hlt : k < na
    · obtain ⟨bl, off, rfl, hbl, hcl⟩ := HCA.out (by omega)
      have hkl : k < a.length := by rw [HLA.out]; exact hlt
      obtain ⟨q, hq1, hq2, hq3⟩ := hcl k a[k] (List.getElem?_eq_getElem hkl)
      have hq1 := HE.out.cell hq1
      have hq2 := HE.out.cell hq2
      have hq3' := hq3
      obtain ⟨Aq, nq, cq, rfl, -⟩ := hq3'
      have HQ := Lib.hid (hq3.ext HE.out); clear hq3 hcl
      cases hent : entR u b a[k] with
      | true =>
        have HENT := Lib.hid hent; clear hent
        go_wp2_with (go_at_call 23; refine (refEntails_any _ _ _ u b a[k] _ (HU.out.ext HE.out) (HB.out.ext HE.out) HQ.out (HA.out.pr _ (List.getElem_mem hkl))).mono ?_; rintro e w' ⟨rfl, hE'⟩; rw [HENT.out])
        go_roundw
        case rel => exact ⟨k + 1, by omega, by go_num, HE.out.trans hE', by rw [List.take_succ_eq_append_getElem hkl, List.all_append, HNO.out]; simp [HENT.out]⟩
        case measure => simp [intOf]; omega
      | false =>
        have HENT := Lib.hid hent; clear hent
        go_wp2_with (go_at_call 23; refine (refEntails_any _ _ _ u b a[k] _ (HU.out.ext HE.out) (HB.out.ext HE.out) HQ.out (HA.out.pr _ (List.getElem_mem hkl))).mono ?_; rintro e w' ⟨rfl, hE'⟩; rw [HENT.out])
        go_ret
        refine ⟨ret_bool (Eq.symm ?_), HE.out.trans hE'⟩
        have : (a.all fun r => entR u b r) = false := by rw [List.all_eq_false]; exact ⟨_, List.getElem_mem hkl, by rw [HENT.out]; decide⟩
        unfold eqR; rw [this]; rfl
    · have hall := HNO.out
      rw [List.take_of_length_le (by have := HLA.out; omega)] at hall
      have HALL := Lib.hid hall; clear hall
      go_wp2_with (fail)
      obtain ⟨wo, rfl⟩ : ∃ wo : World, wo = wr := ⟨_, rfl⟩
      go_loopw [8] (fun i wr => ∃ k : Nat, k ≤ nb ∧ i = .int .i64 k ∧ Ext w wr ∧ (b.take k).all (fun r => entR u a r) = true) (fun i _ => nb - (intOf i).toNat)
      case atStart => exact ⟨0, Nat.zero_le _, rfl, HE.out, by simp⟩
      case round =>
        obtain ⟨k2, hk2, rfl, hE2, hno2⟩ := hrel
        have HE2 := Lib.hid hE2; clear hE2
        have HNO2 := Lib.hid hno2; clear hno2
        by_cases hlt2 : k2 < nb
        · obtain ⟨bl, off, rfl, hbl, hcl⟩ := HCB.out (by omega)
          have hkl : k2 < b.length := by rw [HLB.out]; exact hlt2
          obtain ⟨q, hq1, hq2, hq3⟩ := hcl k2 b[k2] (List.getElem?_eq_getElem hkl)
          have hq1 := HE2.out.cell hq1
          have hq2 := HE2.out.cell hq2
          have hq3' := hq3
          obtain ⟨Aq, nq, cq, rfl, -⟩ := hq3'
          have HQ := Lib.hid (hq3.ext HE2.out); clear hq3 hcl
          cases hent : entR u a b[k2] with
          | true =>
            have HENT := Lib.hid hent; clear hent
            go_wp2_with (go_at_call 23; refine (refEntails_any _ _ _ u a b[k2] _ (HU.out.ext HE2.out) (HA.out.ext HE2.out) HQ.out (HB.out.pr _ (List.getElem_mem hkl))).mono ?_; rintro e w' ⟨rfl, hE'⟩; rw [HENT.out])
            go_roundw
            case rel => exact ⟨k2 + 1, by omega, by go_num, HE2.out.trans hE', by rw [List.take_succ_eq_append_getElem hkl, List.all_append, HNO2.out]; simp [HENT.out]⟩
            case measure => simp [intOf]; omega
          | false =>
            have HENT := Lib.hid hent; clear hent
            go_wp2_with (go_at_call 23; refine (refEntails_any _ _ _ u a b[k2] _ (HU.out.ext HE2.out) (HA.out.ext HE2.out) HQ.out (HB.out.pr _ (List.getElem_mem hkl))).mono ?_; rintro e w' ⟨rfl, hE'⟩; rw [HENT.out])
            go_ret
            refine ⟨ret_bool (Eq.symm ?_), HE2.out.trans hE'⟩
            have : (b.all fun r => entR u a r) = false := by rw [List.all_eq_false]; exact ⟨_, List.getElem_mem hkl, by rw [HENT.out]; decide⟩
            unfold eqR; rw [this, Bool.and_false]
        · go_wp2_with (fail)
          go_ret
          have hall := HNO2.out
          rw [List.take_of_length_le (by have := HLB.out; omega)] at hall
          exact ⟨ret_bool (by unfold eqR; rw [HALL.out, hall]; rfl), HE2.out⟩
end Go.Proofs.Ythgplaledmccgaa
