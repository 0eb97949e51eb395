/-
  Contracts: the law heavy; the reference Set, Rule, Check.
-/
import Derived.Test.YthgplaledmccgaaW13
namespace Go.Proofs.Ythgplaledmccgaa
open Go.RowKit

def heavyB (u : List Nm) (rs : List RuleN) : Bool := decide (40 < u.length) || decide (60 < rs.length) || rs.any fun r => decide (41 < r.1.length)

set_option maxRecDepth 100000 in
set_option maxHeartbeats 800000 in
theorem heavy_any (vu vs : Value) (u : List Nm) (rs : List RuleN) (w : World) (hu : RdS w vu u) (hr : RdR w vs rs) :
    Calls Try.prog 16 #[vu, vs] w fun e w' => e = .returned (.bool (heavyB u rs)) ∧ w = w' := by
  obtain ⟨Au, nu, cu, rfl, hlu, hncu, hcmu, -⟩ := hu
  obtain ⟨A, n, c, rfl, hl, hnc, hcm, hcell⟩ := hr
  unfold maxLen at hcm hcmu
  have HLU := Lib.hid hlu; clear hlu
  have HL := Lib.hid hl; clear hl
  have HC := Lib.hid hcell; clear hcell
  by_cases h1 : 40 < nu
  · go_enter Try.func16, Try.ntmps16
    go_wp2_with (fail)
    go_ret
    exact ⟨ret_bool (by unfold heavyB; rw [HLU.out, decide_eq_true h1]; rfl), rfl⟩
  · by_cases h2 : 60 < n
    · go_enter Try.func16, Try.ntmps16
      go_wp2_with (fail)
      go_ret
      exact ⟨ret_bool (by unfold heavyB; rw [HL.out, decide_eq_true h2]; simp), rfl⟩
    · go_enter Try.func16, Try.ntmps16
      go_wp2_with (fail)
      go_loop [5] (fun i => ∃ k : Nat, k ≤ n ∧ i = .int .i64 k ∧ (rs.take k).any (fun r => decide (41 < r.1.length)) = false) (fun i => n - (intOf i).toNat)
      case atStart => exact ⟨0, Nat.zero_le _, rfl, by simp⟩
      case round =>
        obtain ⟨k, hk, rfl, hno⟩ := hrel
        have HNO := Lib.hid hno; clear hno
        by_cases hlt : k < n
        · obtain ⟨bl, off, rfl, hbl, hcl⟩ := HC.out (by omega)
          have hkl : k < rs.length := by rw [HL.out]; exact hlt
          obtain ⟨q, hq1, hq2, hq3⟩ := hcl k rs[k] (List.getElem?_eq_getElem hkl)
          clear hcl
          obtain ⟨Aq, nq, cq, rfl, hlq, -, hcq, -⟩ := hq3
          have HLQ := Lib.hid hlq; clear hlq
          by_cases hb : 41 < nq
          · go_wp2_with (fail)
            go_ret
            refine ⟨ret_bool ?_, rfl⟩
            have : (rs.any fun r => decide (41 < r.1.length)) = true := List.any_eq_true.2 ⟨_, List.getElem_mem hkl, by rw [HLQ.out]; exact decide_eq_true hb⟩
            unfold heavyB
            rw [this, Bool.or_true]
          · go_wp2_with (fail)
            go_round
            case rel => exact ⟨k + 1, by omega, by go_num, by rw [List.take_succ_eq_append_getElem hkl, List.any_append, HNO.out]; simp [HLQ.out]; omega⟩
            case measure => simp [intOf]; omega
        · go_wp2_with (fail)
          go_ret
          refine ⟨ret_bool ?_, rfl⟩
          have hno := HNO.out
          rw [List.take_of_length_le (by have := HL.out; omega)] at hno
          unfold heavyB
          rw [hno, HLU.out, HL.out, decide_eq_false h1, decide_eq_false h2]
          rfl

set_option maxRecDepth 100000 in
set_option maxHeartbeats 400000 in
theorem refSet_any (vu vl : Value) (u l : List Nm) (w : World) (hu : RdS w vu u) (hl : RdS w vl l) :
    Calls Try.prog 27 #[vu, vl] w fun e w' => e = .returned (.int .i64 (setE u l)) ∧ ∃ n, w' = w.drewN n := by
  have HU := Lib.hid hu; clear hu
  have HL := Lib.hid hl; clear hl
  rcases setE_cases u l with ⟨h0, h1, h2⟩ | ⟨h0, h1⟩ | ⟨h0, h1, h2⟩
  · have H0 := Lib.hid h0; clear h0
    have H1 := Lib.hid h1; clear h1
    have H2 := Lib.hid h2; clear h2
    go_enter Try.func27, Try.ntmps27
    go_wp2_with (first | (go_at_call 43; refine (ascending_any _ l _ HL.out).mono ?_; rintro e w' ⟨rfl, m, rfl⟩; rw [H1.out]) | (go_at_call 32; refine (subset_any _ _ l u _ (HL.out.ext ((Ext.refl _).drewN _)) (HU.out.ext ((Ext.refl _).drewN _))).mono ?_; rintro e w' ⟨rfl, rfl⟩; rw [decide_eq_true H2.out]))
    go_ret
    exact ⟨by rw [H0.out]; rfl, _, rfl⟩
  · have H0 := Lib.hid h0; clear h0
    have H1 := Lib.hid h1; clear h1
    go_enter Try.func27, Try.ntmps27
    go_wp2_with (first | (go_at_call 43; refine (ascending_any _ l _ HL.out).mono ?_; rintro e w' ⟨rfl, m, rfl⟩; rw [H1.out]))
    go_ret
    exact ⟨by rw [H0.out]; rfl, _, rfl⟩
  · have H0 := Lib.hid h0; clear h0
    have H1 := Lib.hid h1; clear h1
    have H2 := Lib.hid h2; clear h2
    go_enter Try.func27, Try.ntmps27
    go_wp2_with (first | (go_at_call 43; refine (ascending_any _ l _ HL.out).mono ?_; rintro e w' ⟨rfl, m, rfl⟩; rw [H1.out]) | (go_at_call 32; refine (subset_any _ _ l u _ (HL.out.ext ((Ext.refl _).drewN _)) (HU.out.ext ((Ext.refl _).drewN _))).mono ?_; rintro e w' ⟨rfl, rfl⟩; rw [decide_eq_false H2.out]))
    go_ret
    exact ⟨by rw [H0.out]; rfl, _, rfl⟩

theorem ruleE_set (u : List Nm) (r : RuleN) : ruleE u r = if setE u r.1 = 0 then (if r.2 ∈ u then 0 else 3) else setE u r.1 := by
  unfold ruleE
  rcases setE_cases u r.1 with ⟨h0, h1, h2⟩ | ⟨h0, h1⟩ | ⟨h0, h1, h2⟩
  · rw [if_neg (by rw [h1]; decide), if_pos h0]
    by_cases h : r.2 ∈ u
    · rw [if_pos ⟨h2, h⟩, if_pos h]
    · rw [if_neg (fun x => h x.2), if_neg h]
  · rw [if_pos h1, if_neg (by rw [h0]; decide), h0]
  · rw [if_neg (by rw [h1]; decide), if_neg (fun x => h2 x.1), if_neg (by rw [h0]; decide), h0]

set_option maxRecDepth 100000 in
set_option maxHeartbeats 400000 in
theorem refRule_any (vu vf : Value) (u : List Nm) (r : RuleN) (w : World) (hu : RdS w vu u) (hl : RdS w vf r.1) :
    Calls Try.prog 21 #[vu, .agg #[vf, encS r.2]] w fun e w' => e = .returned (.int .i64 (ruleE u r)) ∧ Ext w w' := by
  have HU := Lib.hid hu; clear hu
  have HL := Lib.hid hl
  obtain ⟨A, n, c, rfl, -⟩ := hl
  have hre := ruleE_set u r
  by_cases h0 : setE u r.1 = 0
  · rw [if_pos h0] at hre
    have H0 := Lib.hid h0; clear h0
    by_cases hm : r.2 ∈ u
    · rw [if_pos hm] at hre
      have HRE := Lib.hid hre; clear hre
      have HM := Lib.hid hm; clear hm
      go_enter Try.func21, Try.ntmps21
      go_wp2_with (first | (go_at_call 27; refine (refSet_any _ _ u r.1 _ (HU.out.ext ((Ext.refl _).alloc _)) (HL.out.ext ((Ext.refl _).alloc _))).mono ?_; rintro e w' ⟨rfl, m, rfl⟩; rw [H0.out]) | (go_at_call 33; refine (has_any _ u _ _ (HU.out.ext (((Ext.refl _).alloc _).drewN _))).mono ?_; rintro e w' ⟨rfl, rfl⟩; rw [decide_eq_true HM.out]))
      go_ret
      exact ⟨by rw [HRE.out]; rfl, ((Ext.refl _).alloc _).drewN _⟩
    · rw [if_neg hm] at hre
      have HRE := Lib.hid hre; clear hre
      have HM := Lib.hid hm; clear hm
      go_enter Try.func21, Try.ntmps21
      go_wp2_with (first | (go_at_call 27; refine (refSet_any _ _ u r.1 _ (HU.out.ext ((Ext.refl _).alloc _)) (HL.out.ext ((Ext.refl _).alloc _))).mono ?_; rintro e w' ⟨rfl, m, rfl⟩; rw [H0.out]) | (go_at_call 33; refine (has_any _ u _ _ (HU.out.ext (((Ext.refl _).alloc _).drewN _))).mono ?_; rintro e w' ⟨rfl, rfl⟩; rw [decide_eq_false HM.out]))
      go_ret
      exact ⟨by rw [HRE.out]; rfl, ((Ext.refl _).alloc _).drewN _⟩
  · rw [if_neg h0] at hre
    have hzb : (setE u r.1 == 0) = false := by simpa using h0
    have H0 := Lib.hid h0; clear h0
    have HRE := Lib.hid hre; clear hre
    go_enter Try.func21, Try.ntmps21
    go_wp2_with (first | (go_at_call 27; refine (refSet_any _ _ u r.1 _ (HU.out.ext ((Ext.refl _).alloc _)) (HL.out.ext ((Ext.refl _).alloc _))).mono ?_; rintro e w' ⟨rfl, m, rfl⟩))
    go_ret
    exact ⟨by rw [HRE.out]; rfl, ((Ext.refl _).alloc _).drewN _⟩

set_option maxRecDepth 100000 in
set_option maxHeartbeats 1600000 in
theorem refCheck_any (vu vs : Value) (u : List Nm) (rs : List RuleN) (w : World) (hu : RdS w vu u) (hum : ∀ x ∈ u, x.length ≤ maxLen) (hr : RdR w vs rs) :
    Calls Try.prog 17 #[vu, vs] w fun e w' => e = .returned (.int .i64 (checkE u rs)) ∧ Ext w w' := by
  have HU := Lib.hid hu
  obtain ⟨A, n, c, rfl, hl, hnc, hcm, hcell⟩ := hu
  unfold maxLen at hcm
  have HUM := Lib.hid hum; clear hum
  have HL := Lib.hid hl; clear hl
  have HC := Lib.hid hcell; clear hcell
  obtain ⟨Ar, nr, cr, rfl, hlr, hncr, hcmr, hcellr⟩ := hr
  unfold maxLen at hcmr
  have HLR := Lib.hid hlr; clear hlr
  have HCR := Lib.hid hcellr; clear hcellr
  go_enter Try.func17, Try.ntmps17
  go_wp2_with (fail)
  go_loop [5] (fun i => ∃ k : Nat, k ≤ n ∧ i = .int .i64 k ∧ (u.take k).all okName = true) (fun i => n - (intOf i).toNat)
  case atStart => exact ⟨0, Nat.zero_le _, rfl, by simp⟩
  case round =>
    obtain ⟨k, hk, rfl, hno⟩ := hrel
    have HNO := Lib.hid hno; clear hno
    by_cases hlt : k < n
    · obtain ⟨bl, off, rfl, hbl, hcl⟩ := HC.out (by omega)
      have hkl : k < u.length := by rw [HL.out]; exact hlt
      have hc1 := hcl k u[k] (List.getElem?_eq_getElem hkl)
      clear hcl
      cases hok : okName u[k] with
      | true =>
        have HOK := Lib.hid hok; clear hok
        go_wp2_with (go_at_call 42; refine (refName_any _ _ (HUM.out _ (List.getElem_mem hkl))).mono ?_; rintro e w' ⟨rfl, rfl⟩; rw [HOK.out])
        go_round
        case rel => exact ⟨k + 1, by omega, by go_num, by rw [List.take_succ_eq_append_getElem hkl, List.all_append, HNO.out]; simp [HOK.out]⟩
        case measure => simp [intOf]; omega
      | false =>
        have HOK := Lib.hid hok; clear hok
        go_wp2_with (go_at_call 42; refine (refName_any _ _ (HUM.out _ (List.getElem_mem hkl))).mono ?_; rintro e w' ⟨rfl, rfl⟩; rw [HOK.out])
        go_ret
        have hall : u.all okName = false := by rw [List.all_eq_false]; exact ⟨_, List.getElem_mem hkl, by rw [HOK.out]; decide⟩
        have he : checkE u rs = 3 := by unfold checkE; rw [if_pos hall]
        exact ⟨by rw [he]; rfl, Ext.refl _⟩
    · have hall := HNO.out
      rw [List.take_of_length_le (by have := HL.out; omega)] at hall
      have HALL := Lib.hid hall; clear hall
      cases has : ascB u with
      | false =>
        have HAS := Lib.hid has; clear has
        go_wp2_with (go_at_call 43; refine (ascending_any _ u _ HU.out).mono ?_; rintro e w' ⟨rfl, m, rfl⟩; rw [HAS.out])
        go_ret
        have he : checkE u rs = 1 := by unfold checkE; rw [if_neg (by rw [HALL.out]; decide), if_pos HAS.out]
        exact ⟨by rw [he]; rfl, (Ext.refl _).drewN _⟩
      | true =>
        have HAS := Lib.hid has; clear has
        have he : checkE u rs = rulesE u rs := by unfold checkE; rw [if_neg (by rw [HALL.out]; decide), if_neg (by rw [HAS.out]; decide)]
        have HE := Lib.hid he; clear he
        go_wp2_with (go_at_call 43; refine (ascending_any _ u _ HU.out).mono ?_; rintro e w' ⟨rfl, m, rfl⟩; rw [HAS.out])
        go_loopw [6] (fun i wr => ∃ k : Nat, k ≤ nr ∧ i = .int .i64 k ∧ Ext w wr ∧ ∀ r ∈ rs.take k, okRule u r) (fun i _ => nr - (intOf i).toNat)
        case atStart => exact ⟨0, Nat.zero_le _, rfl, (Ext.refl _).drewN _, by simp⟩
        case round =>
          obtain ⟨k2, hk2, rfl, hE2, hok2⟩ := hrel
          have HE2 := Lib.hid hE2; clear hE2
          have HOK2 := Lib.hid hok2; clear hok2
          by_cases hlt2 : k2 < nr
          · obtain ⟨bl, off, rfl, hbl, hcl⟩ := HCR.out (by omega)
            have hkl : k2 < rs.length := by rw [HLR.out]; exact hlt2
            obtain ⟨q, hq1, hq2, hq3⟩ := hcl k2 rs[k2] (List.getElem?_eq_getElem hkl)
            have hq1 := HE2.out.cell hq1
            have hq2 := HE2.out.cell hq2
            have hspl : rs = rs.take k2 ++ (rs[k2] :: rs.drop (k2 + 1)) := by rw [← List.drop_eq_getElem_cons hkl, List.take_append_drop]
            have hru : rulesE u rs = rulesE u (rs[k2] :: rs.drop (k2 + 1)) := by
              conv => lhs; rw [hspl]
              exact rulesE_skip HOK2.out
            have HRU := Lib.hid hru; clear hru hspl hcl
            have hq3' := hq3
            obtain ⟨Aq, nq, cq, rfl, -⟩ := hq3'
            have HQ := Lib.hid hq3; clear hq3
            by_cases hr0 : ruleE u rs[k2] = 0
            · have HR0 := Lib.hid hr0; clear hr0
              go_wp2_with (go_at_call 21; refine (refRule_any _ _ u rs[k2] _ (HU.out.ext HE2.out) (HQ.out.ext HE2.out)).mono ?_; rintro e w' ⟨rfl, hE'⟩; rw [HR0.out])
              go_roundw
              case rel =>
                refine ⟨k2 + 1, by omega, by go_num, HE2.out.trans hE', fun r hr => ?_⟩
                rw [List.take_succ_eq_append_getElem hkl, List.mem_append] at hr
                rcases hr with hr | hr
                · exact HOK2.out r hr
                · rw [List.mem_singleton] at hr
                  rw [hr]
                  exact ruleE_ok.1 HR0.out
              case measure => simp [intOf]; omega
            · have hzb : (ruleE u rs[k2] != 0) = true := by simpa using hr0
              have HR0 := Lib.hid hr0; clear hr0
              go_wp2_with (go_at_call 21; refine (refRule_any _ _ u rs[k2] _ (HU.out.ext HE2.out) (HQ.out.ext HE2.out)).mono ?_; rintro e w' ⟨rfl, hE'⟩)
              go_ret
              have he2 := rulesE_head (rs := rs.drop (k2 + 1)) (u := u) (r := rs[k2]) rfl HR0.out
              exact ⟨by rw [HE.out, HRU.out, he2]; rfl, HE2.out.trans hE'⟩
          · go_wp2_with (fail)
            go_ret
            have hok := HOK2.out
            rw [List.take_of_length_le (by have := HLR.out; omega)] at hok
            exact ⟨by rw [HE.out, rulesE_ok.2 hok]; rfl, HE2.out⟩
end Go.Proofs.Ythgplaledmccgaa
