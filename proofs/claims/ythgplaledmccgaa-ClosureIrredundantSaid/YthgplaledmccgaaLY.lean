/-
  The walk of the law ClosureIrredundant: it returns true, whatever comes in.
-/
import Derived.Test.YthgplaledmccgaaLX
namespace Go.Proofs.Ythgplaledmccgaa
open Go.RowKit

set_option maxRecDepth 100000 in
set_option maxHeartbeats 8000000 in
theorem lawIrr_any (vu vs : Value) (u : List Nm) (rs : List RuleN) (w : World) (hu : RdS w vu u) (hum : ∀ x ∈ u, x.length ≤ maxLen) (hr : RdR w vs rs) :
    Calls Try.prog 14 #[vu, vs] w fun e w' => e = .returned (.bool true) ∧ Ext w w' := by
  have HU := Lib.hid hu; clear hu
  have HR := Lib.hid hr
  obtain ⟨A, n, c, rfl, hln, -, hcm, -⟩ := hr
  unfold maxLen at hcm
  have HLN := Lib.hid hln; clear hln
  have HUM := Lib.hid hum; clear hum
  cases hh : heavyB u rs with
  | true =>
    have HH := Lib.hid hh; clear hh
    go_enter Try.func14, Try.ntmps14
    go_wp2_with (first | (go_at_call 15; refine (awake_any _).mono ?_; rintro e w1 ⟨rfl, hE1⟩; have HE1 := Lib.hid hE1; clear hE1) | (go_at_call 16; refine (heavy_any _ _ u rs _ (HU.out.ext HE1.out) (HR.out.ext HE1.out)).mono ?_; rintro e w2 ⟨rfl, rfl⟩; rw [HH.out]))
    go_ret
    exact ⟨rfl, HE1.out⟩
  | false =>
    have HIU := Lib.hid (InU.of HU.out HUM.out hh)
    have HIR := Lib.hid (InR.of HR.out hh)
    have hlen : n ≤ 60 := by have := (heavyB_no hh).2.1; have := HLN.out; omega
    have HH := Lib.hid hh; clear hh
    by_cases h0 : checkE u rs = 0
    · have HEQ := Lib.hid (reduce_eq h0)
      have HX := Lib.hid (Irr.of h0)
      have HPG := Lib.hid (reduceR_pr (u := u) HIR.out.pr)
      have H0 := Lib.hid h0; clear h0
      generalize reduceR u rs = gs at *
      have hgn : gs.length ≤ n := by have := HX.out.len; have := HLN.out; omega
      have HSZ : Hid (rs.length + gs.length ≤ 1000000) := Lib.hid (by have := HLN.out; omega)
      obtain ⟨i0, hi0, hz0, hz1, hz2⟩ := info_parts inf9
      obtain ⟨i3, hi3, hw0, hw1, hw2⟩ := info_parts inf35b
      go_enter Try.func14, Try.ntmps14
      go_wp2_with (first | (go_at_call 15; refine (awake_any _).mono ?_; rintro e w1 ⟨rfl, hE1⟩; have HE1 := Lib.hid hE1; clear hE1) | (go_at_call 16; refine (heavy_any _ _ u rs _ (HU.out.ext HE1.out) (HR.out.ext HE1.out)).mono ?_; rintro e w2 ⟨rfl, rfl⟩; rw [HH.out]) | (go_at_call 26; refine (check_any _ _ u rs _ (HIU.out.ext HE1.out) (HIR.out.ext HE1.out)).mono ?_; rintro e w3 ⟨rfl, hE3⟩; have HE3 := Lib.hid (HE1.out.trans hE3); clear hE3; rw [H0.out]) | (go_at_call 39; refine (reduce_ok _ _ u rs _ (HIU.out.ext HE3.out) (HIR.out.ext HE3.out) H0.out).mono ?_; rintro e w4 ⟨v4, rfl, hr4, hE4⟩; rw [HEQ.out] at hr4; have HR4 := Lib.hid hr4; have HE4 := Lib.hid (HE3.out.trans hE4); clear hE4; obtain ⟨A4, n4, c4, rfl, hl4, -, hc4, -⟩ := hr4; have hn4 : n4 ≤ n := (by omega); have hgt : decide (n < n4) = false := decide_eq_false (by omega); have HL4 := Lib.hid hl4; clear hl4) | (go_at_call 24; refine (equivalent_ok _ _ _ u rs gs _ (HIU.out.ext HE4.out) (HIR.out.ext HE4.out) ⟨HR4.out, by have := HL4.out; omega, HPG.out⟩ HX.out.eqe HSZ.out).mono ?_; rintro e w5 ⟨rfl, hE5⟩; rw [HX.out.eqb]; have HR5 := Lib.hid (HR4.out.ext hE5); have HE5 := Lib.hid (HE4.out.trans hE5); clear hE5))
      unfold maxLen at hc4
      have hn5 : n4 ≤ 60 := by omega
      have HG4 : Hid (InR w5 (.slice A4 n4 c4) gs) := Lib.hid ⟨HR5.out, by have := HL4.out; omega, HPG.out⟩
      have HU5 := Lib.hid (HIU.out.ext HE5.out)
      obtain ⟨qs, hN, hq2, hq3⟩ := rdR_toN HR5.out
      have hql : qs.length = n4 := by have := congrArg List.length hq2; simp at this; have := HL4.out; omega
      have HQL := Lib.hid hql; clear hql
      have HQ2 := Lib.hid hq2; clear hq2
      have HQ3 := Lib.hid hq3; clear hq3
      have HN := Lib.hid hN
      obtain ⟨-, hnc4, -, hcell⟩ := hN.open_
      have HC := Lib.hid hcell; clear hcell hN
      clear HSZ HR4 HEQ HR HUM HH hgn hlen hcm
      go_loopw [9] (fun vi wr => ∃ i : Nat, i ≤ n4 ∧ vi = .int .i64 i ∧ Ext w5 wr) (fun vi _ => n4 - (intOf vi).toNat)
      case atStart => exact ⟨0, Nat.zero_le _, rfl, Ext.refl _⟩
      case round =>
        obtain ⟨i, hi, rfl, hE⟩ := hrel
        have HE := Lib.hid hE; clear hE
        by_cases hlt : i < n4
        · obtain ⟨b2, o2, rfl, hb2, hcc2⟩ := HC.out (by omega)
          have hiq : i < qs.length := by rw [HQL.out]; exact hlt
          have his : i < gs.length := by rw [HL4.out]; exact hlt
          have d0 := hcc2 i _ (List.getElem?_eq_getElem hiq) 0 _ rfl
          have d1 := hcc2 i _ (List.getElem?_eq_getElem hiq) 1 _ rfl
          simp only [Nat.add_zero] at d0
          rw [← Nat.add_assoc] at d1
          have g := HQ3.out i _ _ (List.getElem?_eq_getElem hiq) (List.getElem?_eq_getElem his)
          have h2 : (qs[i]).2 = gs[i].2 := by
            have := congrArg (·[i]?) HQ2.out
            simpa [hiq, his] using this
          rw [h2] at d1
          have d0 := HE.out.cell d0
          have d1 := HE.out.cell d1
          have hb2 := Nat.lt_of_lt_of_le hb2 HE.out.size
          clear hcc2 h2
          have HN2 := Lib.hid (HN.out.ext HE.out)
          have HP1 := Lib.hid (HN2.out.pre (i := i) (by omega))
          have HEM : Hid (OwnN (wr.alloc (.cells #[] 35)) wr.heap.size 35 2 encQS' (.slice (some ⟨wr.heap.size, 0, none⟩) 0 0) []) := Lib.hid (by
            have := World.ownsRow_made (e := 35) (base := wr.heap.size) (size := 2) wr #[] 0 (Nat.le_refl _) (Nat.zero_le _) rfl
            simpa [OwnN] using this)
          have HONE := Lib.hid (one_of (by rw [HQL.out, HL4.out]) HQ3.out)
          have HN1 : Hid (i = ([] : List (Value × Nm)).length + (qs.take i).length) := Lib.hid (by simp; omega)
          have hk3 : (0 : Int) ≤ (i : Int) := by omega
          have hk4 : (0 : Int) ≤ (i : Int) + 1 := by omega
          have hk6 : (i : Int) ≤ (c4 : Int) := by omega
          have hk7 : (i : Int) + 1 ≤ (n4 : Int) := by omega
          have hw1x : IntKind.i64.wrap ((i : Int) + 1) = ((i + 1 : Nat) : Int) := by rw [IntWalk.i64_in _ (by omega)]; omega
          have hk8 : i ≤ c4 := by omega
          have hk9 : i + 1 ≤ n4 := by omega
          have hk10 : i + 1 ≤ c4 := by omega
          have D0 := Lib.hid d0
          have D1 := Lib.hid d1
          clear d0 d1
          have HCE := Lib.hid (HX.out.ce i his)
          have HCB := Lib.hid (HX.out.cb i his)
          have HTE := Lib.hid (HX.out.te _ (List.getElem_mem his))
          have HTB := Lib.hid (HX.out.tb _ (List.getElem_mem his))
          have hpi := HPG.out _ (List.getElem_mem his)
          go_upto_region 12 with (fail)
          go_cut [10] from 58 to 134 (fun v12 wx => ∃ (A3 : Option Addr) (c3 : Nat), v12 = .slice A3 (n4 - 1) c3 ∧ Ext wr wx ∧ RdN wx 2 encQS' v12 (qs.take i ++ qs.drop (i + 1)))
          case first =>
            by_cases hcc : c4 = i + 1
            · subst hcc
              obtain rfl : n4 = i + 1 := by omega
              have HS2 : Hid (RdN wr 2 encQS' (.slice (some ⟨b2, o2, none⟩) 0 0) (qs.drop (i + 1))) := Lib.hid (RdN.none_ (List.drop_of_length_le (by have := HQL.out; omega)) (Nat.zero_le _))
              have hk5 : (i : Int) ≤ (i : Int) + 1 := by omega
              have HNX : Hid (i = ([] ++ qs.take i : List (Value × Nm)).length + (qs.drop (i + 1)).length) := Lib.hid (by have := HQL.out; simp; omega)
              go_region_law (first | (refine step_append_srcN rfl (.tmp 64) (.tmp 67) 23 rfl 35 i3 _ 2 40 Try.underlying23 hi3 hw0 hw1 hw2 rfl (by decide) encQS' (fun _ => rfl) wr ((Ext.refl _).drew.alloc _) (.slice (some ⟨wr.heap.size, 0, none⟩) 0 0) [] rfl (HEM.out.ext ((Ext.refl _).drew)) _ (qs.take i) rfl (HP1.out.ext ((Ext.refl _).drew.alloc _)) (fun y hy => HONE.out y (List.mem_of_mem_take hy)) i HN1.out (by unfold maxLen; omega) (by omega) ?_; intro A1 cap1 w1 hown1 hE1; have HOWN1 := Lib.hid hown1; clear hown1; have HE1 := Lib.hid hE1; clear hE1) | (refine step_append_srcN rfl (.tmp 68) (.tmp 72) 23 rfl 35 i3 _ 2 40 Try.underlying23 hi3 hw0 hw1 hw2 rfl (by decide) encQS' (fun _ => rfl) wr HE1.out (.slice A1 i cap1) ([] ++ qs.take i) rfl HOWN1.out _ (qs.drop (i + 1)) rfl (HS2.out.ext HE1.out) (fun y hy => HONE.out y (List.mem_of_mem_drop hy)) i HNX.out (by unfold maxLen; omega) (by omega) ?_; intro A3 cap3 w3 hown3 hE3; have HOWN3 := Lib.hid hown3; clear hown3; have HE3 := Lib.hid hE3; clear hE3))
              all_goals
                go_wp2_with (fail)
                go_meet
                case rel => exact ⟨_, _, rfl, HE3.out, by have h := HOWN3.out; rw [List.nil_append] at h; exact h.rdN (fun _ => rfl)⟩
            · have hcc2 : i + 1 < c4 := by omega
              have HS2 := Lib.hid (HN2.out.suf (m := i + 1) hk9)
              have hcb : (c4 == i + 1) = false := by simpa using hcc
              have HNX : Hid (i + (n4 - (i + 1)) = ([] ++ qs.take i : List (Value × Nm)).length + (qs.drop (i + 1)).length) := Lib.hid (by have := HQL.out; simp; omega)
              go_region_law (first | (refine step_append_srcN rfl (.tmp 64) (.tmp 67) 23 rfl 35 i3 _ 2 40 Try.underlying23 hi3 hw0 hw1 hw2 rfl (by decide) encQS' (fun _ => rfl) wr ((Ext.refl _).drew.alloc _) (.slice (some ⟨wr.heap.size, 0, none⟩) 0 0) [] rfl (HEM.out.ext ((Ext.refl _).drew)) _ (qs.take i) rfl (HP1.out.ext ((Ext.refl _).drew.alloc _)) (fun y hy => HONE.out y (List.mem_of_mem_take hy)) i HN1.out (by unfold maxLen; omega) (by omega) ?_; intro A1 cap1 w1 hown1 hE1; have HOWN1 := Lib.hid hown1; clear hown1; have HE1 := Lib.hid hE1; clear hE1) | (refine step_append_srcN rfl (.tmp 68) (.tmp 72) 23 rfl 35 i3 _ 2 40 Try.underlying23 hi3 hw0 hw1 hw2 rfl (by decide) encQS' (fun _ => rfl) wr HE1.out (.slice A1 i cap1) ([] ++ qs.take i) rfl HOWN1.out _ (qs.drop (i + 1)) rfl (HS2.out.ext HE1.out) (fun y hy => HONE.out y (List.mem_of_mem_drop hy)) (i + (n4 - (i + 1))) HNX.out (by unfold maxLen; omega) (by omega) ?_; intro A3 cap3 w3 hown3 hE3; have HOWN3 := Lib.hid hown3; clear hown3; have HE3 := Lib.hid hE3; clear hE3))
              all_goals
                go_wp2_with (fail)
                go_meet
                case rel => exact ⟨_, _, (by congr 1; omega), HE3.out, by have h := HOWN3.out; rw [List.nil_append] at h; exact h.rdN (fun _ => rfl)⟩
          case rest =>
            obtain ⟨A3, c3, rfl, hE3, hN3⟩ := hcut
            have hq2n : (qs.take i ++ qs.drop (i + 1)).map (·.2) = (gs.take i ++ gs.drop (i + 1)).map (·.2) := by
              rw [List.map_append, List.map_append, List.map_take, List.map_drop, List.map_take, List.map_drop, HQ2.out]
            have hq3n : ∀ (j : Nat) (q : Value × Nm) (r : RuleN), (qs.take i ++ qs.drop (i + 1))[j]? = some q → (gs.take i ++ gs.drop (i + 1))[j]? = some r → RdS w5 q.1 r.1 := fun j q r h1 h2 =>
              HQ3.out _ q r (mem_erase h1 hiq) (mem_erase h2 his)
            have hpln : ∀ r ∈ gs.take i ++ gs.drop (i + 1), r.1.length ≤ 1048576 := fun r hr => by
              rcases List.mem_append.1 hr with hr | hr
              · exact HPG.out r (List.mem_of_mem_take hr)
              · exact HPG.out r (List.mem_of_mem_drop hr)
            have hlnn : (gs.take i ++ gs.drop (i + 1)).length = n4 - 1 := by simp; have := HL4.out; omega
            have hIR : InR wc (.slice A3 (n4 - 1) c3) (gs.take i ++ gs.drop (i + 1)) := ⟨rdR_ofN hN3 hq2n fun j q r h1 h2 => (hq3n j q r h1 h2).ext (HE.out.trans hE3), by rw [hlnn]; omega, hpln⟩
            have HSN : Hid ((gs.take i ++ gs.drop (i + 1)).length ≤ 1000000) := Lib.hid (by rw [hlnn]; omega)
            have HIRN := Lib.hid hIR; clear hIR hlnn hpln hq2n hq3n hN3
            have d0 := hE3.cell D0.out
            have d1 := hE3.cell D1.out
            have hb3 := Nat.lt_of_lt_of_le hb2 hE3.size
            have HG := Lib.hid (g.ext (HE.out.trans hE3)); clear g
            have HPI := Lib.hid hpi; clear hpi
            have HE3 := Lib.hid (HE.out.trans hE3); clear hE3
            clear HP1 HONE HN1 HEM HN2 D0 D1
            generalize gs[i] = r at *
            generalize hqi : qs[i].1 = qi at *
            clear hqi
            obtain ⟨Aq, nq, cq, rfl, hq⟩ := HG.out
            generalize hss : gs.take i ++ gs.drop (i + 1) = ssn at *
            clear hss
            go_wp2_with (go_at_call 22; refine (entails_ok _ _ _ u ssn r _ (HU5.out.ext HE3.out) HIRN.out HG.out HCE.out HSN.out HPI.out).mono ?_; rintro e w9 ⟨rfl, hE9⟩; rw [HCB.out]; have e0 := hE9.cell d0; have e1 := hE9.cell d1; have hb9 := Nat.lt_of_lt_of_le hb3 hE9.size; have HG9 := Lib.hid (HG.out.ext hE9); have HE9 := Lib.hid (HE3.out.trans hE9); clear hE9)
            obtain ⟨hlq, hnq, hcq, hqc⟩ := HG9.out.open_
            have HLQ := Lib.hid hlq; clear hlq
            have HQC := Lib.hid hqc; clear hqc
            have hnq2 : nq ≤ 1048576 := by have := HPI.out; have := HLQ.out; omega
            unfold maxLen at hcq
            clear hq d0 d1 hb3 HE3 HIRN HCE HCB HSN HE hb2 hiq HG
            go_loopw [13] (fun vk wr => ∃ k : Nat, k ≤ nq ∧ vk = .int .i64 k ∧ Ext w9 wr) (fun vk _ => nq - (intOf vk).toNat)
            case atStart => exact ⟨0, Nat.zero_le _, rfl, Ext.refl _⟩
            case round =>
              obtain ⟨k, hk, rfl, hE⟩ := hrel
              have f0 := hE.cell e0
              have f1 := hE.cell e1
              have bk := Nat.lt_of_lt_of_le hb9 hE.size
              have HR9 := Lib.hid (HG9.out.ext hE)
              have HEK := Lib.hid hE; clear hE
              by_cases hkl : k < nq
              · obtain ⟨bq, oq, rfl, hbq, -⟩ := HQC.out (by omega)
                have hk1 : k < r.1.length := by rw [HLQ.out]; exact hkl
                have HK1 := Lib.hid hk1; clear hk1
                have hbq2 := Nat.lt_of_lt_of_le hbq HEK.out.size
                have hj3 : (0 : Int) ≤ (k : Int) := by omega
                have hj4 : (0 : Int) ≤ (k : Int) + 1 := by omega
                have hj6 : (k : Int) ≤ (cq : Int) := by omega
                have hj7 : (k : Int) + 1 ≤ (nq : Int) := by omega
                have hw2x : IntKind.i64.wrap ((k : Int) + 1) = ((k + 1 : Nat) : Int) := by rw [IntWalk.i64_in _ (by omega)]; omega
                have hj8 : k ≤ cq := by omega
                have hj9 : k + 1 ≤ nq := by omega
                have hj10 : k + 1 ≤ cq := by omega
                have HP2 := Lib.hid (HR9.out.pre (i := k) (by omega))
                have HONE2 : Hid (∀ (ll : List Nm), ∀ y ∈ ll, (encS y).oneCell' = true) := Lib.hid fun _ _ _ => rfl
                have HN5 : Hid (k = ([] : List Nm).length + (r.1.take k).length) := Lib.hid (by simp; have := HLQ.out; omega)
                go_upto_region 19 with (fail)
                go_cut [14] from 89 to 134 (fun v14 wx => ∃ (A3 : Option Addr) (c3 : Nat), v14 = .slice A3 (nq - 1) c3 ∧ Ext wr wx ∧ RdS wx v14 (r.1.take k ++ r.1.drop (k + 1)))
                case first =>
                  by_cases hcc : cq = k + 1
                  · subst hcc
                    obtain rfl : nq = k + 1 := by omega
                    have HS3 : Hid (Rd1 wr encS (.slice (some ⟨bq, oq, none⟩) 0 0) (r.1.drop (k + 1))) := Lib.hid ⟨_, _, _, rfl, by simp; have := HLQ.out; omega, Nat.le_refl _, by unfold maxLen; omega, fun h0 => by omega⟩
                    have hj5 : (k : Int) ≤ (k : Int) + 1 := by omega
                    have HN6 : Hid (k = ([] ++ r.1.take k : List Nm).length + (r.1.drop (k + 1)).length) := Lib.hid (by simp; have := HLQ.out; omega)
                    go_region_law (first | (refine step_append_src rfl (.tmp 99) (.tmp 106) 22 rfl 9 i0 _ 16 Try.underlying22 hi0 hz0 hz1 hz2 rfl encS wr ((Ext.refl _).drew.alloc _) (.slice (some ⟨wr.heap.size, 0, none⟩) 0 0) [] rfl (Own.empty _ _ _ _ (Nat.le_refl _)) _ (r.1.take k) rfl (HP2.out.ext ((Ext.refl _).drew.alloc _)) (HONE2.out _) k HN5.out (by unfold maxLen; omega) (by omega) ?_; intro A1 cap1 w1 hown1 hE1 hg1; clear hg1; have cw1 := hE1.cell f0; have bw1 := Nat.lt_of_lt_of_le bk hE1.size; have HOWN1 := Lib.hid hown1; clear hown1; have HE1 := Lib.hid hE1; clear hE1) | (refine step_append_src rfl (.tmp 107) (.tmp 115) 22 rfl 9 i0 _ 16 Try.underlying22 hi0 hz0 hz1 hz2 rfl encS wr HE1.out (.slice A1 k cap1) ([] ++ r.1.take k) rfl HOWN1.out _ (r.1.drop (k + 1)) rfl (HS3.out.ext HE1.out) (HONE2.out _) k HN6.out (by unfold maxLen; omega) (by omega) ?_; intro A2 cap2 w2 hown2 hE2 hg2; clear hg2; have cw2 := hE2.cell f0; have bw2 := Nat.lt_of_lt_of_le bk hE2.size; have HOWN2 := Lib.hid hown2; clear hown2; have HE2 := Lib.hid hE2; clear hE2))
                    all_goals
                      go_wp2_with (fail)
                      go_meet
                      case rel => exact ⟨_, _, rfl, HE2.out, by have h := HOWN2.out.rd; rw [List.nil_append] at h; exact h⟩
                  · have hcc2 : k + 1 < cq := by omega
                    have HS3 := Lib.hid (HR9.out.suf (k := k + 1) hj9)
                    have hcb : (cq == k + 1) = false := by simpa using hcc
                    have HN6 : Hid (k + (nq - (k + 1)) = ([] ++ r.1.take k : List Nm).length + (r.1.drop (k + 1)).length) := Lib.hid (by simp; have := HLQ.out; omega)
                    go_region_law (first | (refine step_append_src rfl (.tmp 99) (.tmp 106) 22 rfl 9 i0 _ 16 Try.underlying22 hi0 hz0 hz1 hz2 rfl encS wr ((Ext.refl _).drew.alloc _) (.slice (some ⟨wr.heap.size, 0, none⟩) 0 0) [] rfl (Own.empty _ _ _ _ (Nat.le_refl _)) _ (r.1.take k) rfl (HP2.out.ext ((Ext.refl _).drew.alloc _)) (HONE2.out _) k HN5.out (by unfold maxLen; omega) (by omega) ?_; intro A1 cap1 w1 hown1 hE1 hg1; clear hg1; have cw1 := hE1.cell f0; have bw1 := Nat.lt_of_lt_of_le bk hE1.size; have HOWN1 := Lib.hid hown1; clear hown1; have HE1 := Lib.hid hE1; clear hE1) | (refine step_append_src rfl (.tmp 107) (.tmp 115) 22 rfl 9 i0 _ 16 Try.underlying22 hi0 hz0 hz1 hz2 rfl encS wr HE1.out (.slice A1 k cap1) ([] ++ r.1.take k) rfl HOWN1.out _ (r.1.drop (k + 1)) rfl (HS3.out.ext HE1.out) (HONE2.out _) (k + (nq - (k + 1))) HN6.out (by unfold maxLen; omega) (by omega) ?_; intro A2 cap2 w2 hown2 hE2 hg2; clear hg2; have cw2 := hE2.cell f0; have bw2 := Nat.lt_of_lt_of_le bk hE2.size; have HOWN2 := Lib.hid hown2; clear hown2; have HE2 := Lib.hid hE2; clear hE2))
                    all_goals
                      go_wp2_with (fail)
                      go_meet
                      case rel => exact ⟨_, _, (by congr 1; omega), HE2.out, by have h := HOWN2.out.rd; rw [List.nil_append] at h; exact h⟩
                case rest =>
                  obtain ⟨A6, c6, rfl, hE6, hR6⟩ := hcut
                  have g0 := hE6.cell f0
                  have g1 := hE6.cell f1
                  have bg := Nat.lt_of_lt_of_le bk hE6.size
                  have HR6 := Lib.hid hR6; clear hR6
                  have HE6 := Lib.hid (HEK.out.trans hE6); clear hE6
                  have HPL : Hid ((r.1.take k ++ r.1.drop (k + 1)).length ≤ 1048576) := Lib.hid (by simp; have := HLQ.out; omega)
                  have HGS : Hid (gs.length ≤ 1000000) := Lib.hid (by have := HL4.out; omega)
                  have HT1 := Lib.hid (HTE.out k HK1.out)
                  have HT2 := Lib.hid (HTB.out k HK1.out)
                  go_wp2_with (go_at_call 22; refine (entails_ok _ _ _ u gs (r.1.take k ++ r.1.drop (k + 1), r.2) _ (HU5.out.ext (HE9.out.trans HE6.out)) (HG4.out.ext (HE9.out.trans HE6.out)) HR6.out HT1.out HGS.out HPL.out).mono ?_; rintro e w10 ⟨rfl, hE10⟩; rw [HT2.out]; have HE10 := Lib.hid (HE6.out.trans hE10); clear hE10)
                  go_roundw
                  case rel => exact ⟨k + 1, by omega, by go_num, HE10.out⟩
                  case measure => simp [intOf]; omega
              · obtain rfl : nq = k := by omega
                go_wp2_with (fail)
                go_roundw
                case rel => exact ⟨i + 1, by omega, by go_num, HE9.out.trans HEK.out⟩
                case measure => simp [intOf]; omega
        · obtain rfl : n4 = i := by omega
          go_wp2_with (fail)
          go_ret
          exact ⟨rfl, HE5.out.trans HE.out⟩
    · have hzb : (checkE u rs != 0) = true := by simpa using h0
      have H0 := Lib.hid h0; clear h0
      go_enter Try.func14, Try.ntmps14
      go_wp2_with (first | (go_at_call 15; refine (awake_any _).mono ?_; rintro e w1 ⟨rfl, hE1⟩; have HE1 := Lib.hid hE1; clear hE1) | (go_at_call 16; refine (heavy_any _ _ u rs _ (HU.out.ext HE1.out) (HR.out.ext HE1.out)).mono ?_; rintro e w2 ⟨rfl, rfl⟩; rw [HH.out]) | (go_at_call 26; refine (check_any _ _ u rs _ (HIU.out.ext HE1.out) (HIR.out.ext HE1.out)).mono ?_; rintro e w3 ⟨rfl, hE3⟩; have HE3 := Lib.hid (HE1.out.trans hE3); clear hE3))
      go_ret
      exact ⟨rfl, HE3.out⟩
end Go.Proofs.Ythgplaledmccgaa
