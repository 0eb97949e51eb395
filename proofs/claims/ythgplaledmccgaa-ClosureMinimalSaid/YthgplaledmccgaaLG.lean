/-
  The walk of the law ClosureMinimal: it returns true, whatever comes in.
-/
import Derived.Test.YthgplaledmccgaaW27
import Derived.Test.YthgplaledmccgaaW28
import Derived.Test.YthgplaledmccgaaLA
import Derived.Test.YthgplaledmccgaaSpec19
import Derived.Test.YthgplaledmccgaaSpec11
namespace Go.Proofs.Ythgplaledmccgaa
open Go.RowKit

theorem inf35 : (Try.prog.info? 35).map (fun i => (i.zero, i.size, i.bytes)) = some (some (.agg #[.slice none 0 0, .string ⟨#[]⟩]), 2, 40) := by kernel_rfl
abbrev encQS (p : Value × Nm) : List Value := [p.1, encS p.2]
/-- rules of a row of the call's own, whose premises can be read -/
theorem inR_of {w : World} {base : Nat} {v : Value} {rs : List RuleN} {qs : List (Value × Nm)} (h : OwnN w base 35 2 encQS v qs) (hn : qs.map (·.2) = rs.map (·.2))
    (hq : ∀ (j : Nat) (p : Value × Nm) (r : RuleN), qs[j]? = some p → rs[j]? = some r → RdS w p.1 r.1) (hsz : rs.length ≤ 1048576) (hpr : ∀ r ∈ rs, r.1.length ≤ 1048576) : InR w v rs := by
  obtain ⟨A, m, c, hv, hm, hmc, hcm, hcell⟩ := h.rd (fun _ => rfl)
  have hlen : qs.length = rs.length := by have := congrArg List.length hn; simpa using this
  refine ⟨⟨A, m, c, hv, by omega, hmc, hcm, fun h0 => ?_⟩, hsz, hpr⟩
  obtain ⟨b, hA, hb, hc⟩ := hcell h0
  refine ⟨b, 0, hA, hb, fun j r hr => ?_⟩
  have hj : j < qs.length := by rw [hlen]; exact (List.getElem?_eq_some_iff.1 hr).1
  have hqj := List.getElem?_eq_getElem hj
  have h2 : (qs[j]).2 = r.2 := by
    have := congrArg (·[j]?) hn
    simp only [List.getElem?_map, hqj, hr, Option.map_some, Option.some.injEq] at this
    exact this
  refine ⟨qs[j].1, by simpa using hc j _ hqj 0 _ rfl, ?_, hq j _ r hqj hr⟩
  have := hc j _ hqj 1 _ rfl
  rw [h2] at this
  simpa using this
theorem has_quiet (v : Value) (l : List Nm) (name : Nm) (w : World) (n : Nat) (r : Bool) (h : RdS w v l) (hr : decide (name ∈ l) = r) :
    Calls Try.prog 33 #[v, encS name] (w.drewN n) fun e w' => e = .returned (.bool r) ∧ ∃ m, w' = w.drewN m := by
  rw [← hr]
  exact (has_any v l name _ (h.ext ((Ext.refl _).drewN _))).mono fun e w' ⟨h1, h2⟩ => ⟨h1, n, h2.symm⟩
theorem premF_snoc (b : List RuleN) (i : Nat) (hi : i < b.length) : premF [] (b.take (i + 1)) = if b[i].2 ∈ b[i].1 ∨ b[i].1 ∈ premF [] (b.take i) then premF [] (b.take i) else premF [] (b.take i) ++ [b[i].1] := by
  unfold premF
  rw [List.take_succ_eq_append_getElem hi, List.foldl_append]
  rfl
theorem premF_len (b : List RuleN) (ps : List NmL) : (premF ps b).length ≤ ps.length + b.length := by
  induction b generalizing ps with
  | nil => simp [premF]
  | cons r b ih =>
    have e : premF ps (r :: b) = premF (if r.2 ∈ r.1 ∨ r.1 ∈ ps then ps else ps ++ [r.1]) b := rfl
    rw [e]
    refine Nat.le_trans (ih _) ?_
    split <;> simp <;> omega

set_option maxRecDepth 100000 in
set_option maxHeartbeats 8000000 in
theorem lawMinimal_any (vu va vb : Value) (u : List Nm) (a b : List RuleN) (w : World) (hu : RdS w vu u) (hum : ∀ x ∈ u, x.length ≤ maxLen) (hra : RdR w va a) (hrb : RdR w vb b) :
    Calls Try.prog 13 #[vu, va, vb] w fun e w' => e = .returned (.bool true) ∧ Ext w w' := by
  have HU := Lib.hid hu
  have HA := Lib.hid hra; clear hra
  have HB := Lib.hid hrb
  have HUM := Lib.hid hum; clear hum
  obtain ⟨A, n, c, rfl, hln, -, hcm, -⟩ := hu
  obtain ⟨Ab, nb, cb, rfl, hlb, hnbc, hcmb, hcellb⟩ := hrb
  unfold maxLen at hcm hcmb
  have HLN := Lib.hid hln; clear hln
  have HLB := Lib.hid hlb; clear hlb
  have HCB := Lib.hid hcellb; clear hcellb
  have TK1 : True := trivial
  have TK2 : True := trivial
  have TK3 : True := trivial
  have TK4 : True := trivial
  by_cases h8 : 8 < n
  · go_enter Try.func13, Try.ntmps13
    go_wp2_with (first | (go_at_call 15; refine (awake_any _).mono ?_; rintro e w1 ⟨rfl, hE1⟩; have HE1 := Lib.hid hE1; clear hE1))
    go_ret
    exact ⟨rfl, HE1.out⟩
  cases hha : heavyB u a with
  | true =>
    have HHA := Lib.hid hha; clear hha
    go_enter Try.func13, Try.ntmps13
    go_wp2_with (first | (go_at_call 15; refine (awake_any _).mono ?_; rintro e w1 ⟨rfl, hE1⟩; have HE1 := Lib.hid hE1; clear hE1) | (go_at_call 16; clear TK1; refine (heavy_any _ _ u a _ (HU.out.ext HE1.out) (HA.out.ext HE1.out)).mono ?_; rintro e w2 ⟨rfl, rfl⟩; rw [HHA.out]))
    go_ret
    exact ⟨rfl, HE1.out⟩
  | false =>
    have HHA := Lib.hid hha
    cases hhb : heavyB u b with
    | true =>
      have HHB := Lib.hid hhb; clear hhb hha
      go_enter Try.func13, Try.ntmps13
      go_wp2_with (first | (go_at_call 15; refine (awake_any _).mono ?_; rintro e w1 ⟨rfl, hE1⟩; have HE1 := Lib.hid hE1; clear hE1) | (go_at_call 16; clear TK1; refine (heavy_any _ _ u a _ (HU.out.ext HE1.out) (HA.out.ext HE1.out)).mono ?_; rintro e w2 ⟨rfl, rfl⟩; rw [HHA.out]) | (go_at_call 16; clear TK2; refine (heavy_any _ _ u b _ (HU.out.ext HE1.out) (HB.out.ext HE1.out)).mono ?_; rintro e w2 ⟨rfl, rfl⟩; rw [HHB.out]))
      go_ret
      exact ⟨rfl, HE1.out⟩
    | false =>
      have HHB := Lib.hid hhb
      have HIU := Lib.hid (InU.of HU.out HUM.out hha)
      have HIA := Lib.hid (InR.of HA.out hha)
      have HIB := Lib.hid (InR.of HB.out hhb)
      have hna := (heavyB_no hha).2.1
      have hnb0 := (heavyB_no hhb).2.1
      have hnb : nb ≤ 60 := by have := HLB.out; omega
      have HSA : Hid (a.length ≤ 60) := Lib.hid hna
      have HSZ : Hid (a.length + b.length ≤ 1000000) := Lib.hid (by omega)
      clear hha hhb hna hnb0
      by_cases h0 : checkE u a = 0
      · have H0 := Lib.hid h0
        by_cases h1 : checkE u b = 0
        · have H1 := Lib.hid h1
          have hn8 : u.length ≤ 8 := by rw [HLN.out]; omega
          have HN8 := Lib.hid hn8
          have HST := Lib.hid (stem_eq h0)
          have HSM := Lib.hid (stemR_small h0)
          have hsn : (subsetsN u).length ≤ 256 := by
            rw [subsetsN_len]
            exact Nat.le_trans (Nat.pow_le_pow_right (n := 2) (j := 8) (by decide) hn8) (by decide)
          have HLS : Hid ((stemR u a).length ≤ 256) := Lib.hid (by unfold stemR; rw [List.length_map]; exact Nat.le_trans (List.length_filter_le _ _) hsn)
          have HC256 : Hid ((stemC u a : Nat) ≤ 256) := Lib.hid (Nat.le_trans (stemB_le _ _).1 (Nat.le_trans (Nat.pow_le_pow_right (n := 2) (j := 8) (by decide) hn8) (by decide)))
          have HBR := Lib.hid (basisR_rules h0)
          have HBE := Lib.hid (basis_eq h0)
          have HLEAST : Hid (eqR u a b = true → (stemR u a).length ≤ (premF [] b).length) := Lib.hid fun h => stem_least h0 h1 h
          have HRB : Hid (rulesE u b = 0) := Lib.hid (by rw [← checkE_other' h0]; exact h1)
          clear h0 h1 hsn hn8
          go_enter Try.func13, Try.ntmps13
          go_wp2_with (first | (go_at_call 15; refine (awake_any _).mono ?_; rintro e w1 ⟨rfl, hE1⟩; have HE1 := Lib.hid hE1; clear hE1) | (go_at_call 16; clear TK1; refine (heavy_any _ _ u a _ (HU.out.ext HE1.out) (HA.out.ext HE1.out)).mono ?_; rintro e w2 ⟨rfl, rfl⟩; rw [HHA.out]) | (go_at_call 16; clear TK2; refine (heavy_any _ _ u b _ (HU.out.ext HE1.out) (HB.out.ext HE1.out)).mono ?_; rintro e w2 ⟨rfl, rfl⟩; rw [HHB.out]) | (go_at_call 17; clear TK3; refine (refCheck_any _ _ u a _ (HU.out.ext HE1.out) HUM.out (HA.out.ext HE1.out)).mono ?_; rintro e w3 ⟨rfl, hE3⟩; have HE3 := Lib.hid (HE1.out.trans hE3); clear hE3; rw [H0.out]) | (go_at_call 17; clear TK4; refine (refCheck_any _ _ u b _ (HU.out.ext HE3.out) HUM.out (HB.out.ext HE3.out)).mono ?_; rintro e w4 ⟨rfl, hE4⟩; have HE4 := Lib.hid (HE3.out.trans hE4); clear hE4; rw [H1.out]))
          refine (stem_any _ _ u a 512 _ (HIU.out.ext HE4.out) (HIA.out.ext HE4.out) H0.out (by decide) HN8.out).mono ?_
          rintro e w5 (⟨hlt, rfl, hE5⟩ | ⟨-, v5, rfl, hs5, hE5⟩)
          · exfalso
            have := HC256.out
            omega
          unfold stemN at hs5
          rw [show (nm2 u) = (fun f : PairB => (namesOf u f.1, namesOf u f.2)) from rfl, HST.out] at hs5
          have HE5 := Lib.hid (HE4.out.trans hE5); clear hE5
          obtain ⟨qs, ⟨A5, m, c5, rfl, hm, hmc, hcm5, hcell5⟩, hq2, hq3⟩ := hs5.rd
          clear hs5
          have hm' : m = (stemR u a).length := by rw [← hm, hq2]
          have hm256 : m ≤ 256 := by have := HLS.out; omega
          unfold maxLen at hcm5
          have HM := Lib.hid hm'; clear hm'
          have HQ2 := Lib.hid hq2; clear hq2 hm
          have HQ3 := Lib.hid hq3; clear hq3
          have HC5 := Lib.hid hcell5; clear hcell5
          have hbas : basisR u a = (stemR u a).flatMap fun p => p.2.map fun y => (p.1, y) := rfl
          have HBAS := Lib.hid hbas; clear hbas
          generalize hL : stemR u a = L at *
          clear hL
          obtain ⟨i2, hi2, hx0, hx1, hx2⟩ := info_parts inf35
          obtain ⟨i3, hi3, hz0, hz1, hz2⟩ := info_parts inf22
          have hem : OwnN (w5.alloc (.cells #[] 35)) w5.heap.size 35 2 encQS (.slice (some ⟨w5.heap.size, 0, none⟩) 0 0) [] := by
            have := World.ownsRow_made (e := 35) (base := w5.heap.size) (size := 2) w5 #[] 0 (Nat.le_refl _) (Nat.zero_le _) rfl
            simpa [OwnN] using this
          have HEM := Lib.hid hem; clear hem
          go_wp2_with (fail)
          go_loopw [9, 10, 11] (fun vb vi vk wr => ∃ (i : Nat) (rs : List RuleN) (qb : List (Value × Nm)), i ≤ m ∧ vi = .int .i64 i ∧ Ext w5 wr ∧ OwnN wr w5.heap.size 35 2 encQS vb qb ∧ rs = ((L.take i).flatMap fun p => p.2.map fun y => (p.1, y)) ∧ qb.map (·.2) = rs.map (·.2) ∧
            (∀ (j : Nat) (p : Value × Nm) (r : RuleN), qb[j]? = some p → rs[j]? = some r → RdS w5 p.1 r.1) ∧ qb.length ≤ 8 * i) (fun _ vi _ _ => m - (intOf vi).toNat)
          case atStart => exact ⟨0, [], [], Nat.zero_le _, rfl, (Ext.refl _).alloc _, HEM.out, rfl, rfl, by intro j p r hp; simp at hp, by simp⟩
          case round =>
            obtain ⟨wo, rfl⟩ : ∃ wo : World, wo = wr := ⟨_, rfl⟩
            obtain ⟨i, rs, qb, hi, rfl, hE, hO, hrs, hqr, hqd, hql⟩ := hrel
            have HE := Lib.hid hE; clear hE
            have HO := Lib.hid hO; clear hO
            have HRS := Lib.hid hrs; clear hrs
            have HQR := Lib.hid hqr; clear hqr
            have HQD := Lib.hid hqd; clear hqd
            by_cases hlt : i < m
            · have hiL : i < L.length := by rw [← HM.out]; exact hlt
              have hiq : i < qs.length := by rw [HQ2.out]; exact hiL
              obtain ⟨b5, rfl, hb5, hcc⟩ := HC5.out (by omega)
              obtain ⟨c51, c52⟩ := hcc i _ (List.getElem?_eq_getElem hiq)
              obtain ⟨g1, g2⟩ := HQ3.out i _ _ (List.getElem?_eq_getElem hiq) (List.getElem?_eq_getElem hiL)
              have hsm := HSM.out _ (List.getElem_mem hiL)
              have htk := List.take_succ_eq_append_getElem hiL
              clear hcc
              generalize hq1 : qs[i].1 = q1 at *
              generalize hq2 : qs[i].2 = q2 at *
              generalize L[i] = p at *
              clear hq1 hq2
              obtain ⟨p1, p2⟩ := p
              simp only at g1 g2 hsm
              have HTK := Lib.hid htk; clear htk
              have g1' := g1
              have g2' := g2
              obtain ⟨A1, n1, cc1, rfl, -⟩ := g1'
              obtain ⟨A2, n2, cc2, rfl, hn2, hnc2, hcm2, hcell2⟩ := g2'
              unfold maxLen at hcm2
              have hn28 : n2 ≤ 8 := by have := hsm.2.1; have := HN8.out; omega
              have HG1 := Lib.hid g1; clear g1
              have HG2 := Lib.hid g2; clear g2
              have HN2 := Lib.hid hn2; clear hn2
              have HCE2 := Lib.hid hcell2; clear hcell2 hsm
              go_wp2_with (fail)
              go_loopw [9, 11] (fun vb vk wr => ∃ (k : Nat) (qb' : List (Value × Nm)), k ≤ n2 ∧ vk = .int .i64 k ∧ Ext w5 wr ∧ OwnN wr w5.heap.size 35 2 encQS vb qb' ∧ qb'.map (·.2) = (rs ++ (p2.take k).map fun y => (p1, y)).map (·.2) ∧
                (∀ (j : Nat) (p : Value × Nm) (r : RuleN), qb'[j]? = some p → (rs ++ (p2.take k).map fun y => (p1, y))[j]? = some r → RdS w5 p.1 r.1) ∧ qb'.length ≤ 8 * i + k) (fun _ vk _ => n2 - (intOf vk).toNat)
              case atStart => exact ⟨0, qb, Nat.zero_le _, rfl, HE.out, HO.out, by simpa using HQR.out, by simpa using HQD.out, by omega⟩
              case round =>
                clear HO HQD HQR
                obtain ⟨k, qb', hk, rfl, hE6, hO6, hqr6, hqd6, hql6⟩ := hrel
                have HE6 := Lib.hid hE6; clear hE6
                have hex := hO6.rd (fun _ => rfl)
                obtain ⟨Ab6, nb6, cb6, rfl, hnb6, -, -, -⟩ := hex
                have HO6 := Lib.hid hO6; clear hO6
                have HQR6 := Lib.hid hqr6; clear hqr6
                have HQD6 := Lib.hid hqd6; clear hqd6
                have hnb7 : nb6 ≤ 8 * i + k := by omega
                have HNB6 := Lib.hid hnb6; clear hnb6
                have c51' := HE6.out.cell c51
                have c52' := HE6.out.cell c52
                by_cases hkn : k < n2
                · have hkp : k < p2.length := by rw [HN2.out]; exact hkn
                  obtain ⟨b2, o2, rfl, hb2, hc2⟩ := HCE2.out (by omega)
                  have hck := HE6.out.cell (hc2 k _ (List.getElem?_eq_getElem hkp))
                  have HTK2 := Lib.hid (List.take_succ_eq_append_getElem hkp)
                  clear hc2
                  generalize p2[k] = y at *
                  have hk8 : (k : Int) < 8 := by omega
                  have HNN : Hid (qb'.length + 1 ≤ 3000) := Lib.hid (by have := HNB6.out; omega)
                  go_wp2_with (fail)
                  go_region_law (refine step_append_outN rfl (.tmp 81) (.tmp 96) 23 rfl 35 i2 _ 2 40 Try.underlying23 hi2 hx0 hx1 hx2 rfl (by decide) encQS (fun _ => rfl) w5 (HE6.out.drew.alloc _) (.slice Ab6 nb6 cb6) qb' rfl ((HO6.out.ext ((Ext.refl _).drew)).ext ((Ext.refl _).alloc _)) wr.heap.size 1 (.slice A1 n1 cc1, y) rfl (cells_new _ _ _ _ rfl) (by intro x hx; simp only [encQS, List.mem_cons, List.not_mem_nil, or_false] at hx; rcases hx with rfl | rfl <;> rfl) (by have := HNN.out; unfold maxLen; omega) (by have := HNN.out; omega) (nb6 + 1) (by rw [HNB6.out]) ?_; intro g9 c9 w9 hown9 hE9 hg9; clear hg9; have HOWN9 := Lib.hid hown9; clear hown9; have HE9 := Lib.hid hE9; clear hE9)
                  all_goals
                    go_wp2_with (fail)
                    go_roundw
                    case rel =>
                      refine ⟨k + 1, _, by omega, by go_num, HE9.out, HOWN9.out, ?_, ?_, by have := HNB6.out; simp; omega⟩
                      · rw [HTK2.out, List.map_append, HQR6.out]; simp
                      · rw [HTK2.out, List.map_append, ← List.append_assoc]
                        intro j q r hj hr
                        have hlen : qb'.length = (rs ++ (p2.take k).map fun y => (p1, y)).length := by have := congrArg List.length HQR6.out; simpa using this
                        rcases getElem_snoc hj with ⟨e1, e2⟩ | ⟨e1, e2⟩
                        · rw [List.getElem?_append_left (by omega)] at hr
                          exact HQD6.out j q r e2 hr
                        · rw [List.getElem?_append_right (by omega), e1, hlen] at hr
                          simp at hr
                          subst e2 hr
                          exact HG1.out
                    case measure => simp [intOf]; omega
                · obtain rfl : k = n2 := by omega
                  rw [List.take_of_length_le (by have := HN2.out; omega)] at HQR6 HQD6
                  go_wp2_with (fail)
                  go_roundw
                  case rel => exact ⟨i + 1, rs ++ p2.map (fun y => (p1, y)), qb', by omega, by go_num, HE6.out, HO6.out, by rw [HTK.out, List.flatMap_append, ← HRS.out]; simp, HQR6.out, HQD6.out, by omega⟩
                  case measure => simp [intOf]; omega
            · obtain rfl : m = i := by omega
              rw [List.take_of_length_le (by have := HM.out; omega), ← HBAS.out] at HRS
              have hlen : qb.length = rs.length := by have := congrArg List.length HQR.out; simpa using this
              have hex := HO.out.rd (fun _ => rfl)
              obtain ⟨Ab6, nb6, cb6, rfl, hnb6, -, -, -⟩ := hex
              have hIR : InR wo (.slice Ab6 nb6 cb6) (basisR u a) := by
                rw [← HRS.out]
                refine inR_of HO.out HQR.out (fun j p r hp hr => (HQD.out j p r hp hr).ext HE.out) (by omega) fun r hr => ?_
                rw [HRS.out] at hr
                have := (subsetsN_sublist (mem_basisR.1 hr).1).length_le
                have := HN8.out
                omega
              have HIR := Lib.hid hIR; clear hIR
              have HSZ2 : Hid (a.length + (basisR u a).length ≤ 1000000) := Lib.hid (by rw [← HRS.out]; have := HSA.out; omega)
              have HN0 : Hid (eqE u a (basisR u a) = 0) := Lib.hid (by unfold eqE; rw [if_pos H0.out]; exact HBR.out)
              have HN1 : Hid (eqE u a b = 0) := Lib.hid (by unfold eqE; rw [if_pos H0.out]; exact HRB.out)
              have HQ0 : Hid (eqB u a (basisR u a) = true) := Lib.hid (by rw [eqB_eq H0.out HBR.out]; exact HBE.out)
              have HQ1 : Hid (eqB u a b = eqR u a b) := Lib.hid (eqB_eq H0.out HRB.out)
              clear hlen hnb6 hql
              go_wp2_with (fail)
              refine (equivalent_ok _ _ _ u a (basisR u a) _ (HIU.out.ext (HE5.out.trans HE.out)) (HIA.out.ext (HE5.out.trans HE.out)) HIR.out HN0.out HSZ2.out).mono ?_
              rintro e w6 ⟨rfl, hE6⟩
              rw [HQ0.out]
              have HE6 := Lib.hid ((HE5.out.trans HE.out).trans hE6); clear hE6
              go_wp2_with (fail)
              refine (equivalent_ok _ _ _ u a b _ (HIU.out.ext HE6.out) (HIA.out.ext HE6.out) (HIB.out.ext HE6.out) HN1.out HSZ.out).mono ?_
              rintro e w7 ⟨rfl, hE7⟩
              rw [HQ1.out]
              have HE7 := Lib.hid (HE6.out.trans hE7); clear hE7
              cases heq : eqR u a b with
              | false =>
                clear heq
                go_wp2_with (fail)
                go_ret
                exact ⟨rfl, HE7.out⟩
              | true =>
                have HFIN := Lib.hid (HLEAST.out heq); clear heq
                have hem : Own (w7.alloc (.cells #[] 22)) w7.heap.size 22 id (.slice (some ⟨w7.heap.size, 0, none⟩) 0 0) [] := Own.empty _ _ _ _ (Nat.le_refl _)
                have HEM2 := Lib.hid hem; clear hem
                go_wp2_with (fail)
                go_loopw [16, 17, 18, 19] (fun vp vi vs vk wr => ∃ (i : Nat) (qp : List Value), i ≤ nb ∧ vi = .int .i64 i ∧ Ext w7 wr ∧ Own wr w7.heap.size 22 id vp qp ∧ qp.length = (premF [] (b.take i)).length ∧ ∀ (j : Nat) (q : Value) (l : NmL), qp[j]? = some q → (premF [] (b.take i))[j]? = some l → RdS w q l) (fun _ vi _ _ _ => nb - (intOf vi).toNat)
                case atStart => exact ⟨0, [], Nat.zero_le _, rfl, (Ext.refl _).alloc _, HEM2.out, by simp [premF], by intro j q l hq; simp at hq⟩
                case round =>
                  obtain ⟨wo2, rfl⟩ : ∃ wo2 : World, wo2 = wr := ⟨_, rfl⟩
                  obtain ⟨i, qp, hi, rfl, hE8, hP, hpl, hpd⟩ := hrel
                  have HE8 := Lib.hid hE8; clear hE8
                  have hex := hP.rd
                  obtain ⟨Ap, np, cp, rfl, hnp, hnpc, hcmp, -⟩ := hex
                  unfold maxLen at hcmp
                  have HP := Lib.hid hP; clear hP
                  have HPD := Lib.hid hpd; clear hpd
                  have hps : (premF [] (b.take i)).length ≤ 60 := by
                    have := premF_len (b.take i) []
                    have : (b.take i).length ≤ i := List.length_take_le _ _
                    simp at *
                    omega
                  have hnp60 : np ≤ 60 := by omega
                  have HPL := Lib.hid hpl; clear hpl
                  have HNP := Lib.hid hnp; clear hnp
                  by_cases hlt : i < nb
                  · have hiL : i < b.length := by rw [HLB.out]; exact hlt
                    obtain ⟨bb, ob, rfl, hbb, hcc⟩ := HCB.out (by omega)
                    obtain ⟨q, c1, c2, g1⟩ := hcc i _ (List.getElem?_eq_getElem hiL)
                    have c1 := (HE7.out.trans HE8.out).cell c1
                    have c2 := (HE7.out.trans HE8.out).cell c2
                    have HPS := Lib.hid (premF_snoc b i hiL)
                    clear hcc
                    generalize b[i] = r at *
                    generalize hps2 : premF [] (b.take i) = ps at *
                    clear hps2
                    have g1' := g1
                    obtain ⟨Aq, nr, cq, rfl, -⟩ := g1'
                    have HG1 := Lib.hid g1; clear g1
                    have HGW := Lib.hid (HG1.out.ext (HE7.out.trans HE8.out))
                    have hiI : (i : Int) < (nb : Int) := by omega
                    cases hb : decide (r.2 ∈ r.1) with
                    | _ =>
                    have HB2 := Lib.hid hb; clear hb
                    go_wp2_with (fail)
                    go_quiet ((go_at_call 33; exact has_quiet _ _ _ _ _ _ HGW.out HB2.out))
                    go_wp2_with (fail)
                    have hE9 : Ext wo2 (wo2.drewN nq) := (Ext.refl _).drewN nq
                    generalize wo2.drewN nq = w9 at *
                    have HE9 := Lib.hid hE9; clear hE9
                    go_loopw [18, 19] (fun vs vk wr => ∃ (k : Nat) (z : Bool), k ≤ np ∧ vk = .int .i64 k ∧ vs = .bool z ∧ z = decide (r.2 ∈ r.1 ∨ r.1 ∈ ps.take k) ∧ Ext w9 wr) (fun _ vk _ => np - (intOf vk).toNat)
                    case atStart => exact ⟨0, _, Nat.zero_le _, rfl, rfl, by rw [← HB2.out]; simp, Ext.refl _⟩
                    case round =>
                      obtain ⟨k, z, hk, rfl, rfl, hz, hE10⟩ := hrel
                      have HE10 := Lib.hid hE10; clear hE10
                      have HZ := Lib.hid hz; clear hz
                      by_cases hkn : k < np
                      · have hkp : k < ps.length := by rw [← HPL.out, HNP.out]; exact hkn
                        have hkq : k < qp.length := by rw [HNP.out]; exact hkn
                        have HTK := Lib.hid (List.take_succ_eq_append_getElem hkp)
                        have hP := (HP.out.ext (HE9.out.trans HE10.out)).rd
                        obtain ⟨hpn, -, -, hpc⟩ := hP.open_
                        obtain ⟨bp, op, rfl, hbp, hpc2⟩ := hpc (by omega)
                        have ck := hpc2 k _ (List.getElem?_eq_getElem hkq)
                        simp only [id] at ck
                        have gk := (HPD.out k _ _ (List.getElem?_eq_getElem hkq) (List.getElem?_eq_getElem hkp)).ext (((HE7.out.trans HE8.out).trans HE9.out).trans HE10.out)
                        clear hpn hpc hpc2 hP
                        generalize qp[k] = qk at *
                        generalize ps[k] = pk at *
                        have gk' := gk
                        obtain ⟨Ak, nk, ck1, rfl, -⟩ := gk'
                        have HGK := Lib.hid gk; clear gk
                        have HGR := Lib.hid (HGW.out.ext (HE9.out.trans HE10.out))
                        have d1 := (HE9.out.trans HE10.out).cell c1
                        have hkI : (k : Int) < (np : Int) := by omega
                        cases z with
                        | true =>
                          go_wp2_with (fail)
                          go_quiet (fail)
                          go_wp2_with (fail)
                          go_roundw
                          case rel => exact ⟨k + 1, true, by omega, by go_num, rfl, by
                            have := HZ.out
                            rw [HTK.out, eq_comm, decide_eq_true_eq, List.mem_append]
                            rw [eq_comm, decide_eq_true_eq] at this
                            rcases this with h | h
                            · exact .inl h
                            · exact .inr (.inl h), HE10.out.drewN _⟩
                          case measure => simp [intOf]; omega
                        | false =>
                          cases hd : decide (pk = r.1) with
                          | _ =>
                          have HD := Lib.hid hd; clear hd
                          go_wp2_with (fail)
                          go_quiet ((go_at_call 20; exact same_quiet _ _ pk r.1 _ _ _ HGK.out HGR.out HD.out))
                          go_wp2_with (fail)
                          go_roundw
                          case rel => exact ⟨k + 1, _, by omega, by go_num, rfl, by
                            have h := HZ.out
                            have h2 := HD.out
                            rw [HTK.out]
                            rw [eq_comm] at h
                            simp only [decide_eq_true_eq, decide_eq_false_iff_not, not_or, List.mem_append, List.mem_singleton] at h h2 ⊢
                            rw [eq_comm]
                            simp only [decide_eq_true_eq, decide_eq_false_iff_not]
                            first
                              | exact .inr (.inr h2.symm)
                              | (rintro (h3 | h3 | h3)
                                 · exact h.1 h3
                                 · exact h.2 h3
                                 · exact h2 h3.symm), HE10.out.drewN _⟩
                          case measure => simp [intOf]; omega
                      · obtain rfl : np = k := by omega
                        rw [List.take_of_length_le (by have := HPL.out; have := HNP.out; omega)] at HZ
                        have hEx := (HE8.out.trans HE9.out).trans HE10.out
                        have hPx := HP.out.ext (HE9.out.trans HE10.out)
                        have d1 := (HE9.out.trans HE10.out).cell c1
                        have HEX := Lib.hid hEx; clear hEx
                        have HPX := Lib.hid hPx; clear hPx
                        have HGR := Lib.hid (HGW.out.ext (HE9.out.trans HE10.out))
                        cases z with
                        | true =>
                          have hz := HZ.out
                          rw [eq_comm, decide_eq_true_eq] at hz
                          rw [if_pos hz] at HPS
                          clear hz
                          go_wp2_with (fail)
                          go_roundw
                          case rel => exact ⟨i + 1, qp, by omega, by go_num, HEX.out, HPX.out, by rw [HPS.out]; exact HPL.out, by rw [HPS.out]; exact HPD.out⟩
                          case measure => simp [intOf]; omega
                        | false =>
                          have hz := HZ.out
                          rw [eq_comm, decide_eq_false_iff_not] at hz
                          rw [if_neg hz] at HPS
                          clear hz
                          have HNN : Hid (qp.length + 1 ≤ 100) := Lib.hid (by have := HNP.out; omega)
                          go_wp2_with (at_builtin; go_must (refine wpList_append_one rfl (.tmp 161) (.tmp 167) 28 rfl 22 i3 _ 24 Try.underlying28 hi3 hz0 hz1 hz2 rfl id w7 (HEX.out.alloc _) _ qp rfl (HPX.out.ext ((Ext.refl _).alloc _)) wr.heap.size 1 (.slice Aq nr cq) rfl (cell_new1 _ _ _) rfl (by have := HNN.out; unfold maxLen; omega) (by have := HNN.out; omega) ?_); intro v9 w10 hown10 hE10b hg10; clear hg10; have HOWN10 := Lib.hid hown10; clear hown10; have HE10B := Lib.hid hE10b; clear hE10b)
                          go_roundw
                          case rel =>
                            refine ⟨i + 1, _, by omega, by go_num, HE10B.out, HOWN10.out, by rw [HPS.out]; simp [HPL.out], ?_⟩
                            rw [HPS.out]
                            intro j q l hj hl
                            rcases getElem_snoc hj with ⟨e1, e2⟩ | ⟨e1, e2⟩
                            · rw [List.getElem?_append_left (by rw [← HPL.out]; exact e1)] at hl
                              exact HPD.out j q l e2 hl
                            · rw [List.getElem?_append_right (by rw [← HPL.out]; omega), e1, HPL.out] at hl
                              simp at hl
                              subst e2 hl
                              exact HG1.out
                          case measure => simp [intOf]; omega
                  · obtain rfl : i = nb := by omega
                    rw [List.take_of_length_le (by have := HLB.out; omega)] at HPL
                    have hge : m ≤ np := by have := HNP.out; have := HPL.out; have := HFIN.out; have := HM.out; omega
                    go_wp2_with (fail)
                    go_ret
                    exact ⟨ret_bool (by simp), HE7.out.trans HE8.out⟩
        · have hzb : (checkE u b != 0) = true := by simpa using h1
          clear h0 h1
          go_enter Try.func13, Try.ntmps13
          go_wp2_with (first | (go_at_call 15; refine (awake_any _).mono ?_; rintro e w1 ⟨rfl, hE1⟩; have HE1 := Lib.hid hE1; clear hE1) | (go_at_call 16; clear TK1; refine (heavy_any _ _ u a _ (HU.out.ext HE1.out) (HA.out.ext HE1.out)).mono ?_; rintro e w2 ⟨rfl, rfl⟩; rw [HHA.out]) | (go_at_call 16; clear TK2; refine (heavy_any _ _ u b _ (HU.out.ext HE1.out) (HB.out.ext HE1.out)).mono ?_; rintro e w2 ⟨rfl, rfl⟩; rw [HHB.out]) | (go_at_call 17; clear TK3; refine (refCheck_any _ _ u a _ (HU.out.ext HE1.out) HUM.out (HA.out.ext HE1.out)).mono ?_; rintro e w3 ⟨rfl, hE3⟩; have HE3 := Lib.hid (HE1.out.trans hE3); clear hE3; rw [H0.out]) | (go_at_call 17; clear TK4; refine (refCheck_any _ _ u b _ (HU.out.ext HE3.out) HUM.out (HB.out.ext HE3.out)).mono ?_; rintro e w4 ⟨rfl, hE4⟩; have HE4 := Lib.hid (HE3.out.trans hE4); clear hE4))
          go_ret
          exact ⟨rfl, HE4.out⟩
      · have hzb : (checkE u a != 0) = true := by simpa using h0
        clear h0
        go_enter Try.func13, Try.ntmps13
        go_wp2_with (first | (go_at_call 15; refine (awake_any _).mono ?_; rintro e w1 ⟨rfl, hE1⟩; have HE1 := Lib.hid hE1; clear hE1) | (go_at_call 16; clear TK1; refine (heavy_any _ _ u a _ (HU.out.ext HE1.out) (HA.out.ext HE1.out)).mono ?_; rintro e w2 ⟨rfl, rfl⟩; rw [HHA.out]) | (go_at_call 16; clear TK2; refine (heavy_any _ _ u b _ (HU.out.ext HE1.out) (HB.out.ext HE1.out)).mono ?_; rintro e w2 ⟨rfl, rfl⟩; rw [HHB.out]) | (go_at_call 17; clear TK3; refine (refCheck_any _ _ u a _ (HU.out.ext HE1.out) HUM.out (HA.out.ext HE1.out)).mono ?_; rintro e w3 ⟨rfl, hE3⟩; have HE3 := Lib.hid (HE1.out.trans hE3); clear hE3))
        go_ret
        exact ⟨rfl, HE3.out⟩
end Go.Proofs.Ythgplaledmccgaa
