/-
  Contracts: the two function literals of closure.Stem.
-/
import Derived.Test.YthgplaledmccgaaW21
import Derived.Test.YthgplaledmccgaaSpec17
import Derived.BigQuiet
namespace Go.Proofs.Ythgplaledmccgaa
open Go.RowKit

theorem getD_at {s : List Bool} {k : Nat} (h : k < s.length) : s.getD k false = s[k] := by rw [List.getD_eq_getElem?_getD, List.getElem?_eq_getElem h]; rfl

set_option maxRecDepth 100000 in
set_option maxHeartbeats 2000000 in
theorem below_any (va vb : Value) (a b : List Bool) (w : World) (ha : Rd1 w Value.bool va a) (hb : Rd1 w Value.bool vb b) (hab : a.length = b.length) :
    Calls Try.prog 63 #[va, vb] w fun e w' => e = .returned (.bool (belowB a b)) ∧ Ext w w' := by
  obtain ⟨A, n, c, rfl, hl, hnc, hcm, hcell⟩ := ha
  obtain ⟨A', n', c', rfl, hl', hnc', hcm', hcell'⟩ := hb
  obtain rfl : n = n' := by omega
  unfold maxLen at hcm hcm'
  have HL := Lib.hid hl; clear hl
  have HC := Lib.hid hcell; clear hcell
  have HL' := Lib.hid hl'; clear hl'
  have HC' := Lib.hid hcell'; clear hcell'
  clear hab
  go_enter Try.func63, Try.ntmps63
  go_wp2
  go_loopw [5, 9] (fun vp vi wr => ∃ (k : Nat) (p : Bool), k ≤ n ∧ vi = .int .i64 k ∧ vp = .bool p ∧ Ext w wr ∧ p = decide (a.take k ≠ b.take k) ∧ ∀ j < k, a.getD j false = true → b.getD j false = true) (fun _ vi _ => n - (intOf vi).toNat)
  case atStart => exact ⟨0, false, Nat.zero_le _, rfl, rfl, Ext.refl _, by simp, by intro j hj; omega⟩
  case round =>
    obtain ⟨k, p, hk, rfl, rfl, hE, hp, hle⟩ := hrel
    have HE := Lib.hid hE; clear hE
    have HP := Lib.hid hp; clear hp
    have HLE := Lib.hid hle; clear hle
    by_cases hlt : k < n
    · obtain ⟨bl, off, rfl, hbl, hc⟩ := HC.out (by omega)
      obtain ⟨bl', off', rfl, hbl', hc'⟩ := HC'.out (by omega)
      have hkl : k < a.length := by rw [HL.out]; exact hlt
      have hkl' : k < b.length := by rw [HL'.out]; exact hlt
      have hc1 := HE.out.cell (hc k a[k] (List.getElem?_eq_getElem hkl))
      have hc2 := HE.out.cell (hc' k b[k] (List.getElem?_eq_getElem hkl'))
      have hltI : (k : Int) < (n : Int) := by omega
      clear hc hc'
      have HA := Lib.hid (getD_at hkl)
      have HB := Lib.hid (getD_at hkl')
      have HTA := Lib.hid (List.take_succ_eq_append_getElem hkl)
      have HTB := Lib.hid (List.take_succ_eq_append_getElem hkl')
      generalize a[k] = x at *
      generalize b[k] = y at *
      cases x <;> cases y <;> cases p
      case true.false.false | true.false.true =>
        go_wp2
        go_ret
        refine ⟨ret_bool ?_, HE.out⟩
        have : leB a b = false := by
          rw [Bool.eq_false_iff]
          intro h
          have := leB_iff.1 h k HA.out
          rw [HB.out] at this
          cases this
        unfold belowB; rw [this]; rfl
      all_goals
        go_wp2
        go_quiet (fail)
        go_wp2
        go_roundw
        case rel =>
          refine ⟨k + 1, _, by omega, by go_num, rfl, HE.out.drewN _, ?_, fun j hj hja => ?_⟩
          · rw [HTA.out, HTB.out]
            have h := HP.out
            have hl1 : (a.take k).length = k := by simp; omega
            have hl2 : (b.take k).length = k := by simp; omega
            by_cases e : a.take k = b.take k
            · simp [e] at h ⊢
            · simp only [ne_eq, e, not_false_eq_true, decide_true] at h
              have e2 : ∀ z1 z2 : List Bool, a.take k ++ z1 ≠ b.take k ++ z2 := fun z1 z2 he => e (List.append_inj_left he (by omega))
              first | exact absurd h (by decide) | simp [e2]
          · by_cases hjk : j = k
            · subst hjk; first | exact HB.out | (rw [HA.out] at hja; cases hja)
            · exact HLE.out j (by omega) hja
        case measure => simp [intOf]; omega
    · obtain rfl : k = n := by omega
      go_wp2
      go_ret
      refine ⟨ret_bool ?_, HE.out⟩
      have hle : leB a b = true := leB_iff.2 fun j hj => by
        by_cases hjk : j < k
        · exact HLE.out j hjk hj
        · rw [List.getD_eq_getElem?_getD, List.getElem?_eq_none (by have := HL.out; omega)] at hj
          simp at hj
      have hp := HP.out
      rw [List.take_of_length_le (by have := HL.out; omega), List.take_of_length_le (by have := HL'.out; omega)] at hp
      unfold belowB
      rw [hle, hp, Bool.true_and]

/-- pairs of sets that can be read -/
def RdPB (w : World) (v : Value) (F : List PairB) : Prop :=
  ∃ A m c, v = .slice A m c ∧ F.length = m ∧ m ≤ c ∧ c ≤ maxLen ∧
    (0 < m → ∃ b off, A = some ⟨b, off, none⟩ ∧ b < w.heap.size ∧ ∀ j f, F[j]? = some f →
      ∃ q1 q2, w.cell? ⟨b, off + j * 2, none⟩ = some q1 ∧ w.cell? ⟨b, off + j * 2 + 1, none⟩ = some q2 ∧ Rd1 w Value.bool q1 f.1 ∧ Rd1 w Value.bool q2 f.2)
theorem RdPB.ext {w w' : World} {v : Value} {F : List PairB} (h : RdPB w v F) (he : Ext w w') : RdPB w' v F := by
  obtain ⟨A, m, c, hv, hl, h1, h2, h3⟩ := h
  refine ⟨A, m, c, hv, hl, h1, h2, fun hn => ?_⟩
  obtain ⟨b, off, hA, hb, hc⟩ := h3 hn
  refine ⟨b, off, hA, Nat.lt_of_lt_of_le hb he.size, fun j f hj => ?_⟩
  obtain ⟨q1, q2, e1, e2, e3, e4⟩ := hc j f hj
  exact ⟨q1, q2, he.cell e1, he.cell e2, e3.ext he, e4.ext he⟩
theorem satPass_snoc (F : List PairB) (j : Nat) (hj : j < F.length) (s : SetB) : satPass (F.take (j + 1)) s = if belowB F[j].1 (satPass (F.take j) s) = true then orB (satPass (F.take j) s) F[j].2 else satPass (F.take j) s := by
  unfold satPass
  rw [List.take_succ_eq_append_getElem hj, List.foldl_append]
  rfl
def SatPost (n : Nat) (O : SetB) (w : World) (e : Ending) (w' : World) : Prop :=
  ∃ g, e = .returned (.slice (some ⟨g, 0, none⟩) n n) ∧ Arr w' 4 Value.bool g O ∧ Ext w w'

set_option maxRecDepth 100000 in
set_option maxHeartbeats 4000000 in
theorem saturate_any (bf bb : Nat) (vF vs : Value) (F : List PairB) (s : List Bool) (n : Nat) (w : World) (hv : Rd1 w Value.bool vs s) (hn : s.length = n) (hn0 : n ≤ 1048576) (hcf : w.cell? ⟨bf, 0, none⟩ = some vF) (hcb : w.cell? ⟨bb, 0, none⟩ = some (.func (.func 63) #[] #[]))
    (hF : RdPB w vF F) (hFl : ∀ f ∈ F, f.1.length = n ∧ f.2.length = n) :
    Calls Try.prog 64 #[vs, .pointer (some ⟨bf, 0, none⟩), .pointer (some ⟨bb, 0, none⟩)] w (SatPost n (sat F s) w) := by
  obtain ⟨i0, hi0, hz0, hz1, hz2⟩ := info_parts inf4
  have hbf := World.block_lt_of_cell? _ _ hcf
  have hbb := World.block_lt_of_cell? _ _ hcb
  simp only at hbf hbb
  have HV := Lib.hid hv
  obtain ⟨A, n', c, rfl, hl, hnc, hcm, -⟩ := hv
  obtain rfl : n = n' := by omega
  unfold maxLen at hcm
  have HN := Lib.hid hn; clear hn hl
  obtain ⟨AF, m, cF, rfl, hFm, hmc, hcmF, hcellF⟩ := hF
  unfold maxLen at hcmF
  have HFM := Lib.hid hFm; clear hFm
  have HCF := Lib.hid hcellF; clear hcellF
  have HFL := Lib.hid hFl; clear hFl
  have hone : ∀ x, (Value.bool x).oneCell' = true := fun _ => rfl
  go_enter Try.func64, Try.ntmps64
  go_wp2_with (first | (at_make; refine wpList_make_arr rfl (.tmp 12) (.tmp 12) 74 4 rfl i0 _ 1 Try.underlying74 hi0 hz0 hz1 hz2 rfl n rfl rfl (by omega) (by unfold maxLen; omega) ?_; intro w1 g hblk hgb hE1) | (refine wpList_copy_arr rfl (.tmp 14) (.tmp 15) 74 rfl 4 Try.underlying74 (by rw [hi0]; simp [hz1]) Value.bool g (List.replicate n false) s _ n rfl (by simp) rfl (HV.out.ext hE1) (by unfold Arr; simpa using hblk) HN.out hone w hE1 hgb ?_; intro w2 hA2 hE2))
  clear hblk hE1 hone
  have hgb : w.heap.size ≤ g := hgb
  have HA2 := Lib.hid hA2; clear hA2
  have HE2 := Lib.hid hE2; clear hE2
  go_loopg [6] (n + 1) (fun k v6 wr => ∃ (s' : SetB) (ag : Bool) (fu : Nat), v6 = .bool ag ∧ s'.length = n ∧ Ext w wr ∧ Arr wr 4 Value.bool g s' ∧ zeros s' + (if ag = true then 1 else 0) ≤ k ∧ ((ag = true ∧ sat F s = satL F fu s' ∧ zeros s' < fu) ∨ (ag = false ∧ sat F s = s')))
  case atStart => exact ⟨s, true, s.length + 1, rfl, HN.out, HE2.out, HA2.out, by have := zeros_le s; have := HN.out; simp; omega, .inl ⟨rfl, rfl, by have := zeros_le s; omega⟩⟩
  case round =>
    obtain ⟨wo, rfl⟩ : ∃ wo : World, wo = wr := ⟨_, rfl⟩
    obtain ⟨s', ag, fu, rfl, hsn, hEr, hAr, hmes, hmode⟩ := hrel
    have HER := Lib.hid hEr; clear hEr
    have HAR := Lib.hid hAr; clear hAr
    have HSN := Lib.hid hsn; clear hsn
    cases ag with
    | false =>
      have hfin : sat F s = s' := by
        rcases hmode with ⟨h, _⟩ | ⟨_, h⟩
        · cases h
        · exact h
      have HFIN := Lib.hid hfin; clear hfin hmode hmes
      go_wp2_with (fail)
      go_ret
      exact ⟨g, rfl, by rw [HFIN.out]; exact HAR.out, HER.out⟩
    | true =>
      have hfu : sat F s = satL F fu s' ∧ zeros s' < fu := by
        rcases hmode with ⟨_, h⟩ | ⟨h, _⟩
        · exact h
        · cases h
      have HFU := Lib.hid hfu; clear hfu hmode
      have HMES : Hid (zeros s' + 1 ≤ gk) := Lib.hid (by simpa using hmes)
      clear hmes
      have hcf1 := HER.out.cell hcf
      go_wp2_with (fail)
      clear hcf1
      go_loopw [6, 20] (fun v6 vj wr => ∃ j : Nat, j ≤ m ∧ vj = .int .i64 j ∧ Ext w wr ∧ (∃ bg : Bool, v6 = .bool bg ∧ bg = decide (zeros (satPass (F.take j) s') < zeros s')) ∧ Arr wr 4 Value.bool g (satPass (F.take j) s')) (fun _ vj _ => m - (intOf vj).toNat)
      case atStart => exact ⟨0, Nat.zero_le _, rfl, HER.out, ⟨false, rfl, by simp [satPass]⟩, by simpa [satPass] using HAR.out⟩
      case round =>
        obtain ⟨wo2, rfl⟩ : ∃ wo2 : World, wo2 = wr := ⟨_, rfl⟩
        obtain ⟨j, hj, rfl, hE2, ⟨bg, rfl, hbg⟩, hA2⟩ := hrel
        have HEJ := Lib.hid hE2; clear hE2
        have HAJ := Lib.hid hA2; clear hA2
        have HBG := Lib.hid hbg; clear hbg
        by_cases hlt : j < m
        · obtain ⟨b2, off, rfl, hb2, hc2⟩ := HCF.out (by omega)
          have hjl : j < F.length := by rw [HFM.out]; exact hlt
          obtain ⟨q1, q2, e1, e2, e3, e4⟩ := hc2 j _ (List.getElem?_eq_getElem hjl)
          have e1 := HEJ.out.cell e1
          have e2 := HEJ.out.cell e2
          clear hc2
          have hfl := HFL.out _ (List.getElem_mem hjl)
          have HSP := Lib.hid (satPass_snoc F j hjl s')
          generalize F[j] = f at *
          obtain ⟨f1, f2⟩ := f
          simp only at e3 e4 hfl HSP
          have hcl : (satPass (F.take j) s').length = n := by rw [satPass_len]; exact HSN.out
          have hzc : zeros (satPass (F.take j) s') ≤ zeros s' := (zeros_Le (satPass_len _ _).symm (satPass_Le _ _)).1
          generalize satPass (F.take j) s' = cur at *
          have HCL := Lib.hid hcl; clear hcl
          have HFL1 := Lib.hid hfl.1
          have HFL2 := Lib.hid hfl.2
          clear hfl
          have HQ1 := Lib.hid e3
          have HQ2 := Lib.hid e4
          obtain ⟨A1, n1, c1, rfl, hn1, -, -, -⟩ := e3
          obtain ⟨A2, n2, c2, rfl, hn2, hnc2, hcm2, hcell2⟩ := e4
          obtain rfl : n = n1 := by rw [← hn1, HFL1.out]
          obtain rfl : n = n2 := by rw [← hn2, HFL2.out]
          unfold maxLen at hcm2
          clear hn1 hn2
          have HC2 := Lib.hid hcell2; clear hcell2
          have hcb1 := HEJ.out.cell hcb
          have hbbj : bb < wo2.heap.size := World.block_lt_of_cell? _ _ hcb1
          have hrdc : ∀ W, Ext wo2 W → Rd1 W Value.bool (.slice (some ⟨g, 0, none⟩) n n) cur := fun W hE => by
            have := (HAJ.out.ext hE).rd (by have := HCL.out; unfold maxLen; omega)
            rw [HCL.out] at this
            exact this
          have HRDC := Lib.hid hrdc; clear hrdc
          cases hbl : belowB f1 cur with
          | false =>
            rw [hbl, if_neg (by decide)] at HSP
            have HBL := Lib.hid hbl; clear hbl
            go_wp2_with (go_at_call 63; refine (below_any _ _ f1 cur _ (HQ1.out.ext (HEJ.out.trans ((Ext.refl _).alloc _))) (HRDC.out _ ((Ext.refl _).alloc _)) (by rw [HFL1.out, HCL.out])).mono ?_; rintro e w5 ⟨rfl, hE5⟩; rw [HBL.out]; have HE5 := Lib.hid (((Ext.refl wo2).alloc _).trans hE5); clear hE5)
            go_roundw
            case rel => exact ⟨j + 1, by omega, by go_num, HEJ.out.trans HE5.out, ⟨bg, rfl, by rw [HSP.out]; exact HBG.out⟩, by rw [HSP.out]; exact HAJ.out.ext HE5.out⟩
            case measure => simp [intOf]; omega
          | true =>
            rw [hbl, if_pos rfl] at HSP
            have HBL := Lib.hid hbl; clear hbl
            go_wp2_with (go_at_call 63; refine (below_any _ _ f1 cur _ (HQ1.out.ext (HEJ.out.trans ((Ext.refl _).alloc _))) (HRDC.out _ ((Ext.refl _).alloc _)) (by rw [HFL1.out, HCL.out])).mono ?_; rintro e w5 ⟨rfl, hE5⟩; rw [HBL.out]; have h51 : w5.cell? ⟨wo2.heap.size, 1, none⟩ = some (.slice A2 n c2) := hE5.cell ((Blk.new _ _ _).cell 1); have HE5 := Lib.hid (((Ext.refl wo2).alloc _).trans hE5); clear hE5)
            have hA5 := HAJ.out.ext HE5.out
            have HA5 := Lib.hid hA5; clear hA5
            have HEW5 := Lib.hid (HEJ.out.trans HE5.out)
            clear h51 hcb1
            go_loopw [6, 33] (fun v6 vt wr => ∃ t : Nat, t ≤ n ∧ vt = .int .i64 t ∧ Ext w wr ∧ (∃ bg : Bool, v6 = .bool bg ∧ bg = decide (zeros (orK cur f2 t) < zeros s')) ∧ Arr wr 4 Value.bool g (orK cur f2 t)) (fun _ vt _ => n - (intOf vt).toNat)
            case atStart => exact ⟨0, Nat.zero_le _, rfl, HEW5.out, ⟨bg, rfl, by rw [HBG.out]; rfl⟩, HA5.out⟩
            case round =>
              obtain ⟨t, ht, rfl, hE6, ⟨cg, rfl, hcg⟩, hA6⟩ := hrel
              have HE6 := Lib.hid hE6; clear hE6
              have HA6 := Lib.hid hA6; clear hA6
              have HCG := Lib.hid hcg; clear hcg
              by_cases htn : t < n
              · obtain ⟨b3, off3, rfl, hb3, hc3⟩ := HC2.out (by omega)
                have htl : t < f2.length := by rw [HFL2.out]; exact htn
                have hx1 := HE6.out.cell (hc3 t _ (List.getElem?_eq_getElem htl))
                clear hc3
                have HG2 := Lib.hid (getD_at htl)
                have hlo : (orK cur f2 t).length = n := by rw [orK_len]; exact HCL.out
                have hto : t < (orK cur f2 t).length := by rw [hlo]; exact htn
                have hx2 := HA6.out.cell (List.getElem?_eq_getElem hto)
                have HG3 := Lib.hid (getD_at hto)
                have hzk : zeros (orK cur f2 t) ≤ zeros cur := (zeros_Le (orK_len _ _ _).symm (orK_Le _)).1
                have hfz := HA6.out.frozen t
                generalize f2[t] = x at *
                generalize (orK cur f2 t)[t] = y at *
                cases x with
                | false =>
                  have HSM := Lib.hid (orK_same (o := cur) (k := t) (.inl HG2.out))
                  go_wp2_with (fail)
                  go_roundw
                  case rel => exact ⟨t + 1, by omega, by go_num, HE6.out, ⟨cg, rfl, by rw [HSM.out]; exact HCG.out⟩, by rw [HSM.out]; exact HA6.out⟩
                  case measure => simp [intOf]; omega
                | true =>
                  cases y with
                  | true =>
                    have HSM := Lib.hid (orK_same (c := f2) (o := cur) (k := t) (.inr HG3.out))
                    go_wp2_with (fail)
                    go_roundw
                    case rel => exact ⟨t + 1, by omega, by go_num, HE6.out, ⟨cg, rfl, by rw [HSM.out]; exact HCG.out⟩, by rw [HSM.out]; exact HA6.out⟩
                    case measure => simp [intOf]; omega
                  | false =>
                    have HSM := Lib.hid (orK_succ cur f2 t)
                    have HZZ := Lib.hid (orK_zeros (o := cur) (by have := HCL.out; omega) HG2.out HG3.out)
                    have hA7 := HA6.out.set_ t true
                    have HA7 := Lib.hid hA7; clear hA7
                    go_wp2_with (fail)
                    go_roundw
                    case rel =>
                      refine ⟨t + 1, by omega, by go_num, HE6.out.setCell (p := ⟨g, t, none⟩) hgb _, ⟨true, rfl, ?_⟩, by rw [HSM.out, if_pos HG2.out]; exact HA7.out⟩
                      have := HZZ.out
                      rw [decide_eq_true (by omega)]
                    case measure => simp [intOf]; omega
              · obtain rfl : t = n := by omega
                have ho : orK cur f2 f2.length = orB cur f2 := rfl
                rw [HFL2.out] at ho
                rw [← ho] at HSP
                go_wp2_with (fail)
                go_roundw
                case rel => exact ⟨j + 1, by omega, by go_num, HE6.out, ⟨cg, rfl, by rw [HSP.out]; exact HCG.out⟩, by rw [HSP.out]; exact HA6.out⟩
                case measure => simp [intOf]; omega
        · obtain rfl : j = m := by omega
          have htk : F.take j = F := List.take_of_length_le (by have := HFM.out; omega)
          rw [htk] at HBG HAJ
          obtain ⟨fu', rfl⟩ : ∃ fu', fu = fu' + 1 := ⟨fu - 1, by have := HFU.out.2; omega⟩
          have hfe := HFU.out.1
          rw [satL] at hfe
          have hz := HFU.out.2
          have hzle : zeros (satPass F s') ≤ zeros s' := (zeros_Le (satPass_len _ _).symm (satPass_Le _ _)).1
          have hm := HMES.out
          by_cases hlz : zeros (satPass F s') < zeros s'
          · rw [if_pos hlz] at hfe
            have HFE := Lib.hid hfe
            have hbt : bg = true := by rw [HBG.out, decide_eq_true hlz]
            subst hbt
            have HM := Lib.hid (show zeros (satPass F s') + 1 < gk by omega)
            have HZ := Lib.hid (show zeros (satPass F s') < fu' by omega)
            clear hfe htk hz hzle hm hlz
            go_wp2_with (fail)
            go_roundg (zeros (satPass F s') + 1)
            case measure => have := HM.out; omega
            case rel => exact ⟨satPass F s', true, fu', rfl, by rw [satPass_len]; exact HSN.out, HEJ.out, HAJ.out, by simp, .inl ⟨rfl, HFE.out, HZ.out⟩⟩
          · rw [if_neg hlz] at hfe
            have HFE := Lib.hid hfe
            have hbt : bg = false := by rw [HBG.out, decide_eq_false hlz]
            subst hbt
            have HM := Lib.hid (show zeros (satPass F s') < gk by omega)
            clear hfe htk hz hzle hm hlz
            go_wp2_with (fail)
            go_roundg (zeros (satPass F s'))
            case measure => have := HM.out; omega
            case rel => exact ⟨satPass F s', false, 0, rfl, by rw [satPass_len]; exact HSN.out, HEJ.out, HAJ.out, by simp, .inr ⟨rfl, HFE.out⟩⟩

theorem saturate_use (bf bb : Nat) (vF : Value) (F : List PairB) (n : Nat) (w : World) (hn0 : n ≤ 1048576) (hcf : w.cell? ⟨bf, 0, none⟩ = some vF) (hcb : w.cell? ⟨bb, 0, none⟩ = some (.func (.func 63) #[] #[]))
    (hF : RdPB w vF F) (hFl : ∀ f ∈ F, f.1.length = n ∧ f.2.length = n) :
    OpAt Try.prog (.func (.func 64) #[] #[.pointer (some ⟨bf, 0, none⟩), .pointer (some ⟨bb, 0, none⟩)]) n (sat F) w := by
  refine ⟨_, _, _, rfl, fun _ _ => by kernel_rfl, fun s hs => (sat_spec hFl hs).1, fun W v s hE hv hl => ?_⟩
  exact saturate_any bf bb vF v F s n W hv hl hn0 (hE.cell hcf) (hE.cell hcb) (hF.ext hE) hFl
end Go.Proofs.Ythgplaledmccgaa
