/-
  Contracts: the reference Closed, Subsets.
-/
import Derived.Test.YthgplaledmccgaaW14
import Derived.Test.YthgplaledmccgaaMem4
namespace Go.Proofs.Ythgplaledmccgaa
open Go.RowKit

theorem OwnSS.rd {w : World} {base : Nat} {v : Value} {L : List (List Nm)} (h : OwnSS w base v L) : RdSS w v L := by
  obtain ⟨qs, h1, h2, h3⟩ := h
  exact ⟨qs, h1.rd, h2, fun j q l hq hl => (h3 j q l hq hl).rd⟩

set_option maxRecDepth 100000 in
set_option maxHeartbeats 800000 in
theorem refClosed_any (vs vl : Value) (rs : List RuleN) (l : List Nm) (w : World) (hr : RdR w vs rs) (hl : RdS w vl l) :
    Calls Try.prog 31 #[vs, vl] w fun e w' => e = .returned (.bool (closedN rs l)) ∧ w = w' := by
  obtain ⟨A, n, c, rfl, hlr, hnc, hcm, hcell⟩ := hr
  unfold maxLen at hcm
  have HL := Lib.hid hlr; clear hlr
  have HC := Lib.hid hcell; clear hcell
  have HV := Lib.hid hl; clear hl
  go_enter Try.func31, Try.ntmps31
  go_wp2_with (fail)
  go_loop [5] (fun i => ∃ k : Nat, k ≤ n ∧ i = .int .i64 k ∧ closedN (rs.take k) l = true) (fun i => n - (intOf i).toNat)
  case atStart => exact ⟨0, Nat.zero_le _, rfl, by simp [closedN]⟩
  case round =>
    obtain ⟨k, hk, rfl, hno⟩ := hrel
    have HNO := Lib.hid hno; clear hno
    by_cases hlt : k < n
    · obtain ⟨bl, off, rfl, hbl, hcl⟩ := HC.out (by omega)
      have hkl : k < rs.length := by rw [HL.out]; exact hlt
      obtain ⟨q, hq1, hq2, hq3⟩ := hcl k rs[k] (List.getElem?_eq_getElem hkl)
      have hq3' := hq3
      obtain ⟨Aq, nq, cq, rfl, -⟩ := hq3'
      have HQ := Lib.hid hq3; clear hq3 hcl
      have hstep : ((∀ x ∈ rs[k].1, x ∈ l) → rs[k].2 ∈ l) → closedN (rs.take (k + 1)) l = true := by
        intro hb
        unfold closedN at HNO ⊢
        rw [List.take_succ_eq_append_getElem hkl, List.all_append, HNO.out]
        simp only [List.all_cons, List.all_nil, Bool.and_true, Bool.true_and, Bool.or_eq_true, Bool.not_eq_true', decide_eq_false_iff_not, decide_eq_true_eq]
        by_cases h : ∀ x ∈ rs[k].1, x ∈ l
        · exact .inr (hb h)
        · exact .inl h
      have HST := Lib.hid hstep; clear hstep
      by_cases h1 : ∀ x ∈ rs[k].1, x ∈ l
      · have H1 := Lib.hid h1; clear h1
        by_cases h2 : rs[k].2 ∈ l
        · have H2 := Lib.hid h2; clear h2
          go_wp2_with (first | (go_at_call 32; refine (subset_any _ _ rs[k].1 l _ HQ.out HV.out).mono ?_; rintro e w' ⟨rfl, rfl⟩; rw [decide_eq_true H1.out]) | (go_at_call 33; refine (has_any _ l _ _ HV.out).mono ?_; rintro e w' ⟨rfl, rfl⟩; rw [decide_eq_true H2.out]))
          go_round
          case rel => exact ⟨k + 1, by omega, by go_num, HST.out (fun _ => H2.out)⟩
          case measure => simp [intOf]; omega
        · have H2 := Lib.hid h2; clear h2
          go_wp2_with (first | (go_at_call 32; refine (subset_any _ _ rs[k].1 l _ HQ.out HV.out).mono ?_; rintro e w' ⟨rfl, rfl⟩; rw [decide_eq_true H1.out]) | (go_at_call 33; refine (has_any _ l _ _ HV.out).mono ?_; rintro e w' ⟨rfl, rfl⟩; rw [decide_eq_false H2.out]))
          go_ret
          refine ⟨ret_bool (Eq.symm ?_), rfl⟩
          unfold closedN
          rw [List.all_eq_false]
          exact ⟨rs[k], List.getElem_mem hkl, by rw [decide_eq_true H1.out, decide_eq_false H2.out]; decide⟩
      · have H1 := Lib.hid h1; clear h1
        go_wp2_with (first | (go_at_call 32; refine (subset_any _ _ rs[k].1 l _ HQ.out HV.out).mono ?_; rintro e w' ⟨rfl, rfl⟩; rw [decide_eq_false H1.out]))
        go_round
        case rel => exact ⟨k + 1, by omega, by go_num, HST.out (fun h => absurd h H1.out)⟩
        case measure => simp [intOf]; omega
    · go_wp2_with (fail)
      go_ret
      have hno := HNO.out
      rw [List.take_of_length_le (by have := HL.out; omega)] at hno
      exact ⟨ret_bool hno.symm, rfl⟩

set_option maxRecDepth 100000 in
set_option maxHeartbeats 2000000 in
theorem refSubsets_any (vu : Value) (u : List Nm) (w : World) (hu : RdS w vu u) (hsz : u.length ≤ 10) :
    Calls Try.prog 48 #[vu] w fun e w' => ∃ v, e = .returned v ∧ OwnSS w' w.heap.size v (subsetsN u) ∧ Ext w w' := by
  obtain ⟨i0, hi0, hz0, hz1, hz2⟩ := info_parts inf9
  obtain ⟨i1, hi1, hy0, hy1, hy2⟩ := info_parts inf22
  obtain ⟨A, n, c, rfl, hl, hnc, hcm, hcell⟩ := hu
  have hn10 : n ≤ 10 := by omega
  unfold maxLen at hcm
  have HL := Lib.hid hl; clear hl hsz
  have HC := Lib.hid hcell; clear hcell
  have hst : OwnSS ((w.alloc (.cells #[] 9)).alloc (.cells #[.slice (some ⟨w.heap.size, 0, none⟩) 0 0] 22)) w.heap.size (.slice (some ⟨w.heap.size + 1, 0, none⟩) 1 1) [[]] := by
    have h1 : Own (w.alloc (.cells #[] 9)) w.heap.size 9 encS (.slice (some ⟨w.heap.size, 0, none⟩) 0 0) [] := Own.empty w _ _ _ (Nat.le_refl _)
    have h2 := Own.lit (w.alloc (.cells #[] 9)) w.heap.size 22 (id : Value → Value) [.slice (some ⟨w.heap.size, 0, none⟩) 0 0] #[.slice (some ⟨w.heap.size, 0, none⟩) 0 0] 1 rfl rfl (by simp) (by unfold maxLen; simp)
    refine ⟨[.slice (some ⟨w.heap.size, 0, none⟩) 0 0], by simpa using h2, rfl, fun j q l hq hl => ?_⟩
    have hj : j = 0 := by have := (List.getElem?_eq_some_iff.1 hq).1; simp at this; exact this
    subst hj
    simp at hq hl
    subst hq hl
    exact h1.ext ((Ext.refl _).alloc _)
  have HST := Lib.hid hst; clear hst
  go_enter Try.func48, Try.ntmps48
  go_wp2_with (fail)
  go_loopw [3, 4] (fun v i wr => ∃ (k : Nat) (i' : Int), k ≤ n ∧ i = .int .i64 i' ∧ i' = (k : Int) - 1 ∧ Ext w wr ∧ OwnSS wr w.heap.size v (subsetsN (u.drop k))) (fun _ i _ => (intOf i + 1).toNat)
  case atStart =>
    refine ⟨n, (n : Int) - 1, Nat.le_refl _, rfl, rfl, ((Ext.refl _).alloc _).alloc _, ?_⟩
    rw [List.drop_of_length_le (by have := HL.out; omega)]
    exact HST.out
  case round =>
    obtain ⟨wo, rfl⟩ : ∃ wo : World, wo = wr := ⟨_, rfl⟩
    obtain ⟨k, i', hk, rfl, hi', hE, hown⟩ := hrel
    have HE := Lib.hid hE; clear hE
    have hown' := hown
    obtain ⟨qs0, hq0, hq1, -⟩ := hown'
    obtain ⟨Ao, no, co, rfl, hno, -, hco, -⟩ := hq0.rd
    unfold maxLen at hco
    have HOWN := Lib.hid hown; clear hown hq0
    cases k with
    | zero =>
      obtain rfl : i' = -1 := by simpa using hi'
      clear hi'
      go_wp2_with (fail)
      go_ret
      exact ⟨_, rfl, by simpa using HOWN.out, HE.out⟩
    | succ k =>
      obtain rfl : i' = (k : Int) := by omega
      clear hi'
      obtain ⟨bl, off, rfl, hbl, hcl⟩ := HC.out (by omega)
      have hkl : k < u.length := by rw [HL.out]; omega
      have hx1 := hcl k u[k] (List.getElem?_eq_getElem hkl)
      clear hcl
      have hdr : u.drop k = u[k] :: u.drop (k + 1) := List.drop_eq_getElem_cons hkl
      have HDR := Lib.hid hdr; clear hdr
      have hm0 : no = (subsetsN (u.drop (k + 1))).length := by rw [← hno, hq1]
      have hm2 : (subsetsN (u.drop (k + 1))).length ≤ 1024 := by
        rw [subsetsN_len]
        exact Nat.le_trans (Nat.pow_le_pow_right (n := 2) (j := 10) (by decide) (by have := HL.out; rw [List.length_drop]; omega)) (by decide)
      subst hm0
      have hle := subsetsN_le (u.drop (k + 1))
      have HLE := Lib.hid hle; clear hle
      clear hno hq1
      generalize hxk : u[k] = x at *
      have HXK := Lib.hid hxk; clear hxk
      generalize hS : subsetsN (u.drop (k + 1)) = S at *
      have HS := Lib.hid hS; clear hS
      go_wp2_with (fail)
      go_loopw [3, 6] (fun v j wr => ∃ jj : Nat, jj ≤ S.length ∧ j = .int .i64 jj ∧ Ext w wr ∧ OwnSS wr w.heap.size v (S ++ (S.take jj).map (x :: ·))) (fun _ j _ => S.length - (intOf j).toNat)
      case atStart => exact ⟨0, Nat.zero_le _, rfl, HE.out, by simpa using HOWN.out⟩
      case round =>
        obtain ⟨jj, hjj, rfl, hE2, hown2⟩ := hrel
        obtain ⟨qs, ho1, ho2, ho3⟩ := hown2
        have HE2 := Lib.hid hE2; clear hE2
        have hrdo := ho1.rd
        obtain ⟨A2, n2, c2, rfl, hn2, hnc2, hc2, hcell2⟩ := hrdo
        unfold maxLen at hc2
        have hlq : qs.length = S.length + jj := by rw [ho2]; simp; omega
        have HO1 := Lib.hid ho1; clear ho1
        have HO2 := Lib.hid ho2; clear ho2
        by_cases hlt : jj < S.length
        · obtain ⟨b2, off2, rfl, hb2, hcc2⟩ := hcell2 (by omega)
          have hjq : jj < qs.length := by omega
          have hjn2 : jj < n2 := by omega
          have hSj : (S ++ (S.take jj).map (x :: ·))[jj]? = some S[jj] := by rw [List.getElem?_append_left hlt, List.getElem?_eq_getElem hlt]
          have hoj := ho3 jj qs[jj] S[jj] (List.getElem?_eq_getElem hjq) hSj
          have hojr := hoj.rd
          obtain ⟨Aj, nj, cj, hqj, hnj, -⟩ := hojr
          have hcq : wr.cell? ⟨b2, off2 + jj, none⟩ = some (.slice Aj nj cj) := by rw [← hqj]; exact hcc2 jj qs[jj] (List.getElem?_eq_getElem hjq)
          rw [hqj] at hoj
          have hkI : (k : Int) < (n : Int) := by omega
          have hjI : (jj : Int) < (n2 : Int) := by omega
          have hx2 := HE2.out.cell hx1
          have hbl2 : bl < wr.heap.size := World.block_lt_of_cell? _ _ hx2
          have hnj' : nj ≤ 10 := by
            have h3 : (u.drop (k + 1)).length ≤ 10 := by have := HL.out; rw [List.length_drop]; omega
            have h4 := HLE.out _ (List.getElem_mem hlt)
            exact Nat.le_trans (Nat.le_of_eq hnj.symm) (Nat.le_trans h4 h3)
          have HO3 := Lib.hid ho3; clear ho3
          have HOJ := Lib.hid hoj; clear hoj
          have HQJ := Lib.hid hqj; clear hqj
          have HNJ := Lib.hid hnj; clear hnj
          have HLQ := Lib.hid hlq; clear hlq hn2 hcc2 hcell2
          have hl1 : Own (wr.drew.alloc (.cells #[encS x] 9)) wr.heap.size 9 encS (.slice (some ⟨wr.heap.size, 0, none⟩) 1 1) [x] := Own.lit wr.drew _ _ encS [x] _ 1 rfl rfl (Nat.le_refl _) (by unfold maxLen; simp)
          have HL1 := Lib.hid hl1; clear hl1
          have hone : ∀ y ∈ S[jj], (encS y).oneCell' = true := fun _ _ => rfl
          have HONE := Lib.hid hone; clear hone
          have HNN : Hid (nj + 1 = [x].length + S[jj].length) := by show nj + 1 = 1 + S[jj].length; rw [HNJ.out, Nat.add_comm]
          go_wp2_with (fail)
          go_region_law (first | (refine step_append_src rfl (.tmp 28) (.tmp 32) 22 rfl 9 i0 _ 16 Try.underlying22 hi0 hz0 hz1 hz2 rfl encS wr ((Ext.refl _).drew.alloc _) (.slice (some ⟨wr.heap.size, 0, none⟩) 1 1) [x] rfl HL1.out (.slice Aj nj cj) S[jj] rfl (HOJ.out.rd.ext ((Ext.refl _).drew.alloc _)) HONE.out (nj + 1) HNN.out (by unfold maxLen; omega) (by omega) ?_; intro A1 cap1 w1 hown1 hE1 hg1; have how1 : Own w1 w.heap.size 22 id (.slice (some ⟨b2, off2, none⟩) n2 c2) qs := (HO1.out.ext ((Ext.refl _).drew.alloc _)).appended1 hg1 HL1.out (by decide); have HKP : Hid (∀ (q : Value) (l : List Nm), Own wr w.heap.size 9 encS q l → Own w1 w.heap.size 9 encS q l) := fun q l h => h.ext hE1; clear hg1; have HOW1 := Lib.hid how1; clear how1; have HOWN1 := Lib.hid hown1; clear hown1; have HE1 := Lib.hid hE1; clear hE1) | (refine step_append_one1 rfl (.tmp 23) (.tmp 34) 28 rfl 22 i1 _ 24 Try.underlying28 hi1 hy0 hy1 hy2 rfl id w ((HE2.out.trans HE1.out).alloc _) (.slice (some ⟨b2, off2, none⟩) n2 c2) qs rfl (HOW1.out.ext ((Ext.refl _).alloc _)) w1.heap.size 1 (.slice A1 (nj + 1) cap1) rfl (cell_new1 _ _ _) rfl (by rw [HLQ.out]; unfold maxLen; omega) (by rw [HLQ.out]; omega) ?_; intro v3 w3 hown3 hE3 hg3; have HKP3 : Hid (∀ (q : Value) (l : List Nm), Own w1 w.heap.size 9 encS q l → Own w3 w.heap.size 9 encS q l) := fun q l h => (h.ext ((Ext.refl _).alloc _)).appended1 hg3 (HOW1.out.ext ((Ext.refl _).alloc _)) (by decide); clear hg3; have HOWN3 := Lib.hid hown3; clear hown3; have HE3 := Lib.hid hE3; clear hE3))
          all_goals
            go_wp2_with (fail)
            go_roundw
            case rel =>
              have hsn : S ++ (S.take (jj + 1)).map (x :: ·) = (S ++ (S.take jj).map (x :: ·)) ++ [x :: S[jj]] := by
                rw [List.take_succ_eq_append_getElem hlt, List.map_append, List.append_assoc]; rfl
              refine ⟨jj + 1, by omega, by go_num, HE3.out, qs ++ [.slice A1 (nj + 1) cap1], HOWN3.out, ?_, fun j q l hq hl => ?_⟩
              · rw [hsn, List.length_append, List.length_append, HO2.out]; rfl
              · rw [hsn] at hl
                by_cases hj : j < qs.length
                · rw [List.getElem?_append_left hj] at hq
                  rw [List.getElem?_append_left (by rw [← HO2.out]; exact hj)] at hl
                  exact HKP3.out _ _ (HKP.out _ _ (HO3.out j q l hq hl))
                · rw [List.getElem?_append_right (by omega)] at hq
                  rw [List.getElem?_append_right (by rw [← HO2.out]; omega), ← HO2.out] at hl
                  have h0 : j - qs.length = 0 := by
                    have := (List.getElem?_eq_some_iff.1 hq).1
                    simp at this; omega
                  rw [h0] at hq hl
                  simp only [List.getElem?_cons_zero, Option.some.injEq] at hq hl
                  rw [← hq, ← hl]
                  exact HKP3.out _ _ (HOWN1.out.up HE2.out.size)
            case measure => simp [intOf]; omega
        · obtain rfl : jj = S.length := by omega
          rw [List.take_length] at ho3
          go_wp2_with (fail)
          go_roundw
          case rel =>
            refine ⟨k, (k : Int) - 1, by omega, rfl, rfl, HE2.out, qs, HO1.out, ?_, ?_⟩
            · rw [HO2.out, List.take_length, HDR.out, subsetsN, HS.out]
            · rw [HDR.out, subsetsN, HS.out]; exact ho3
          case measure => simp [intOf]
end Go.Proofs.Ythgplaledmccgaa
