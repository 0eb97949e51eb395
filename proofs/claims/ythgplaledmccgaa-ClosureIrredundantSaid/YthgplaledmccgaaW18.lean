/-
  Contract: the reference chain.
-/
import Derived.Test.YthgplaledmccgaaW17
namespace Go.Proofs.Ythgplaledmccgaa
open Go.RowKit

def RChainPost (rs : List RuleN) (l : List Nm) (w : World) (e : Ending) (w' : World) : Prop :=
  ∃ v1 v2, e = .returned (.tuple #[v1, v2]) ∧ Own w' w.heap.size 9 encS v1 (chainR rs l).1 ∧ Own w' w.heap.size 3 encI v2 (chainR rs l).2 ∧ Ext w w'

set_option maxRecDepth 100000 in
set_option maxHeartbeats 4000000 in
theorem refChain_any (vs vl : Value) (rs : List RuleN) (l : List Nm) (w : World) (hr : RdR w vs rs) (hl : RdS w vl l) (hsz : rs.length ≤ 1048576) (hll : l.length ≤ 1048576) :
    Calls Try.prog 57 #[vs, vl] w (RChainPost rs l w) := by
  obtain ⟨i0, hi0, hz0, hz1, hz2⟩ := info_parts inf9
  obtain ⟨i1, hi1, hy0, hy1, hy2⟩ := info_parts inf3
  obtain ⟨A, n, c, rfl, hlr, hnc, hcm, hcell⟩ := hr
  unfold maxLen at hcm
  have hn : n ≤ 1048576 := by omega
  have HL := Lib.hid hlr; clear hlr hsz
  have HC := Lib.hid hcell; clear hcell
  have hl' := hl
  obtain ⟨Al, nl, cl, rfl, hnl, -⟩ := hl'
  have HNL := Lib.hid hnl
  have hnl' : nl ≤ 1048576 := by omega
  have HV := Lib.hid hl; clear hl hll hnl
  have hone : ∀ y ∈ l, (encS y).oneCell' = true := fun _ _ => rfl
  have HONE := Lib.hid hone; clear hone
  have HNN : Hid (nl = ([] : List Nm).length + l.length) := by show nl = 0 + l.length; rw [HNL.out, Nat.zero_add]
  go_enter Try.func57, Try.ntmps57
  go_wp2_with (at_builtin; go_must (refine wpList_append_src rfl (.tmp 9) (.tmp 10) 22 rfl 9 i0 _ 16 Try.underlying22 hi0 hz0 hz1 hz2 rfl encS w ((Ext.refl _).alloc _) (.slice (some ⟨w.heap.size, 0, none⟩) 0 0) [] rfl (Own.empty w _ _ _ (Nat.le_refl _)) (.slice Al nl cl) l rfl (HV.out.ext ((Ext.refl _).alloc _)) HONE.out nl HNN.out (by unfold maxLen; omega) (by omega) ?_); intro A1 c1 w1 hown1 hE1 hg1)
  simp only [List.nil_append] at hown1
  have HOWN1 := Lib.hid hown1; clear hown1 hg1
  have HE1 := Lib.hid hE1; clear hE1
  go_loopw [6, 7, 8] (fun vo vu vi wr => ∃ (k : Nat) (out : List Nm) (used : List Nat), k ≤ n ∧ vi = .int .i64 k ∧ Ext w wr ∧ Own wr w.heap.size 9 encS vo out ∧ Own wr w.heap.size 3 encI vu used ∧
    (∀ i < k, firesR out (rs.getD i ([], [])) = false) ∧ chainR rs l = ((chainR rs out).1, used ++ (chainR rs out).2) ∧ used.length + missing rs out ≤ n ∧ out.length ≤ l.length + used.length)
    (fun _ vu vi _ => (n + 1 - lenV vu) * (n + 2) + (n + 1 - (intOf vi).toNat))
  case atStart =>
    refine ⟨0, l, [], Nat.zero_le _, rfl, HE1.out.alloc _, HOWN1.out.ext ((Ext.refl _).alloc _), (Own.empty w1 _ _ _ (Nat.le_refl _)).up HE1.out.size, by intro i hi; omega, by simp, ?_, by simp⟩
    have := missing_le rs l
    have := HL.out
    simp; omega
  case round =>
    obtain ⟨k, out, used, hk, rfl, hE, hout, hused, hno, hch, hms, hol⟩ := hrel
    have HE := Lib.hid hE; clear hE
    have HNO := Lib.hid hno; clear hno
    have HCH := Lib.hid hch; clear hch
    have hout' := hout.rd
    obtain ⟨Ao, no, co, rfl, -⟩ := hout'
    have hused' := hused.rd
    obtain ⟨Au, nu, cu, rfl, hnu, -⟩ := hused'
    have HOUT := Lib.hid hout; clear hout
    have HUSED := Lib.hid hused; clear hused
    subst hnu
    have hol2 : out.length ≤ 2097152 := by have := HNL.out; omega
    by_cases hlt : k < n
    · obtain ⟨bl, off, rfl, hbl, hcl⟩ := HC.out (by omega)
      have hkl : k < rs.length := by rw [HL.out]; exact hlt
      obtain ⟨q, hq1, hq2, hq3⟩ := hcl k rs[k] (List.getElem?_eq_getElem hkl)
      have hq1 := HE.out.cell hq1
      have hq2 := HE.out.cell hq2
      have hq3' := hq3
      obtain ⟨Aq, nq, cq, rfl, -⟩ := hq3'
      have HQ := Lib.hid (hq3.ext HE.out); clear hq3 hcl
      have hgd : rs.getD k ([], []) = rs[k] := by rw [List.getD_eq_getElem?_getD, List.getElem?_eq_getElem hkl]; rfl
      have HGD := Lib.hid hgd; clear hgd
      by_cases h1 : ∀ x ∈ rs[k].1, x ∈ out
      · by_cases h2 : rs[k].2 ∈ out
        · have hf : firesR out rs[k] = false := by unfold firesR; rw [decide_eq_true h2, Bool.not_true, Bool.and_false]
          have HF := Lib.hid hf; clear hf
          have H1 := Lib.hid h1; clear h1
          have H2 := Lib.hid h2; clear h2
          go_wp2_with (first | (go_at_call 32; refine (subset_any _ _ rs[k].1 out _ HQ.out HOUT.out.rd).mono ?_; rintro e w' ⟨rfl, rfl⟩; rw [decide_eq_true H1.out]) | (go_at_call 33; refine (has_any _ out _ _ HOUT.out.rd).mono ?_; rintro e w' ⟨rfl, rfl⟩; rw [decide_eq_true H2.out]))
          go_roundw
          case rel =>
            refine ⟨k + 1, out, used, by omega, by go_num, HE.out, HOUT.out, HUSED.out, fun i hi => ?_, HCH.out, hms, hol⟩
            by_cases hik : i = k
            · subst hik; rw [HGD.out]; exact HF.out
            · exact HNO.out i (by omega)
          case measure => simp [intOf]; omega
        · have hf : firesR out rs[k] = true := by unfold firesR; rw [decide_eq_true h1, decide_eq_false h2]; rfl
          have hfr : fireR rs out = some k := fireR_of hkl HNO.out (by rw [HGD.out]; exact hf)
          have hcs := chainR_some hfr
          have hmlt := missing_lt hfr
          rw [HGD.out] at hcs hmlt
          have HCS := Lib.hid hcs; clear hcs hf hfr
          have H1 := Lib.hid h1; clear h1
          have H2 := Lib.hid h2; clear h2
          go_wp2_with (first | (go_at_call 32; refine (subset_any _ _ rs[k].1 out _ HQ.out HOUT.out.rd).mono ?_; rintro e w' ⟨rfl, rfl⟩; rw [decide_eq_true H1.out]) | (go_at_call 33; refine (has_any _ out _ _ HOUT.out.rd).mono ?_; rintro e w' ⟨rfl, rfl⟩; rw [decide_eq_false H2.out]) | (at_builtin; refine wpList_append_one rfl (.tmp 36) (.tmp 42) 22 rfl 9 i0 _ 16 Try.underlying22 hi0 hz0 hz1 hz2 rfl encS w (HE.out.alloc _) (.slice Ao no co) out rfl (HOUT.out.ext ((Ext.refl _).alloc _)) wr.heap.size 1 rs[k].2 rfl (cell_new1 _ _ _) rfl (by unfold maxLen; omega) (by omega) ?_; intro v3 w3 hown3 hE3 hg3; have hus3 : Own w3 w.heap.size 3 encI (.slice Au used.length cu) used := (HUSED.out.ext ((Ext.refl _).alloc _)).appended1 hg3 (HOUT.out.ext ((Ext.refl _).alloc _)) (by decide); clear hg3; have HUS3 := Lib.hid hus3; clear hus3; have HOWN3 := Lib.hid hown3; clear hown3; have HE3 := Lib.hid hE3; clear hE3) | (at_builtin; go_must (refine wpList_append_one rfl (.tmp 44) (.tmp 46) 54 rfl 3 i1 _ 8 Try.underlying54 hi1 hy0 hy1 hy2 rfl encI w (HE3.out.alloc _) (.slice Au used.length cu) used rfl (HUS3.out.ext ((Ext.refl _).alloc _)) w3.heap.size 1 k rfl (cell_new1 _ _ _) rfl (by unfold maxLen; omega) (by omega) ?_); intro v4 w4 hown4 hE4 hg4; have ho4 : Own w4 w.heap.size 9 encS v3 (out ++ [rs[k].2]) := (HOWN3.out.ext ((Ext.refl _).alloc _)).appended1 hg4 (HUS3.out.ext ((Ext.refl _).alloc _)) (by decide); clear hg4; have HO4 := Lib.hid ho4; clear ho4; have HOWN4 := Lib.hid hown4; clear hown4; have HE4 := Lib.hid hE4; clear hE4))
          go_roundw
          case rel =>
            refine ⟨0, out ++ [rs[k].2], used ++ [k], Nat.zero_le _, by go_num, HE4.out, HO4.out, HOWN4.out, by intro i hi; omega, ?_, ?_, ?_⟩
            · rw [HCH.out, HCS.out]; simp
            · simp; omega
            · simp; omega
          case measure =>
            have e1 := HOWN4.out.lenV
            have e2 := HUSED.out.lenV
            have hu : used.length + 1 ≤ n := by omega
            simp only [List.length_append, List.length_cons, List.length_nil] at e1
            rw [e1, e2]
            simp only [intOf]
            have h5 : n + 1 - used.length = (n + 1 - (used.length + (0 + 1))) + 1 := by omega
            rw [h5, Nat.add_mul]
            simp
            omega
      · have hf : firesR out rs[k] = false := by unfold firesR; rw [decide_eq_false h1, Bool.false_and]
        have HF := Lib.hid hf; clear hf
        have H1 := Lib.hid h1; clear h1
        go_wp2_with (first | (go_at_call 32; refine (subset_any _ _ rs[k].1 out _ HQ.out HOUT.out.rd).mono ?_; rintro e w' ⟨rfl, rfl⟩; rw [decide_eq_false H1.out]))
        go_roundw
        case rel =>
          refine ⟨k + 1, out, used, by omega, by go_num, HE.out, HOUT.out, HUSED.out, fun i hi => ?_, HCH.out, hms, hol⟩
          by_cases hik : i = k
          · subst hik; rw [HGD.out]; exact HF.out
          · exact HNO.out i (by omega)
        case measure => simp [intOf]; omega
    · have hfn : fireR rs out = none := fireR_none fun i hi => HNO.out i (by have := HL.out; omega)
      have hcn := chainR_none hfn
      have HCN := Lib.hid hcn; clear hcn hfn
      go_wp2_with (fail)
      go_ret2
      have e := HCH.out
      rw [HCN.out, List.append_nil] at e
      exact ⟨_, _, rfl, by rw [e]; exact HOUT.out, by rw [e]; exact HUSED.out, HE.out⟩
end Go.Proofs.Ythgplaledmccgaa
