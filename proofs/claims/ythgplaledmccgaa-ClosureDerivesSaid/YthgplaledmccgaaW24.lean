/-
  Contract: the law's derives.
-/
import Derived.Test.YthgplaledmccgaaW23
namespace Go.Proofs.Ythgplaledmccgaa
open Go.RowKit

set_option maxRecDepth 100000 in
set_option maxHeartbeats 2000000 in
theorem derives_any (vs vl vi : Value) (rs : List RuleN) (l : List Nm) (li : List Nat) (skip : Int) (name : Nm) (w : World) (hr : RdR w vs rs) (hl : RdS w vl l) (hi : Rd1 w encI vi li) (hll : l.length ≤ 1048576) (hli : li.length ≤ 1048576) (hin : ∀ i ∈ li, i < rs.length) :
    Calls Try.prog 36 #[vs, vl, vi, .int .i64 skip, encS name] w fun e w' => e = .returned (.bool (derS rs name skip 0 li l)) ∧ Ext w w' := by
  obtain ⟨i0, hi0, hz0, hz1, hz2⟩ := info_parts inf9
  have HV := Lib.hid hl
  obtain ⟨A, n, c, rfl, hn, -, hcm, -⟩ := hl
  obtain ⟨Ai, m, ci, rfl, hm, hmc, hcmi, hcelli⟩ := hi
  obtain ⟨Ar, nr, cr, rfl, hnr, hnrc, hcmr, hcellr⟩ := hr
  unfold maxLen at hcm hcmi hcmr
  have hn1 : n ≤ 1048576 := by omega
  have hm1 : m ≤ 1048576 := by omega
  have HN := Lib.hid hn; clear hn hll
  have HM := Lib.hid hm; clear hm hli
  have HNR := Lib.hid hnr; clear hnr
  have HCI := Lib.hid hcelli; clear hcelli
  have HCR := Lib.hid hcellr; clear hcellr
  have HIN := Lib.hid hin; clear hin
  have HONE : Hid (∀ y ∈ l, (encS y).oneCell' = true) := Lib.hid fun _ _ => rfl
  have HNN : Hid (n = ([] : List Nm).length + l.length) := Lib.hid (by rw [HN.out]; simp)
  go_enter Try.func36, Try.ntmps36
  go_wp2_with (at_builtin; go_must (refine wpList_append_src rfl (.tmp 13) (.tmp 14) 22 rfl 9 i0 _ 16 Try.underlying22 hi0 hz0 hz1 hz2 rfl encS w ((Ext.refl _).alloc _) (.slice (some ⟨w.heap.size, 0, none⟩) 0 0) [] rfl (Own.empty w _ _ _ (Nat.le_refl _)) (.slice A n c) l rfl (HV.out.ext ((Ext.refl _).alloc _)) HONE.out n HNN.out (by unfold maxLen; omega) (by omega) ?_); intro A1 c1 w1 hown1 hE1 hg1; clear hg1)
  simp only [List.nil_append] at hown1
  have HOWN1 := Lib.hid hown1; clear hown1
  have HE1 := Lib.hid hE1; clear hE1
  go_loopw [11, 12] (fun vh vk wr => ∃ (k : Nat) (hv : NmL), k ≤ m ∧ vk = .int .i64 k ∧ Ext w wr ∧ Own wr w.heap.size 9 encS vh hv ∧ hv.length ≤ n + k ∧ derS rs name skip 0 li l = derS rs name skip k (li.drop k) hv) (fun _ vk _ => m - (intOf vk).toNat)
  case atStart => exact ⟨0, l, Nat.zero_le _, rfl, HE1.out, HOWN1.out, by have := HN.out; omega, by simp⟩
  case round =>
    obtain ⟨k, hv, hk, rfl, hEr, hOr, hvl, hd⟩ := hrel
    have HER := Lib.hid hEr; clear hEr
    have HOR := Lib.hid hOr
    have HD := Lib.hid hd; clear hd
    obtain ⟨Ah, nh, ch, rfl, hnh, -, -⟩ := hOr.rd
    clear hOr
    have HNH := Lib.hid hnh; clear hnh
    by_cases hlt : k < m
    · obtain ⟨bi, offi, rfl, hbi, hci⟩ := HCI.out (by omega)
      have hkl : k < li.length := by rw [HM.out]; exact hlt
      have hc1 := HER.out.cell (hci k _ (List.getElem?_eq_getElem hkl))
      clear hci
      have hir := HIN.out _ (List.getElem_mem hkl)
      rw [List.drop_eq_getElem_cons hkl, derS] at HD
      generalize li[k] = i at *
      by_cases hs : (k : Int) = skip
      · rw [if_pos hs] at HD
        have hsb : ((k : Int) == skip) = true := by simpa using hs
        clear hs
        go_wp2_with (fail)
        go_roundw
        case rel => exact ⟨k + 1, hv, by omega, by go_num, HER.out, HOR.out, by omega, HD.out⟩
        case measure => simp [intOf]; omega
      · rw [if_neg hs] at HD
        have hsb : ((k : Int) == skip) = false := by simpa using hs
        clear hs
        obtain ⟨br, offr, rfl, hbr, hcr⟩ := HCR.out (by have := HNR.out; omega)
        obtain ⟨q, hq1, hq2, hq3⟩ := hcr i _ (List.getElem?_eq_getElem hir)
        have hq1 := HER.out.cell hq1
        have hq2 := HER.out.cell hq2
        have hirn : i < nr := by have := HNR.out; omega
        clear hcr
        have hq3' := hq3
        obtain ⟨Aq, nq, cq, rfl, -⟩ := hq3'
        have HQ := Lib.hid hq3; clear hq3
        have hgd : rs.getD i ([], []) = rs[i] := by rw [List.getD_eq_getElem?_getD, List.getElem?_eq_getElem hir]; rfl
        rw [show prm rs i = rs[i].1 from by rw [← hgd], show cnc rs i = rs[i].2 from by rw [← hgd]] at HD
        clear hgd
        by_cases hp : ∀ x ∈ rs[i].1, x ∈ hv
        · rw [if_pos hp] at HD
          have HP := Lib.hid hp; clear hp
          have hnb : nh + 1 ≤ 3000000 := by have := HNH.out; omega
          have HNB : Hid (hv.length + 1 ≤ 3000000) := Lib.hid (by have := HNH.out; omega)
          go_wp2_with (first | (go_at_call 32; refine (subset_any _ _ rs[i].1 hv _ (HQ.out.ext HER.out) HOR.out.rd).mono ?_; rintro e w' ⟨rfl, rfl⟩; rw [decide_eq_true HP.out]) | (at_builtin; go_must (refine wpList_append_one rfl (.tmp 52) (.tmp 61) 22 rfl 9 i0 _ 16 Try.underlying22 hi0 hz0 hz1 hz2 rfl encS w (HER.out.alloc _) (.slice Ah nh ch) hv rfl (HOR.out.ext ((Ext.refl _).alloc _)) wr.heap.size 1 rs[i].2 rfl (cell_new1 _ _ _) rfl (by have := HNB.out; unfold maxLen; omega) (by have := HNB.out; omega) ?_); intro v3 w3 hown3 hE3 hg3; clear hg3; have HOWN3 := Lib.hid hown3; clear hown3; have HE3 := Lib.hid hE3; clear hE3))
          go_roundw
          case rel => exact ⟨k + 1, hv ++ [rs[i].2], by omega, by go_num, HE3.out, HOWN3.out, by simp; omega, HD.out⟩
          case measure => simp [intOf]; omega
        · rw [if_neg hp] at HD
          have HP := Lib.hid hp; clear hp
          go_wp2_with (go_at_call 32; refine (subset_any _ _ rs[i].1 hv _ (HQ.out.ext HER.out) HOR.out.rd).mono ?_; rintro e w' ⟨rfl, rfl⟩; rw [decide_eq_false HP.out])
          go_ret
          exact ⟨ret_bool HD.out.symm, HER.out⟩
    · obtain rfl : k = m := by omega
      rw [List.drop_of_length_le (by have := HM.out; omega), derS] at HD
      go_wp2_with (go_at_call 33; refine (has_any _ hv _ _ HOR.out.rd).mono ?_; rintro e w' ⟨rfl, rfl⟩)
      go_ret
      exact ⟨ret_bool HD.out.symm, HER.out⟩
end Go.Proofs.Ythgplaledmccgaa
