/-
  Contract: the reference Why.
-/
import Derived.Test.YthgplaledmccgaaW22
import Derived.Test.YthgplaledmccgaaSpec16
namespace Go.Proofs.Ythgplaledmccgaa
open Go.RowKit

def RWhyPost (rs : List RuleN) (l : List Nm) (name : Nm) (w : World) (e : Ending) (w' : World) : Prop :=
  (name ∈ (chainR rs l).1 ∧ ∃ v, e = .returned (.tuple #[v, .bool true]) ∧ Rd1 w' encI v (whyR rs l name) ∧ Ext w w') ∨
  (¬ name ∈ (chainR rs l).1 ∧ e = .returned (.tuple #[.slice none 0 0, .bool false]) ∧ Ext w w')

theorem backR_len (rs : List RuleN) (st : List Nat) (nd : NmL) (out : List Nat) : (backR rs st nd out).length ≤ out.length + st.length := by
  induction st generalizing nd out with
  | nil => simp [backR]
  | cons p t ih =>
    rw [backR]
    split
    · refine Nat.le_trans (ih _ _) ?_
      simp; omega
    · refine Nat.le_trans (ih _ _) ?_
      simp

theorem chainRF_len (rs : List RuleN) (f : Nat) (h : NmL) : (chainRF rs f h).2.length ≤ f := by
  induction f generalizing h with
  | zero => simp [chainRF]
  | succ f ih =>
    rw [chainRF]
    split
    · simp
    · simp only [List.length_cons]; exact Nat.succ_le_succ (ih _)

set_option maxRecDepth 100000 in
set_option maxHeartbeats 2000000 in
theorem refWhy_any (vs vl : Value) (rs : List RuleN) (l : List Nm) (name : Nm) (w : World) (hr : InR w vs rs) (hl : RdS w vl l) (hll : l.length ≤ 1048576) (hrp : ∀ r ∈ rs, r.1.length ≤ 1000) (hrl : rs.length ≤ 1000) :
    Calls Try.prog 34 #[vs, vl, encS name] w (RWhyPost rs l name w) := by
  obtain ⟨i0, hi0, hz0, hz1, hz2⟩ := info_parts inf9
  obtain ⟨i1, hi1, hy0, hy1, hy2⟩ := info_parts inf3
  obtain ⟨-, -, hul⟩ := chainRF_valid rs rs.length l
  have HUL : Hid (∀ i ∈ (chainR rs l).2, i < rs.length) := hul
  clear hul
  have HR := Lib.hid hr; clear hr
  have HL := Lib.hid hl; clear hl
  have HLL := Lib.hid hll; clear hll
  have HRP := Lib.hid hrp; clear hrp
  have HRL := Lib.hid hrl; clear hrl
  go_enter Try.func34, Try.ntmps34
  go_wp2_with (fail)
  refine (refChain_any vs vl rs l _ HR.out.rd HL.out HR.out.sz HLL.out).mono ?_
  rintro e w1 ⟨v1, v2, rfl, hO1, hO2, hE1⟩
  have HE1 := Lib.hid hE1; clear hE1
  have hlen := chainRF_len rs rs.length l
  have hlen1 : (chainR rs l).1.length ≤ l.length + rs.length := by
    have := (chainRF_valid rs rs.length l).2.1
    unfold chainR
    rw [this]
    simp
    omega
  have HLEN : Hid ((chainR rs l).2.length ≤ 1000) := Lib.hid (by unfold chainR; have := HRL.out; omega)
  clear hlen
  have hr1 := hO1.rd
  have hr2 := hO2.rd
  clear hO1 hO2
  have HR1 := Lib.hid hr1; clear hr1
  obtain ⟨A2, m, c2, rfl, hm, hmc, hcm, hcell⟩ := hr2
  unfold maxLen at hcm
  have hm1 : m ≤ 1000 := by have := HLEN.out; omega
  have HM := Lib.hid hm; clear hm
  have HC := Lib.hid hcell; clear hcell
  by_cases hin : name ∈ (chainR rs l).1
  · have HIN := Lib.hid hin; clear hin
    have hone : ∀ x : Nm, (encS x).oneCell' = true := fun _ => rfl
    have HONE := Lib.hid hone; clear hone
    go_wp2_with (go_at_call 33; refine (has_any _ _ _ _ HR1.out).mono ?_; rintro e w' ⟨rfl, rfl⟩; rw [decide_eq_true HIN.out])
    have hO4 : Own (w1.alloc (.cells #[encS name] 9)) w1.heap.size 9 encS (.slice (some ⟨w1.heap.size, 0, none⟩) 1 1) [name] := Own.lit _ _ _ _ _ _ _ rfl rfl (Nat.le_refl _) (by simp [maxLen])
    have hO5 : Own ((w1.alloc (.cells #[encS name] 9)).alloc (.cells #[] 3)) w1.heap.size 3 encI (.slice (some ⟨w1.heap.size + 1, 0, none⟩) 0 0) [] := by
      have := Own.empty (w1.alloc (.cells #[encS name] 9)) w1.heap.size 3 encI (by simp)
      simpa using this
    have HO4 := Lib.hid (hO4.ext ((Ext.refl _).alloc (.cells #[] 3))); clear hO4
    have hE5 : Ext w1 ((w1.alloc (.cells #[encS name] 9)).alloc (.cells #[] 3)) := ((Ext.refl _).alloc _).alloc _
    have HO5 := Lib.hid hO5; clear hO5
    have HE5 := Lib.hid hE5; clear hE5
    go_loopw [10, 11, 12] (fun vn vo vk wr => ∃ (k : Nat) (nd : NmL) (out : List Nat), k ≤ m ∧ vk = .int .i64 ((k : Int) - 1) ∧ Ext w1 wr ∧ Own wr w1.heap.size 9 encS vn nd ∧ Own wr w1.heap.size 3 encI vo out ∧
      backR rs (chainR rs l).2.reverse [name] [] = backR rs ((chainR rs l).2.take k).reverse nd out ∧ nd.length + 1000 * k ≤ 1 + 1000 * m ∧ out.length + k ≤ m) (fun _ _ vk _ => (intOf vk + 1).toNat)
    case atStart => exact ⟨m, [name], [], Nat.le_refl _, rfl, HE5.out, HO4.out, HO5.out, by rw [List.take_of_length_le (by have := HM.out; omega)], by simp, by simp⟩
    case round =>
      obtain ⟨k, nd, out, hk, rfl, hEr, hOn, hOo, hbk, hnl, hol⟩ := hrel
      have HER := Lib.hid hEr; clear hEr
      have HON := Lib.hid hOn
      have HOO := Lib.hid hOo
      have HBK := Lib.hid hbk; clear hbk
      obtain ⟨An, nn, cn, rfl, hnn, -, -⟩ := hOn.rd
      obtain ⟨Ao, no, co, rfl, hno, -, -⟩ := hOo.rd
      clear hOn hOo
      have HNN := Lib.hid hnn; clear hnn
      have HNO := Lib.hid hno; clear hno
      cases k with
      | zero =>
        have hz : ((0 : Nat) : Int) - 1 = -1 := by omega
        rw [hz]
        clear hz
        go_wp2_with (fail)
        go_ret2
        refine .inl ⟨HIN.out, _, rfl, ?_, HE1.out.trans HER.out⟩
        have e := HBK.out
        rw [List.take_zero] at e
        unfold whyR
        rw [e]
        exact HOO.out.rd
      | succ j =>
        have hj : ((j + 1 : Nat) : Int) - 1 = (j : Int) := by omega
        rw [hj]
        clear hj
        obtain ⟨bs, offs, rfl, hbs, hcs⟩ := HC.out (by omega)
        have hjs : j < (chainR rs l).2.length := by rw [HM.out]; omega
        have hp0 := hcs j _ (List.getElem?_eq_getElem hjs)
        have HP1 := Lib.hid hp0
        have hp1 := HER.out.cell hp0
        clear hp0
        have hjm : j < m := by omega
        clear hcs
        have hq1 := HUL.out _ (List.getElem_mem hjs)
        have htk : ((chainR rs l).2.take (j + 1)).reverse = (chainR rs l).2[j] :: ((chainR rs l).2.take j).reverse := by rw [List.take_succ_eq_append_getElem hjs]; simp
        rw [htk, backR] at HBK
        clear htk
        generalize (chainR rs l).2[j] = i at *
        have hgd : rs.getD i ([], []) = rs[i] := by rw [List.getD_eq_getElem?_getD, List.getElem?_eq_getElem hq1]; rfl
        rw [hgd] at HBK
        have HGD := Lib.hid hgd; clear hgd
        have hrr := HR.out.rd.ext (HE1.out.trans HER.out)
        obtain ⟨Ar, nr, cr, rfl, hlr, hnc, hcr, hcl0⟩ := hrr
        unfold maxLen at hcr
        obtain ⟨br, offr, rfl, hbr, hcl⟩ := hcl0 (by omega)
        obtain ⟨q, hr1, hr2, hr3⟩ := hcl i _ (List.getElem?_eq_getElem hq1)
        have hir : i < nr := by omega
        have hpl := HRP.out _ (List.getElem_mem hq1)
        clear hcl hcl0
        have HLR := Lib.hid hlr; clear hlr
        have hr3' := hr3
        obtain ⟨Aq, nq, cq, rfl, hlq, -, hcq, -⟩ := hr3'
        have HLQ := Lib.hid hlq; clear hlq
        have HQ := Lib.hid hr3; clear hr3
        by_cases hn : rs[i].2 ∈ nd
        · have HN := Lib.hid hn
          rw [if_pos hn] at HBK
          clear hn
          have hnb : nn + nq ≤ 2000000 := by have := HNN.out; have := HLQ.out; omega
          have hob : no + 1 ≤ 2000000 := by have := HNO.out; omega
          have HNB := Lib.hid hnb; clear hnb
          have HOB := Lib.hid hob; clear hob
          have HNN2 : Hid (nn + nq = nd.length + rs[i].1.length) := Lib.hid (by rw [HNN.out, HLQ.out])
          have HNO2 : Hid (no + 1 = [i].length + out.length) := Lib.hid (by rw [HNO.out]; simp; omega)
          have HONE2 : Hid (∀ y ∈ rs[i].1, (encS y).oneCell' = true) := Lib.hid fun _ _ => rfl
          have HONE3 : Hid (∀ y ∈ out, (encI y).oneCell' = true) := Lib.hid fun _ _ => rfl
          have HJ : Hid (wr.cell? ⟨bs, offs + j, none⟩ = some (encI i)) := Lib.hid hp1
          go_wp2_with (first | (go_at_call 33; refine (has_any _ nd _ _ (HON.out.rd.ext ((Ext.refl _).alloc _))).mono ?_; rintro e w' ⟨rfl, rfl⟩; rw [decide_eq_true HN.out]) | (at_builtin; refine wpList_append_src rfl (.tmp 45) (.tmp 47) 22 rfl 9 i0 _ 16 Try.underlying22 hi0 hz0 hz1 hz2 rfl encS w1 (HER.out.alloc _) (.slice An nn cn) nd rfl (HON.out.ext ((Ext.refl _).alloc _)) (.slice Aq nq cq) rs[i].1 rfl (HQ.out.ext ((Ext.refl _).alloc _)) HONE2.out (nn + nq) HNN2.out (by have := HNB.out; unfold maxLen; omega) (by have := HNB.out; omega) ?_; intro A5 c5 w5 hown5 hE5 hg5; have hoo5 : Own w5 w1.heap.size 3 encI (.slice Ao no co) out := (HOO.out.ext ((Ext.refl _).alloc _)).appended1 hg5 (HON.out.ext ((Ext.refl _).alloc _)) (by decide); clear hg5; have HOO5 := Lib.hid hoo5; clear hoo5; have HOWN5 := Lib.hid hown5; clear hown5; have hp5 := hE5.cell HP1.out; clear hp1; have HE5 := Lib.hid hE5; clear hE5) | (at_builtin; go_must (refine wpList_append_src rfl (.tmp 53) (.tmp 54) 54 rfl 3 i1 _ 8 Try.underlying54 hi1 hy0 hy1 hy2 rfl encI w5 ((Ext.refl _).alloc _) (.slice (some ⟨w5.heap.size, 0, none⟩) 1 1) [i] rfl (Own.lit _ _ _ _ _ _ _ rfl rfl (Nat.le_refl _) (by simp [maxLen])) (.slice Ao no co) out rfl (HOO5.out.rd.ext ((Ext.refl _).alloc _)) HONE3.out (no + 1) HNO2.out (by have := HOB.out; unfold maxLen; omega) (by have := HOB.out; omega) ?_); intro A6 c6 w6 hown6 hE6 hg6; clear hg6; have HOWN6 := Lib.hid hown6; clear hown6; have HE6 := Lib.hid hE6; clear hE6))
          go_roundw
          case rel => exact ⟨j, nd ++ rs[i].1, [i] ++ out, by omega, by go_num, HE5.out.trans HE6.out, HOWN5.out.ext HE6.out, HOWN6.out.up HE5.out.size, HBK.out, by have := HLQ.out; simp; omega, by simp; omega⟩
          case measure => simp [intOf]
        · have HN := Lib.hid hn
          rw [if_neg hn] at HBK
          clear hn
          go_wp2_with (go_at_call 33; refine (has_any _ nd _ _ (HON.out.rd.ext ((Ext.refl _).alloc _))).mono ?_; rintro e w' ⟨rfl, rfl⟩; rw [decide_eq_false HN.out])
          go_roundw
          case rel => exact ⟨j, nd, out, by omega, by go_num, HER.out.alloc _, HON.out.ext ((Ext.refl _).alloc _), HOO.out.ext ((Ext.refl _).alloc _), HBK.out, by omega, by omega⟩
          case measure => simp [intOf]
  · have HIN := Lib.hid hin; clear hin
    go_wp2_with (go_at_call 33; refine (has_any _ _ _ _ HR1.out).mono ?_; rintro e w' ⟨rfl, rfl⟩; rw [decide_eq_false HIN.out])
    go_ret2
    exact .inr ⟨HIN.out, rfl, HE1.out⟩
end Go.Proofs.Ythgplaledmccgaa
