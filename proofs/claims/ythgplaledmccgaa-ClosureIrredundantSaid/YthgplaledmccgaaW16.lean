/-
  Contract: the reference All.
-/
import Derived.Test.YthgplaledmccgaaW15
namespace Go.Proofs.Ythgplaledmccgaa
open Go.RowKit

theorem OwnSS.up {w : World} {base base' : Nat} {v : Value} {L : List (List Nm)} (h : OwnSS w base v L) (hb : base' ≤ base) : OwnSS w base' v L := by
  obtain ⟨qs, h1, h2, h3⟩ := h
  exact ⟨qs, h1.up hb, h2, fun j q l hq hl => (h3 j q l hq hl).up hb⟩
theorem OwnSS.other {w w' : World} {base base' : Nat} {v v0 : Value} {L : List (List Nm)} {qs0 : List Value} (h : OwnSS w base v L) (hg : w.grownBy w' v0.ownBlock) (hown : Own w base' 22 id v0 qs0)
    (hne : v.ownBlock = none ∨ v.ownBlock ≠ v0.ownBlock) : OwnSS w' base v L := by
  obtain ⟨qs, h1, h2, h3⟩ := h
  exact ⟨qs, World.ownsRow.kept h1 hg hne, h2, fun j q l hq hl => (h3 j q l hq hl).appended1 hg hown (by decide)⟩

set_option maxRecDepth 100000 in
set_option maxHeartbeats 2000000 in
theorem refAll_any (vu vs : Value) (u : List Nm) (rs : List RuleN) (w : World) (hu : RdS w vu u) (hr : RdR w vs rs) (hsz : u.length ≤ 10) :
    Calls Try.prog 19 #[vu, vs] w fun e w' => ∃ v, e = .returned v ∧ OwnSS w' w.heap.size v (allRef u rs) ∧ Ext w w' := by
  obtain ⟨i1, hi1, hy0, hy1, hy2⟩ := info_parts inf22
  have HU := Lib.hid hu; clear hu
  have HR := Lib.hid hr; clear hr
  have hst : OwnSS (w.alloc (.cells #[] 22)) w.heap.size (.slice (some ⟨w.heap.size, 0, none⟩) 0 0) [] :=
    ⟨[], Own.empty w _ _ _ (Nat.le_refl _), rfl, by intro j q l hq; simp at hq⟩
  have HST := Lib.hid hst; clear hst
  go_enter Try.func19, Try.ntmps19
  go_wp2_with (fail)
  refine (refSubsets_any _ u _ (HU.out.ext ((Ext.refl _).alloc _)) hsz).mono ?_
  rintro e w2 ⟨vl, rfl, hss, hE2⟩
  have hlen : (subsetsN u).length ≤ 1024 := by
    rw [subsetsN_len]
    exact Nat.le_trans (Nat.pow_le_pow_right (n := 2) (j := 10) (by decide) hsz) (by decide)
  have HST2 := Lib.hid (HST.out.ext hE2)
  have HE2 : Hid (Ext w w2) := ((Ext.refl w).alloc _).trans hE2
  have hbk : (w.alloc (.cells #[] 22)).heap.size = w.heap.size + 1 := by simp
  rw [hbk] at hss
  have hgl : ∀ g, vl.ownBlock = some g → w.heap.size < g ∧ g < w2.heap.size := by
    intro g hg
    obtain ⟨qs, h1, -⟩ := hss
    exact World.ownsRow.lt h1 g hg
  have hss' := hss
  obtain ⟨qsl, hl1, hl2, -⟩ := hss'
  obtain ⟨Al, nl, cl, rfl, hnl, hncl, hcml, -⟩ := hl1.rd
  unfold maxLen at hcml
  have hnl' : nl = (subsetsN u).length := by rw [← hnl, hl2]
  have HSS := Lib.hid hss; clear hss
  have HGL := Lib.hid hgl; clear hgl
  have HNL := Lib.hid hnl'; clear hnl' hnl hl1 hl2 hbk
  have hnl1024 : nl ≤ 1024 := by rw [HNL.out]; exact hlen
  clear hlen HST hE2
  go_wp2_with (fail)
  go_loopw [5, 7] (fun v i wr => ∃ k : Nat, k ≤ nl ∧ i = .int .i64 k ∧ Ext w wr ∧ w2.heap.size ≤ wr.heap.size ∧ OwnSS wr w.heap.size v (((subsetsN u).take k).filter fun l => closedN rs l) ∧
    OwnSS wr (w.heap.size + 1) (.slice Al nl cl) (subsetsN u) ∧ ∀ g, v.ownBlock = some g → g = w.heap.size ∨ w2.heap.size ≤ g) (fun _ i _ => nl - (intOf i).toNat)
  case atStart => exact ⟨0, Nat.zero_le _, rfl, HE2.out, Nat.le_refl _, by simpa using HST2.out, HSS.out, by intro g hg; simp [Value.ownBlock] at hg; exact .inl hg.symm⟩
  case round =>
    obtain ⟨k, hk, rfl, hE, hsz2, hout, hall, hblk⟩ := hrel
    have HE := Lib.hid hE; clear hE
    have hout' := hout
    obtain ⟨qso, hqo1, hqo2, hqo3⟩ := hout'
    have hqol : qso.length ≤ k := by
      rw [hqo2]
      exact Nat.le_trans (List.length_filter_le _ _) (List.length_take_le _ _)
    obtain ⟨Ao, no, co, rfl, -⟩ := hqo1.rd
    have HOUT := Lib.hid hout; clear hout
    have HALL := Lib.hid hall
    have HBLK := Lib.hid hblk; clear hblk
    by_cases hlt : k < nl
    · have hkl : k < (subsetsN u).length := by rw [← HNL.out]; exact hlt
      obtain ⟨qs, h1, h2, h3⟩ := hall
      obtain ⟨A', n', c', he, hn', -, -, hcell⟩ := h1.rd
      injection he with e1 e2 e3
      subst e1 e2 e3
      obtain ⟨b2, off2, rfl, hb2, hcc⟩ := hcell (by omega)
      have hkq : k < qs.length := by rw [h2]; exact hkl
      have hqk := h3 k qs[k] (subsetsN u)[k] (List.getElem?_eq_getElem hkq) (List.getElem?_eq_getElem hkl)
      obtain ⟨Aq, nq, cq, hq, -⟩ := hqk.rd
      have hcq : wr.cell? ⟨b2, off2 + k, none⟩ = some (.slice Aq nq cq) := by rw [← hq]; exact hcc k qs[k] (List.getElem?_eq_getElem hkq)
      rw [hq] at hqk
      have htk := List.take_succ_eq_append_getElem hkl
      have HQK := Lib.hid hqk; clear hqk hq
      have HTK := Lib.hid htk; clear htk hcc hcell
      cases hcl : closedN rs (subsetsN u)[k] with
      | false =>
        have HCL := Lib.hid hcl; clear hcl hqo1 hqo2 hqo3 h1 h2 h3
        go_wp2_with (go_at_call 31; refine (refClosed_any _ _ rs _ _ (HR.out.ext HE.out) HQK.out.rd).mono ?_; rintro e w' ⟨rfl, rfl⟩; rw [HCL.out])
        go_roundw
        case rel =>
          refine ⟨k + 1, by omega, by go_num, HE.out, hsz2, ?_, HALL.out, HBLK.out⟩
          rw [HTK.out, List.filter_append]
          simpa [HCL.out] using HOUT.out
        case measure => simp [intOf]; omega
      | true =>
        have HCL := Lib.hid hcl; clear hcl
        have HQO1 := Lib.hid hqo1; clear hqo1
        have HQO2 := Lib.hid hqo2; clear hqo2
        have HQO3 := Lib.hid hqo3; clear hqo3
        clear h1 h2 h3
        have hone : ∀ y ∈ [Value.slice Aq nq cq], (id y).oneCell' = true := by
          intro y hy
          rw [List.mem_singleton] at hy
          rw [hy]; rfl
        have HONE := Lib.hid hone; clear hone
        have HNN : Hid (qso.length + 1 = qso.length + [Value.slice Aq nq cq].length) := rfl
        go_wp2_with (first | (go_at_call 31; refine (refClosed_any _ _ rs _ _ (HR.out.ext HE.out) HQK.out.rd).mono ?_; rintro e w' ⟨rfl, rfl⟩; rw [HCL.out]) | (at_builtin; go_must (refine wpList_append_src_at rfl (.tmp 23) (.tmp 28) 28 rfl 22 i1 _ 24 Try.underlying28 hi1 hy0 hy1 hy2 rfl id w (HE.out.alloc _) (.slice Ao no co) qso rfl (HQO1.out.ext ((Ext.refl _).alloc _)) (.slice (some ⟨wr.heap.size, 0, none⟩) 1 1) [.slice Aq nq cq] rfl (Rd1.new1 wr id _ _) HONE.out (qso.length + 1) HNN.out (by unfold maxLen; omega) (by omega) ?c3)))
        case c3 =>
          intro A3 cap3 w3 hown3 hE3 hg3 hat3
          have hout3 : OwnSS w3 w.heap.size (.slice A3 (qso.length + 1) cap3) (((subsetsN u).take (k + 1)).filter fun l => closedN rs l) := by
            rw [HTK.out, List.filter_append]
            have hkeep : ∀ (q : Value) (l : List Nm) (B : Nat), Own wr B 9 encS q l → Own w3 B 9 encS q l := fun q l B h => (h.ext ((Ext.refl _).alloc _)).appended1 hg3 (HQO1.out.ext ((Ext.refl _).alloc _)) (by decide)
            have hfl : [(subsetsN u)[k]].filter (fun l => closedN rs l) = [(subsetsN u)[k]] := by simp [HCL.out]
            rw [hfl]
            refine ⟨qso ++ [.slice Aq nq cq], hown3, by rw [List.length_append, HQO2.out, List.length_append]; rfl, fun j q l hq hl => ?_⟩
            by_cases hj : j < qso.length
            · rw [List.getElem?_append_left hj] at hq
              rw [List.getElem?_append_left (by rw [← HQO2.out]; exact hj)] at hl
              exact hkeep _ _ _ (HQO3.out j q l hq hl)
            · rw [List.getElem?_append_right (by omega)] at hq
              rw [List.getElem?_append_right (by rw [← HQO2.out]; omega), ← HQO2.out] at hl
              have h0 : j - qso.length = 0 := by
                have := (List.getElem?_eq_some_iff.1 hq).1
                simp at this; omega
              rw [h0] at hq hl
              simp only [List.getElem?_cons_zero, Option.some.injEq] at hq hl
              rw [← hq, ← hl]
              exact hkeep _ _ _ (HQK.out.up (Nat.le_succ _))
          have hall3 : OwnSS w3 (w.heap.size + 1) (.slice (some ⟨b2, off2, none⟩) nl cl) (subsetsN u) := by
            refine (HALL.out.ext ((Ext.refl _).alloc _)).other hg3 (HQO1.out.ext ((Ext.refl _).alloc _)) (.inr fun heq => ?_)
            obtain ⟨hg1, hg2⟩ := HGL.out b2 rfl
            have hb : (Value.slice Ao no co).ownBlock = some b2 := heq.symm.trans rfl
            rcases HBLK.out b2 hb with h | h <;> omega
          have hblk3 : ∀ g, (Value.slice A3 (qso.length + 1) cap3).ownBlock = some g → g = w.heap.size ∨ w2.heap.size ≤ g := by
            intro g hg
            rcases hat3 with h | h
            · exact HBLK.out g (by rw [← h]; exact hg)
            · rw [h] at hg
              right
              simp at hg
              omega
          have hsz3 : w2.heap.size ≤ w3.heap.size := Nat.le_trans hsz2 (Nat.le_trans (by simp) hg3.size)
          have HOUT3 := Lib.hid hout3; clear hout3
          have HALL3 := Lib.hid hall3; clear hall3
          have HBLK3 := Lib.hid hblk3; clear hblk3 hat3 hg3 hown3
          have HE3 := Lib.hid hE3; clear hE3
          go_wp2_with (fail)
          go_roundw
          case rel => exact ⟨k + 1, by omega, by go_num, HE3.out, hsz3, HOUT3.out, HALL3.out, HBLK3.out⟩
          case measure => simp [intOf]; omega
    · go_wp2_with (fail)
      go_ret
      have ho := HOUT.out
      rw [List.take_of_length_le (by have := HNL.out; omega)] at ho
      exact ⟨_, rfl, ho, HE.out⟩
end Go.Proofs.Ythgplaledmccgaa
