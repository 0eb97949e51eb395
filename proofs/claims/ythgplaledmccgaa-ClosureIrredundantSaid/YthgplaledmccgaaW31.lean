/-
  Contracts: the reference without and Reduce.
-/
import Derived.Test.YthgplaledmccgaaW30
import Derived.Test.YthgplaledmccgaaMem5
import Derived.Deep.RegionLaw
import Derived.BigQuiet
import Derived.Deep.DeepCutAuto
namespace Go.Proofs.Ythgplaledmccgaa
open Go.RowKit

/-- the tail of a slice from place k on -/
theorem Rd1.suf {α : Type} {w : World} {enc : α → Value} {b off n c : Nat} {l : List α} (h : Rd1 w enc (.slice (some ⟨b, off, none⟩) n c) l) {k : Nat} (hk : k ≤ n) :
    Rd1 w enc (.slice (some ⟨b, off + k, none⟩) (n - k) (c - k)) (l.drop k) := by
  obtain ⟨hl, h1, h2, h3⟩ := h.open_
  refine ⟨_, _, _, rfl, by simp; omega, by omega, by omega, fun hn => ?_⟩
  obtain ⟨b', off', hA, hb, hc⟩ := h3 (by omega)
  injection hA with hA
  injection hA with e1 e2
  subst e1 e2
  refine ⟨b, off + k, rfl, hb, fun j x hj => ?_⟩
  rw [List.getElem?_drop] at hj
  have := hc (k + j) x hj
  rw [show off + k + j = off + (k + j) by omega]
  exact this
theorem erase_filter {l : NmL} (h : ascB l = true) {j : Nat} {x : List UInt8} (hj : l[j]? = some x) : l.take j ++ l.drop (j + 1) = l.filter fun y => !decide (y = x) := by
  obtain ⟨hlt, he⟩ := List.getElem?_eq_some_iff.1 hj
  have hp := asc_pair h
  conv => rhs; rw [← List.take_append_drop j l, List.drop_eq_getElem_cons hlt, List.filter_append, List.filter_cons, he]
  simp only [decide_true, Bool.not_true]
  have e1 : (l.take j).filter (fun y => !decide (y = x)) = l.take j := by
    rw [List.filter_eq_self]
    intro y hy
    obtain ⟨i, hi, hy⟩ := List.getElem_of_mem hy
    rw [List.getElem_take] at hy
    simp only [List.length_take] at hi
    have := List.pairwise_iff_getElem.1 hp i j (by omega) hlt (by omega)
    rw [hy, he] at this
    simp [bl_ne this]
  have e2 : (l.drop (j + 1)).filter (fun y => !decide (y = x)) = l.drop (j + 1) := by
    rw [List.filter_eq_self]
    intro y hy
    obtain ⟨i, hi, hy⟩ := List.getElem_of_mem hy
    rw [List.getElem_drop] at hy
    simp only [List.length_drop] at hi
    have := List.pairwise_iff_getElem.1 hp j (j + 1 + i) hlt (by omega) (by omega)
    rw [hy, he] at this
    have hne := bl_ne this
    simpa using fun e => hne (Eq.symm e)
  rw [e1, e2]
  rfl

set_option maxRecDepth 100000 in
set_option maxHeartbeats 1600000 in
theorem without_any (v : Value) (l : List Nm) (k : Nat) (w : World) (h : RdS w v l) (hk : k < l.length) (hm : l.length ≤ 1048576) :
    Calls Try.prog 70 #[v, .int .i64 (k : Int)] w fun e w' => ∃ v', e = .returned v' ∧ Own w' w.heap.size 9 encS v' (l.take k ++ l.drop (k + 1)) ∧ Ext w w' := by
  obtain ⟨i0, hi0, hz0, hz1, hz2⟩ := info_parts inf9
  have H := Lib.hid h
  obtain ⟨A, n, c, rfl, hl, hnc, hcm, hcell⟩ := h
  unfold maxLen at hcm
  have hn : n ≤ 1048576 := by omega
  have hkn : k < n := by omega
  obtain ⟨b, off, rfl, hb, -⟩ := hcell (by omega)
  have HL := Lib.hid hl
  clear hl hcell hk hm
  have hkc : k ≤ c := by omega
  have hk1 : k + 1 ≤ n := by omega
  have hk2 : k + 1 ≤ c := by omega
  have hkcI : (k : Int) ≤ (c : Int) := by omega
  have hk1I : (k : Int) + 1 ≤ (n : Int) := by omega
  have hk3 : (0 : Int) ≤ (k : Int) := by omega
  have hk4 : (0 : Int) ≤ (k : Int) + 1 := by omega
  have hw1 : IntKind.i64.wrap ((k : Int) + 1) = ((k + 1 : Nat) : Int) := by rw [IntWalk.i64_in _ (by omega)]; omega
  have HP := Lib.hid (H.out.pre (i := k) (by omega))
  have HONE : Hid (∀ (ll : List Nm), ∀ y ∈ ll, (encS y).oneCell' = true) := Lib.hid fun _ _ _ => rfl
  have HN1 : Hid (k = ([] : List Nm).length + (l.take k).length) := Lib.hid (by simp; have := HL.out; omega)
  have HN2 : Hid (k + (n - (k + 1)) = ([] ++ l.take k : List Nm).length + (l.drop (k + 1)).length) := Lib.hid (by simp; have := HL.out; omega)
  have hlt : k + (n - (k + 1)) ≤ 1048576 := by omega
  have HLT := Lib.hid hlt; clear hlt
  by_cases hcc : c = k + 1
  · subst hcc
    obtain rfl : n = k + 1 := by omega
    have HS : Hid (Rd1 w encS (.slice (some ⟨b, off, none⟩) 0 0) (l.drop (k + 1))) := Lib.hid ⟨_, _, _, rfl, by simp; have := HL.out; omega, Nat.le_refl _, by unfold maxLen; omega, fun h0 => by omega⟩
    have hk5 : (k : Int) ≤ (k : Int) + 1 := by omega
    have HN3 : Hid (k = ([] ++ l.take k : List Nm).length + (l.drop (k + 1)).length) := Lib.hid (by simp; have := HL.out; omega)
    go_enter Try.func70, Try.ntmps70
    go_wp2_with (fail)
    go_region_law (first | (refine step_append_src rfl (.tmp 5) (.tmp 8) 22 rfl 9 i0 _ 16 Try.underlying22 hi0 hz0 hz1 hz2 rfl encS w ((Ext.refl _).drew.alloc _) (.slice (some ⟨w.heap.size, 0, none⟩) 0 0) [] rfl (Own.empty _ _ _ _ (Nat.le_refl _)) _ (l.take k) rfl (HP.out.ext ((Ext.refl _).drew.alloc _)) (HONE.out _) k HN1.out (by unfold maxLen; omega) (by omega) ?_; intro A1 cap1 w1 hown1 hE1 hg1; clear hg1; have HOWN1 := Lib.hid hown1; clear hown1; have HE1 := Lib.hid hE1; clear hE1) | (refine step_append_src rfl (.tmp 9) (.tmp 13) 22 rfl 9 i0 _ 16 Try.underlying22 hi0 hz0 hz1 hz2 rfl encS w HE1.out (.slice A1 k cap1) ([] ++ l.take k) rfl HOWN1.out _ (l.drop (k + 1)) rfl (HS.out.ext HE1.out) (HONE.out _) k HN3.out (by unfold maxLen; omega) (by omega) ?_; intro A2 cap2 w2 hown2 hE2 hg2; clear hg2; have HOWN2 := Lib.hid hown2; clear hown2; have HE2 := Lib.hid hE2; clear hE2))
    all_goals
      go_wp2_with (fail)
      go_ret
      have hfin := HOWN2.out
      rw [List.nil_append] at hfin
      exact ⟨_, rfl, hfin, HE2.out⟩
  · have hcc2 : k + 1 < c := by omega
    have HS := Lib.hid (H.out.suf (k := k + 1) hk1)
    have hcb : (c == k + 1) = false := by simpa using hcc
    go_enter Try.func70, Try.ntmps70
    go_wp2_with (fail)
    go_region_law (first | (refine step_append_src rfl (.tmp 5) (.tmp 8) 22 rfl 9 i0 _ 16 Try.underlying22 hi0 hz0 hz1 hz2 rfl encS w ((Ext.refl _).drew.alloc _) (.slice (some ⟨w.heap.size, 0, none⟩) 0 0) [] rfl (Own.empty _ _ _ _ (Nat.le_refl _)) _ (l.take k) rfl (HP.out.ext ((Ext.refl _).drew.alloc _)) (HONE.out _) k HN1.out (by unfold maxLen; omega) (by omega) ?_; intro A1 cap1 w1 hown1 hE1 hg1; clear hg1; have HOWN1 := Lib.hid hown1; clear hown1; have HE1 := Lib.hid hE1; clear hE1) | (refine step_append_src rfl (.tmp 9) (.tmp 13) 22 rfl 9 i0 _ 16 Try.underlying22 hi0 hz0 hz1 hz2 rfl encS w HE1.out (.slice A1 k cap1) ([] ++ l.take k) rfl HOWN1.out _ (l.drop (k + 1)) rfl (HS.out.ext HE1.out) (HONE.out _) (k + (n - (k + 1))) HN2.out (by have := HLT.out; unfold maxLen; omega) (by have := HLT.out; omega) ?_; intro A2 cap2 w2 hown2 hE2 hg2; clear hg2; have HOWN2 := Lib.hid hown2; clear hown2; have HE2 := Lib.hid hE2; clear hE2))
    all_goals
      go_wp2_with (fail)
      go_ret
      have hfin := HOWN2.out
      rw [List.nil_append] at hfin
      exact ⟨_, rfl, hfin, HE2.out⟩

theorem fold_take_succR {u : NmL} {rs : List RuleN} {th : List UInt8} {l : NmL} {t : Nat} (ht : t < l.length) (sh : NmL) :
    (l.take (t + 1)).foldl (shortStepR u rs th) sh = shortStepR u rs th ((l.take t).foldl (shortStepR u rs th) sh) l[t] := by
  rw [List.take_succ_eq_append_getElem ht, List.foldl_append]; rfl
theorem shortStepR_none {u : NmL} {rs : List RuleN} {th : List UInt8} {sh : NmL} {x : List UInt8} (h : ∀ y ∈ sh, y ≠ x) : shortStepR u rs th sh x = sh := by
  have e : (sh.filter fun y => !decide (y = x)) = sh := List.filter_eq_self.2 fun y hy => by simp [h y hy]
  unfold shortStepR
  rw [e]; split <;> rfl

theorem one_of {w : World} {qs : List (Value × Nm)} {ss : List RuleN} (hl : qs.length = ss.length) (hq : ∀ (j : Nat) (q : Value × Nm) (r : RuleN), qs[j]? = some q → ss[j]? = some r → RdS w q.1 r.1) : ∀ y ∈ qs, ∀ v ∈ encQS' y, v.oneCell' = true := by
  intro y hy v hv
  obtain ⟨j, hj, rfl⟩ := List.getElem_of_mem hy
  obtain ⟨A, n, c, e, -⟩ := hq j _ _ (List.getElem?_eq_getElem hj) (List.getElem?_eq_getElem (by omega))
  simp only [encQS', List.mem_cons, List.not_mem_nil, or_false] at hv
  rcases hv with rfl | rfl
  · rw [e]; rfl
  · rfl
/-- rules of a row of two cells each that can be read -/
theorem rdR_ofN {w : World} {v : Value} {rs : List RuleN} {qs : List (Value × Nm)} (h : RdN w 2 encQS' v qs) (hn : qs.map (·.2) = rs.map (·.2))
    (hq : ∀ (j : Nat) (p : Value × Nm) (r : RuleN), qs[j]? = some p → rs[j]? = some r → RdS w p.1 r.1) : RdR w v rs := by
  obtain ⟨A, m, c, hv, hm, hmc, hcm, hcell⟩ := h
  have hlen : qs.length = rs.length := by have := congrArg List.length hn; simpa using this
  refine ⟨A, m, c, hv, by omega, hmc, hcm, fun h0 => ?_⟩
  obtain ⟨b, off, hA, hb, hc⟩ := hcell h0
  refine ⟨b, off, hA, hb, fun j r hr => ?_⟩
  have hj : j < qs.length := by rw [hlen]; exact (List.getElem?_eq_some_iff.1 hr).1
  have hqj := List.getElem?_eq_getElem hj
  have h2 : (qs[j]).2 = r.2 := by
    have := congrArg (·[j]?) hn
    simp only [List.getElem?_map, hqj, hr, Option.map_some, Option.some.injEq] at this
    exact this
  refine ⟨qs[j].1, by simpa using hc j _ hqj 0 _ rfl, ?_, hq j _ r hqj hr⟩
  have := hc j _ hqj 1 _ rfl
  rw [h2] at this
  simpa [Nat.add_assoc] using this
theorem mem_erase {α : Type} {l : List α} {i j : Nat} {x : α} (h : (l.take i ++ l.drop (i + 1))[j]? = some x) (hi : i < l.length) : l[if j < i then j else j + 1]? = some x := by
  by_cases hj : j < i
  · rw [if_pos hj]
    rw [List.getElem?_append_left (by simp; omega), List.getElem?_take, if_pos hj] at h
    exact h
  · rw [if_neg hj]
    have hl : (l.take i).length = i := by simp; omega
    rw [List.getElem?_append_right (by omega), hl, List.getElem?_drop] at h
    rw [show i + 1 + (j - i) = j + 1 by omega] at h
    exact h

set_option maxRecDepth 100000 in
set_option maxHeartbeats 8000000 in
theorem refReduce_any (vu vs : Value) (u : List Nm) (rs : List RuleN) (w : World) (hu : InU w vu u) (hr : InR w vs rs) (h0 : checkE u rs = 0) :
    Calls Try.prog 41 #[vu, vs] w fun e w' => ∃ v, e = .returned v ∧ RdR w' v (reduceR u rs) ∧ Ext w w' := by
  obtain ⟨i0, hi0, hz0, hz1, hz2⟩ := info_parts inf9
  obtain ⟨i3, hi3, hw0, hw1, hw2⟩ := info_parts inf35b
  have HOK := Lib.hid (checkE_ok.1 h0).2.2
  have HU := Lib.hid hu; clear hu h0
  have HR := Lib.hid hr
  obtain ⟨A, n, c, rfl, hl, hnc, hcm, hcell⟩ := hr.rd
  unfold maxLen at hcm
  have hn1 : n ≤ 1048576 := by have := hr.sz; omega
  have HPR := Lib.hid hr.pr
  clear hr
  have HL := Lib.hid hl; clear hl
  have HC := Lib.hid hcell; clear hcell
  have hne : OwnN (w.alloc (.cells #[] 35)) w.heap.size 35 2 encQS' (.slice (some ⟨w.heap.size, 0, none⟩) 0 0) [] := by
    have := World.ownsRow_made (e := 35) (base := w.heap.size) (size := 2) w #[] 0 (Nat.le_refl _) (Nat.zero_le _) rfl
    simpa [OwnN] using this
  have HNE := Lib.hid hne; clear hne
  go_enter Try.func41, Try.ntmps41
  go_wp2_with (fail)
  go_loopw [5, 6] (fun vo vi wr => ∃ (i : Nat) (qo : List (Value × Nm)), i ≤ n ∧ vi = .int .i64 i ∧ Ext w wr ∧ OwnN wr w.heap.size 35 2 encQS' vo qo ∧ qo.map (·.2) = ((rs.take i).map (shortR u rs)).map (·.2) ∧
    ∀ (j : Nat) (q : Value × Nm) (r : RuleN), qo[j]? = some q → ((rs.take i).map (shortR u rs))[j]? = some r → Own wr w.heap.size 9 encS q.1 r.1) (fun _ vi _ => n - (intOf vi).toNat)
  case atStart => exact ⟨0, [], Nat.zero_le _, rfl, (Ext.refl _).alloc _, HNE.out, rfl, by intro j q r hq; simp at hq⟩
  case round =>
    clear HNE
    obtain ⟨wo, rfl⟩ : ∃ wo : World, wo = wr := ⟨_, rfl⟩
    obtain ⟨i, qo, hi, rfl, hE, hO, hq2, hq3⟩ := hrel
    have HE := Lib.hid hE; clear hE
    obtain ⟨Ao, no, co, rfl, hno, hnoc, hcoc, -⟩ := hO.rd (fun _ => rfl)
    unfold maxLen at hcoc
    have HO := Lib.hid hO; clear hO
    have hqn : qo.length = i := by have := congrArg List.length hq2; simp at this; rw [this, Nat.min_eq_left]; have := HL.out; omega
    have HQ2 := Lib.hid hq2; clear hq2
    have HQ3 := Lib.hid hq3; clear hq3
    obtain rfl : no = i := by omega
    have HNO := Lib.hid hno; clear hno hqn
    by_cases hlt : no < n
    · obtain ⟨b, off, rfl, hb, hcc⟩ := HC.out (by omega)
      have hil : no < rs.length := by rw [HL.out]; exact hlt
      obtain ⟨q, c1, c2, g1⟩ := hcc no _ (List.getElem?_eq_getElem hil)
      have C1 := Lib.hid c1
      have C2 := Lib.hid c2
      have c1 := HE.out.cell c1
      have c2 := HE.out.cell c2
      have hbw : b < wo.heap.size := World.block_lt_of_cell? _ _ c1
      have hok := HOK.out _ (List.getElem_mem hil)
      have hpr := HPR.out _ (List.getElem_mem hil)
      have HTK := Lib.hid (List.take_succ_eq_append_getElem hil)
      clear hcc
      generalize rs[no] = r at *
      obtain ⟨l, th⟩ := r
      simp only at c2 g1 hok hpr C2
      have g1' := g1
      obtain ⟨Aq, nq, cq, rfl, hnq, hnqc, hcq, hcellq⟩ := g1'
      unfold maxLen at hcq
      have hnq1 : nq ≤ 1048576 := by omega
      have HG1 := Lib.hid g1; clear g1
      have HGW := Lib.hid (HG1.out.ext HE.out)
      have HNQ := Lib.hid hnq; clear hnq
      have HCQ := Lib.hid hcellq; clear hcellq
      have HOKR := Lib.hid hok; clear hok
      have HPL := Lib.hid hpr; clear hpr
      have HONE : Hid (∀ y ∈ l, (encS y).oneCell' = true) := Lib.hid fun _ _ => rfl
      have HNN : Hid (nq = ([] : List Nm).length + l.length) := Lib.hid (by rw [HNQ.out]; simp)
      have hsf : shortR u rs (l, th) = (l.foldl (shortStepR u rs th) l, th) := rfl
      have HSF := Lib.hid hsf; clear hsf
      have hem3 : Own ((wo.alloc (.cells #[.slice none 0 0, .string ⟨#[]⟩] 35)).alloc (.cells #[] 9)) wo.heap.size 9 encS (.slice (some ⟨wo.heap.size + 1, 0, none⟩) 0 0) [] := by
        have := Own.empty (wo.alloc (.cells #[.slice none 0 0, .string ⟨#[]⟩] 35)) wo.heap.size 9 encS (by simp)
        simpa using this
      have HEM3 := Lib.hid hem3; clear hem3
      go_upto_region 5 with (fail)
      go_cut [7] (fun v7 wx => ∃ (bx : Nat) (vI : Value), v7 = .pointer (some ⟨bx, 0, none⟩) ∧ wo.heap.size ≤ bx ∧ Ext wo wx ∧ Blk wx bx 35 #[vI, encS th] ∧ Own wx wo.heap.size 9 encS vI l)
      case first =>
        go_region_law (first | (refine step_append_src rfl (.tmp 20) (.tmp 25) 22 rfl 9 i0 _ 16 Try.underlying22 hi0 hz0 hz1 hz2 rfl encS wo ((Ext.refl _).drew.alloc _) (.slice (some ⟨wo.heap.size, 0, none⟩) 0 0) [] rfl (Own.empty _ _ _ _ (Nat.le_refl _)) _ l rfl (HGW.out.ext ((Ext.refl _).drew.alloc _)) HONE.out nq HNN.out (by unfold maxLen; omega) (by omega) ?_; intro A1 cap1 w1 hown1 hE1 hg1; clear hg1; rw [List.nil_append] at hown1; have hd1 := hE1.cell c1; have hd2 := hE1.cell c2; have hbw1 : b < w1.heap.size := World.block_lt_of_cell? _ _ hd1; have HR1 := Lib.hid (fun (z1 z2 : Value) => (Blk.new w1 35 #[z1, z2])); have HOWN1 := Lib.hid hown1; clear hown1; have HE1 := Lib.hid hE1; clear hE1) | (refine step_append_src rfl (.tmp 20) (.tmp 25) 22 rfl 9 i0 _ 16 Try.underlying22 hi0 hz0 hz1 hz2 rfl encS wo ((((Ext.refl _).alloc _).alloc _).drew) (.slice (some ⟨wo.heap.size, 0, none⟩) 0 0) [] rfl (((Own.empty _ _ _ _ (Nat.le_refl _)).ext ((Ext.refl _).alloc _)).ext (Ext.refl _).drew) _ l rfl (HGW.out.ext ((((Ext.refl _).alloc _).alloc _).drew)) HONE.out nq HNN.out (by unfold maxLen; omega) (by omega) ?_; intro A1 cap1 w1 hown1 hE1 hg1; have hrr : Blk w1 (wo.heap.size + 1) 35 #[.slice none 0 0, .string ⟨#[]⟩] := Blk.appended ((Blk.new' _ _ _ _ (by simp)).drew) hg1 (((Own.empty wo wo.heap.size 9 encS (Nat.le_refl _)).ext ((Ext.refl _).alloc _)).ext (Ext.refl _).drew) (by decide); clear hg1; rw [List.nil_append] at hown1; have hd1 := hE1.cell c1; have hd2 := hE1.cell c2; have hbw1 : b < w1.heap.size := World.block_lt_of_cell? _ _ hd1; have hrc0 := hrr.cell 0; have hrc1 := hrr.cell 1; have hrf0 := hrr.frozen 0; have hrf1 := hrr.frozen 1; simp only [List.getElem?_toArray, List.getElem?_cons_zero, List.getElem?_cons_succ] at hrc0 hrc1; have HRR := Lib.hid hrr; clear hrr; have HOWN1 := Lib.hid hown1; clear hown1; have HE1 := Lib.hid hE1; clear hE1) | (refine step_append_src rfl (.tmp 20) (.tmp 25) 22 rfl 9 i0 _ 16 Try.underlying22 hi0 hz0 hz1 hz2 rfl encS wo ((((Ext.refl _).alloc _).alloc _).drew) (.slice (some ⟨wo.heap.size + 1, 0, none⟩) 0 0) [] rfl (HEM3.out.ext (Ext.refl _).drew) _ l rfl (HGW.out.ext ((((Ext.refl _).alloc _).alloc _).drew)) HONE.out nq HNN.out (by unfold maxLen; omega) (by omega) ?_; intro A1 cap1 w1 hown1 hE1 hg1; have hrr : Blk w1 wo.heap.size 35 #[.slice none 0 0, .string ⟨#[]⟩] := Blk.appended (((Blk.new _ _ _).alloc _).drew) hg1 (HEM3.out.ext (Ext.refl _).drew) (by decide); clear hg1; rw [List.nil_append] at hown1; have hd1 := hE1.cell c1; have hd2 := hE1.cell c2; have hbw1 : b < w1.heap.size := World.block_lt_of_cell? _ _ hd1; have hrc0 := hrr.cell 0; have hrc1 := hrr.cell 1; have hrf0 := hrr.frozen 0; have hrf1 := hrr.frozen 1; simp only [List.getElem?_toArray, List.getElem?_cons_zero, List.getElem?_cons_succ] at hrc0 hrc1; have HRR := Lib.hid hrr; clear hrr; have HOWN1 := Lib.hid hown1; clear hown1; have HE1 := Lib.hid hE1; clear hE1))
        all_goals
          go_wp2_with (fail)
          go_meet
          case rel =>
            first
              | exact ⟨_, _, rfl, HE1.out.size, HE1.out.alloc _, HR1.out _ _, HOWN1.out.ext ((Ext.refl _).alloc _)⟩
              | exact ⟨_, _, rfl, Nat.le_refl _, (HE1.out.setCell (p := ⟨wo.heap.size, 0, none⟩) (Nat.le_refl _) _).setCell (p := ⟨wo.heap.size, 1, none⟩) (Nat.le_refl _) _, (HRR.out.set_ 0 _).set_ 1 _, (HOWN1.out.far (i := 0) HRR.out (by decide) _).far (i := 1) (HRR.out.set_ 0 _) (by decide) _⟩
              | exact ⟨_, _, rfl, Nat.le_succ _, (HE1.out.setCell (p := ⟨wo.heap.size + 1, 0, none⟩) (Nat.le_succ _) _).setCell (p := ⟨wo.heap.size + 1, 1, none⟩) (Nat.le_succ _) _, (HRR.out.set_ 0 _).set_ 1 _, (HOWN1.out.far (i := 0) HRR.out (by decide) _).far (i := 1) (HRR.out.set_ 0 _) (by decide) _⟩
      case rest =>
        obtain ⟨bx, vI, rfl, hlo, hE5, hB5, hO5⟩ := hcut
        have HE5 := Lib.hid hE5
        have HB5 := Lib.hid hB5
        have HO5 := Lib.hid hO5
        clear hE5 hB5 hO5 c1 c2
        go_wp2_with (fail)
        go_loopw [8, 9, 10] (fun vk vj vl wr => ∃ (t : Nat) (vI : Value), t ≤ nq ∧ vk = .int .i64 t ∧ Ext wo wr ∧ Blk wr bx 35 #[vI, encS th] ∧ Own wr wo.heap.size 9 encS vI ((l.take t).foldl (shortStepR u rs th) l)) (fun vk _ _ _ => nq - (intOf vk).toNat)
        case atStart => exact ⟨0, vI, Nat.zero_le _, rfl, HE5.out, HB5.out, by simpa using HO5.out⟩
        case round =>
          clear HE5 HB5 HO5
          obtain ⟨wo2, rfl⟩ : ∃ wo2 : World, wo2 = wr := ⟨_, rfl⟩
          obtain ⟨t, vI2, ht, rfl, hE6, hB6, hO6⟩ := hrel
          have HE6 := Lib.hid hE6
          have HB6 := Lib.hid hB6; clear hB6
          obtain ⟨AI, nI, cI, rfl, hnI, hnIc, hcI, -⟩ := hO6.rd
          unfold maxLen at hcI
          have HO6 := Lib.hid hO6; clear hO6
          have e1 := (HE.out.trans hE6).cell C1.out
          have e2 := (HE.out.trans hE6).cell C2.out
          clear hE6
          by_cases htn : t < nq
          · have htl : t < l.length := by rw [HNQ.out]; exact htn
            obtain ⟨bq, offq, rfl, hbq, hcq2⟩ := HCQ.out (by omega)
            have dx := (HE.out.trans HE6.out).cell (hcq2 t _ (List.getElem?_eq_getElem htl))
            have HFS := Lib.hid (fold_take_succR (u := u) (rs := rs) (th := th) htl l)
            have hsub := foldR_sub u rs th (l.take t) l
            clear hcq2
            generalize l[t] = x at *
            generalize (l.take t).foldl (shortStepR u rs th) l = sh at *
            have hasc := asc_sublist HOKR.out.1 hsub
            have HSUB := Lib.hid hsub; clear hsub
            have HASC := Lib.hid hasc; clear hasc
            have hshl : sh.length ≤ 1048576 := Nat.le_trans HSUB.out.length_le HPL.out
            have HSHL := Lib.hid hshl
            have HNI := Lib.hid hnI
            have hnI1 : nI ≤ 1048576 := by omega
            clear hnI hshl
            have tl := fun (x : List UInt8) => ByteArray.toList_mk x
            go_wp2_with (fail)
            go_loopw [9, 10] (fun vj vl wr => ∃ j : Nat, j ≤ nI ∧ vj = .int .i64 j ∧ Ext wo2 wr ∧ ∀ y ∈ sh.take j, y ≠ x) (fun vj _ _ => nI - (intOf vj).toNat)
            case atStart => exact ⟨0, Nat.zero_le _, rfl, Ext.refl _, by simp⟩
            case round =>
              obtain ⟨j, hj, rfl, hE7, hno⟩ := hrel
              have HNOX := Lib.hid hno; clear hno
              have f1 := hE7.cell e1
              have f2 := hE7.cell e2
              have fx := hE7.cell dx
              have HE7 := Lib.hid hE7
              have HB7 := Lib.hid (HB6.out.ext hE7)
              have HO7 := Lib.hid (HO6.out.ext hE7)
              clear hE7
              have fr0 := HB7.out.cell 0
              have fr1 := HB7.out.cell 1
              simp only [List.getElem?_toArray, List.getElem?_cons_zero, List.getElem?_cons_succ] at fr0 fr1
              by_cases hjn : j < nI
              · have hjl : j < sh.length := by rw [HNI.out]; exact hjn
                have hgj := List.getElem?_eq_getElem hjl
                obtain ⟨bI, offI, rfl, hbI, hcI2⟩ := HO7.out.rd.open_.2.2.2 (by omega)
                have dj := hcI2 j _ hgj
                have HTJ := Lib.hid (List.take_succ_eq_append_getElem hjl)
                clear hcI2
                generalize sh[j] = y at *
                have HGJ := Lib.hid hgj; clear hgj
                have HJL := Lib.hid hjl; clear hjl
                by_cases hyx : y = x
                · subst hyx
                  have HEF := Lib.hid (erase_filter HASC.out HGJ.out)
                  have hbb : (y == y) = true := by simp
                  obtain ⟨fl, HFL⟩ : ∃ fl, Hid ((sh.filter fun z => !decide (z = y)) = fl) := ⟨_, rfl⟩
                  rw [HFL.out] at HEF
                  have HFLS : Hid (fl.length ≤ 1048576) := Lib.hid (by rw [← HFL.out]; exact Nat.le_trans (List.length_filter_le _ _) HSHL.out)
                  have hbxl : bx < wr.heap.size := HB7.out.lt
                  cases hent : entR u rs (fl, th) with
                  | true =>
                    have hss : shortStepR u rs th sh y = fl := by unfold shortStepR; rw [HFL.out, if_pos hent]
                    have HSS := Lib.hid hss; clear hss
                    have HENT := Lib.hid hent; clear hent
                    go_wp2_with (fail)
                    go_quiet (fail)
                    go_wp2_with (first | (go_at_call 70; refine (without_any _ sh j _ (HO7.out.rd.ext ((Ext.refl _).drewN _)) HJL.out HSHL.out).mono ?_; rintro e w8 ⟨v8, rfl, hO8, hE8⟩; rw [HEF.out] at hO8; have hE8b := ((Ext.refl wr).drewN _).trans hE8; have fr18 := hE8b.cell fr1; have fr08 := hE8b.cell fr0; have hfz8 := (HB7.out.ext hE8b).frozen 0; obtain ⟨A8, n8, c8, rfl, -⟩ := hO8.rd; have HO8 := Lib.hid (hO8.up (show wo.heap.size ≤ _ from ((HE6.out.trans HE7.out).drewN _).size)); have HE8 := Lib.hid hE8b; clear hO8 hE8 hE8b) | (go_at_call 23; refine (refEntails_any _ _ _ u rs (fl, th) _ (HU.out.ext (((HE.out.trans HE6.out).trans HE7.out).trans HE8.out)) (HR.out.ext (((HE.out.trans HE6.out).trans HE7.out).trans HE8.out)) HO8.out.rd HFLS.out).mono ?_; rintro e w9 ⟨rfl, hE9⟩; rw [HENT.out]; have hold9 := hE9.cell fr08; have hfz9 := ((HB7.out.ext HE8.out).ext hE9).frozen 0; have HB9 := Lib.hid ((HB7.out.ext HE8.out).ext hE9); have HO9 := Lib.hid (HO8.out.ext hE9); have HO9B := Lib.hid ((HO7.out.ext HE8.out).ext hE9); have HE9 := Lib.hid (((HE6.out.trans HE7.out).trans HE8.out).trans hE9); clear hE9 fr08 fr18 hfz8))
                    go_roundw
                    case rel => exact ⟨t + 1, _, by omega, by go_num, HE9.out.setCell (p := ⟨bx, 0, none⟩) hlo _, by simpa using HB9.out.set_ 0 _, by rw [HFS.out, HSS.out]; exact HO9.out.far HB9.out (by decide) _⟩
                    case measure => simp [intOf]; omega
                  | false =>
                    have hss : shortStepR u rs th sh y = sh := by unfold shortStepR; rw [HFL.out, if_neg (by rw [hent]; decide)]
                    have HSS := Lib.hid hss; clear hss
                    have HENT := Lib.hid hent; clear hent
                    go_wp2_with (fail)
                    go_quiet (fail)
                    go_wp2_with (first | (go_at_call 70; refine (without_any _ sh j _ (HO7.out.rd.ext ((Ext.refl _).drewN _)) HJL.out HSHL.out).mono ?_; rintro e w8 ⟨v8, rfl, hO8, hE8⟩; rw [HEF.out] at hO8; have hE8b := ((Ext.refl wr).drewN _).trans hE8; have fr18 := hE8b.cell fr1; have fr08 := hE8b.cell fr0; have hfz8 := (HB7.out.ext hE8b).frozen 0; obtain ⟨A8, n8, c8, rfl, -⟩ := hO8.rd; have HO8 := Lib.hid (hO8.up (show wo.heap.size ≤ _ from ((HE6.out.trans HE7.out).drewN _).size)); have HE8 := Lib.hid hE8b; clear hO8 hE8 hE8b) | (go_at_call 23; refine (refEntails_any _ _ _ u rs (fl, th) _ (HU.out.ext (((HE.out.trans HE6.out).trans HE7.out).trans HE8.out)) (HR.out.ext (((HE.out.trans HE6.out).trans HE7.out).trans HE8.out)) HO8.out.rd HFLS.out).mono ?_; rintro e w9 ⟨rfl, hE9⟩; rw [HENT.out]; have hold9 := hE9.cell fr08; have hfz9 := ((HB7.out.ext HE8.out).ext hE9).frozen 0; have HB9 := Lib.hid ((HB7.out.ext HE8.out).ext hE9); have HO9 := Lib.hid (HO8.out.ext hE9); have HO9B := Lib.hid ((HO7.out.ext HE8.out).ext hE9); have HE9 := Lib.hid (((HE6.out.trans HE7.out).trans HE8.out).trans hE9); clear hE9 fr08 fr18 hfz8))
                    go_roundw
                    case rel => exact ⟨t + 1, _, by omega, by go_num, HE9.out, HB9.out, by rw [HFS.out, HSS.out]; exact HO9B.out⟩
                    case measure => simp [intOf]; omega
                · have hbb : (y == x) = false := by simpa using hyx
                  have HYX := Lib.hid hyx; clear hyx
                  go_wp2_with (fail)
                  go_quiet (fail)
                  go_wp2_with (fail)
                  go_roundw
                  case rel =>
                    refine ⟨j + 1, by omega, by go_num, HE7.out.drewN _, ?_⟩
                    rw [HTJ.out]
                    intro z hz
                    rcases List.mem_append.1 hz with hz | hz
                    · exact HNOX.out z hz
                    · rw [List.mem_singleton] at hz; rw [hz]; exact HYX.out
                  case measure => simp [intOf]; omega
              · obtain rfl : nI = j := by omega
                have hall : ∀ y ∈ sh, y ≠ x := by
                  have := HNOX.out
                  rwa [List.take_of_length_le (by have := HNI.out; omega)] at this
                have HST := Lib.hid (shortStepR_none (u := u) (rs := rs) (th := th) hall)
                clear hall
                go_wp2_with (fail)
                go_roundw
                case rel => exact ⟨t + 1, _, by omega, by go_num, HE6.out.trans HE7.out, HB7.out, by rw [HFS.out, HST.out]; exact HO7.out⟩
                case measure => simp [intOf]; omega
          · obtain rfl : nq = t := by omega
            rw [List.take_of_length_le (l := l) (by have := HNQ.out; omega)] at HO6
            have g0 := HB6.out.cell 0
            have g1 := HB6.out.cell 1
            simp only [List.getElem?_toArray, List.getElem?_cons_zero, List.getElem?_cons_succ] at g0 g1
            have HNN2 : Hid (qo.length + 1 ≤ 1048577) := Lib.hid (by have := HNO.out; omega)
            have hq6 : qo.map (·.2) = ((rs.take no).map (shortR u rs)).map (·.2) := HQ2.out
            have hlen : qo.length = ((rs.take no).map (shortR u rs)).length := by have := congrArg List.length hq6; simpa using this
            have HLEN := Lib.hid hlen; clear hlen hq6 hnI
            go_wp2_with (at_builtin; go_must (refine wpList_append_oneN rfl (.tmp 77) (.tmp 79) 23 rfl 35 i3 _ 2 40 Try.underlying23 hi3 hw0 hw1 hw2 rfl (by decide) encQS' (fun _ => rfl) w ((HE.out.trans HE6.out).alloc _) (.slice Ao no co) qo rfl ((HO.out.ext HE6.out).ext ((Ext.refl _).alloc _)) wo2.heap.size 1 (.slice AI nI cI, th) rfl (cells_new _ _ _ _ rfl) (by intro x hx; simp only [encQS', List.mem_cons, List.not_mem_nil, or_false] at hx; rcases hx with rfl | rfl <;> rfl) (by have := HNN2.out; unfold maxLen; omega) (by have := HNN2.out; omega) ?_); intro v12 w12 hown12 hE12 hg12; have hq12 : ∀ (q : Value) (l : NmL), Own wo2 w.heap.size 9 encS q l → Own w12 w.heap.size 9 encS q l := (fun q l h => (h.ext ((Ext.refl _).alloc _)).appendedN hg12 ((HO.out.ext HE6.out).ext ((Ext.refl _).alloc _)) (by decide)); clear hg12; have HQ12 := Lib.hid hq12; have HO12 := Lib.hid hown12; have HE12 := Lib.hid hE12; clear hq12 hown12 hE12)
            go_roundw
            case rel =>
              refine ⟨no + 1, _, by omega, by go_num, HE12.out, HO12.out, ?_, ?_⟩
              · rw [HTK.out, List.map_append, List.map_append, List.map_append, HQ2.out]
                rfl
              · rw [HTK.out, List.map_append]
                intro j q r hj hr
                rcases snoc_get hj with ⟨e1, e2⟩ | ⟨e1, e2⟩
                · rw [List.getElem?_append_left (by rw [← HLEN.out]; exact e1)] at hr
                  exact HQ12.out _ _ ((HQ3.out j q r e2 hr).ext HE6.out)
                · rw [List.getElem?_append_right (by rw [← HLEN.out]; omega), e1, HLEN.out] at hr
                  simp at hr
                  subst e2 hr
                  exact HQ12.out _ _ (HO6.out.up HE.out.size)
            case measure => simp [intOf]; omega
    · obtain rfl : n = no := by omega
      rw [List.take_of_length_le (l := rs) (by have := HL.out; omega)] at HQ2 HQ3
      have HMAP : Hid (reduceR u rs = keepR u [] (rs.map (shortR u rs))) := Lib.hid rfl
      have HRL : Hid (∀ r ∈ rs.map (shortR u rs), r.1.length ≤ 1048576) := Lib.hid fun r hr => by
        obtain ⟨s, hs, rfl⟩ := List.mem_map.1 hr
        exact Nat.le_trans (shortR_sub u rs s).length_le (HPR.out s hs)
      have hml : (rs.map (shortR u rs)).length = n := by rw [List.length_map]; exact HL.out
      have hql : qo.length = n := by have := congrArg List.length HQ2.out; simp at this; rw [this]; exact HL.out
      generalize rs.map (shortR u rs) = ss0 at *
      have HML := Lib.hid hml; clear hml
      have HQL := Lib.hid hql; clear hql
      have HRN := Lib.hid (HO.out.rdN (fun _ => rfl))
      have HRD : Hid (∀ (j : Nat) (q : Value × Nm) (r : RuleN), qo[j]? = some q → ss0[j]? = some r → RdS wo q.1 r.1) := Lib.hid fun j q r h1 h2 => (HQ3.out j q r h1 h2).rd
      clear HQ3 HO
      go_wp2_with (fail)
      go_loopw [5, 11, 12] (fun vo vi vr wr => ∃ (i : Nat) (qs : List (Value × Nm)) (ss : List RuleN), vi = .int .i64 i ∧ i ≤ qs.length ∧ qs.length ≤ n ∧ Ext wo wr ∧ RdN wr 2 encQS' vo qs ∧ qs.map (·.2) = ss.map (·.2) ∧
        (∀ (j : Nat) (q : Value × Nm) (r : RuleN), qs[j]? = some q → ss[j]? = some r → RdS wo q.1 r.1) ∧ keepR u [] ss0 = keepR u (ss.take i) (ss.drop i) ∧ ∀ r ∈ ss, r.1.length ≤ 1048576) (fun vo vi _ _ => lenV vo - (intOf vi).toNat)
      case atStart => exact ⟨0, qo, ss0, rfl, Nat.zero_le _, by rw [HQL.out]; exact Nat.le_refl _, Ext.refl _, HRN.out, HQ2.out, HRD.out, by simp, HRL.out⟩
      case round =>
        clear HQ2 HRD HRN HQL HNO HRL
        obtain ⟨i, qs, ss, rfl, hiq, hqn, hE2, hN2, hq2, hq3, hkp, hpl⟩ := hrel
        have HE2 := Lib.hid hE2; clear hE2
        have hN2' := hN2
        obtain ⟨A2, m2, c2, rfl, hm2, hmc2, hcm2, hcell2⟩ := hN2'
        unfold maxLen at hcm2
        have HN2 := Lib.hid hN2; clear hN2
        have HQ2 := Lib.hid hq2; clear hq2
        have HQ3 := Lib.hid hq3; clear hq3
        have HKP := Lib.hid hkp; clear hkp
        have HPL := Lib.hid hpl; clear hpl
        have hm2n : m2 ≤ 1048576 := by omega
        have him2 : i ≤ m2 := by omega
        have hm2nn : m2 ≤ n := by omega
        have HM2 := Lib.hid hm2
        have HC2 := Lib.hid hcell2; clear hcell2
        have hsl : ss.length = m2 := by have := congrArg List.length HQ2.out; simp at this; omega
        have HSL := Lib.hid hsl; clear hsl
        clear hiq hqn hm2
        by_cases hlt : i < m2
        · obtain ⟨b2, o2, rfl, hb2, hcc2⟩ := HC2.out (by omega)
          have hiq : i < qs.length := by rw [HM2.out]; exact hlt
          have his : i < ss.length := by rw [HSL.out]; exact hlt
          have d0 := hcc2 i _ (List.getElem?_eq_getElem hiq) 0 _ rfl
          have d1 := hcc2 i _ (List.getElem?_eq_getElem hiq) 1 _ rfl
          simp only [Nat.add_zero] at d0
          rw [← Nat.add_assoc] at d1
          have g := HQ3.out i _ _ (List.getElem?_eq_getElem hiq) (List.getElem?_eq_getElem his)
          have h2 : (qs[i]).2 = ss[i].2 := by
            have := congrArg (·[i]?) HQ2.out
            simpa [hiq, his] using this
          rw [h2] at d1
          have hdr := List.drop_eq_getElem_cons his
          have htk := List.take_succ_eq_append_getElem his
          have hpi := HPL.out _ (List.getElem_mem his)
          clear hcc2 h2
          rw [hdr, keepR] at HKP
          have HP1 := Lib.hid (HN2.out.pre (i := i) (by omega))
          have HEM : Hid (OwnN (wr.alloc (.cells #[] 35)) wr.heap.size 35 2 encQS' (.slice (some ⟨wr.heap.size, 0, none⟩) 0 0) []) := Lib.hid (by
            have := World.ownsRow_made (e := 35) (base := wr.heap.size) (size := 2) wr #[] 0 (Nat.le_refl _) (Nat.zero_le _) rfl
            simpa [OwnN] using this)
          have HONE := Lib.hid (one_of (by rw [HM2.out, HSL.out]) HQ3.out)
          have HN1 : Hid (i = ([] : List (Value × Nm)).length + (qs.take i).length) := Lib.hid (by simp; omega)
          have hk3 : (0 : Int) ≤ (i : Int) := by omega
          have hk4 : (0 : Int) ≤ (i : Int) + 1 := by omega
          have hk6 : (i : Int) ≤ (c2 : Int) := by omega
          have hk7 : (i : Int) + 1 ≤ (m2 : Int) := by omega
          have hw1x : IntKind.i64.wrap ((i : Int) + 1) = ((i + 1 : Nat) : Int) := by rw [IntWalk.i64_in _ (by omega)]; omega
          have hk8 : i ≤ c2 := by omega
          have hk9 : i + 1 ≤ m2 := by omega
          have hk10 : i + 1 ≤ c2 := by omega
          have D0 := Lib.hid d0
          have D1 := Lib.hid d1
          clear d0 d1
          go_upto_region 20 with (fail)
          go_cut [12] (fun v12 wx => ∃ (A3 : Option Addr) (c3 : Nat), v12 = .slice A3 (m2 - 1) c3 ∧ Ext wr wx ∧ RdN wx 2 encQS' v12 (qs.take i ++ qs.drop (i + 1)))
          case first =>
            by_cases hcc : c2 = i + 1
            · subst hcc
              obtain rfl : m2 = i + 1 := by omega
              have HS2 : Hid (RdN wr 2 encQS' (.slice (some ⟨b2, o2, none⟩) 0 0) (qs.drop (i + 1))) := Lib.hid (RdN.none_ (List.drop_of_length_le (by have := HM2.out; omega)) (Nat.zero_le _))
              have hk5 : (i : Int) ≤ (i : Int) + 1 := by omega
              have HNX : Hid (i = ([] ++ qs.take i : List (Value × Nm)).length + (qs.drop (i + 1)).length) := Lib.hid (by have := HM2.out; simp; omega)
              go_region_law (first | (refine step_append_srcN rfl (.tmp 87) (.tmp 90) 23 rfl 35 i3 _ 2 40 Try.underlying23 hi3 hw0 hw1 hw2 rfl (by decide) encQS' (fun _ => rfl) wr ((Ext.refl _).drew.alloc _) (.slice (some ⟨wr.heap.size, 0, none⟩) 0 0) [] rfl (HEM.out.ext ((Ext.refl _).drew)) _ (qs.take i) rfl (HP1.out.ext ((Ext.refl _).drew.alloc _)) (fun y hy => HONE.out y (List.mem_of_mem_take hy)) i HN1.out (by unfold maxLen; omega) (by omega) ?_; intro A1 cap1 w1 hown1 hE1; have HOWN1 := Lib.hid hown1; clear hown1; have HE1 := Lib.hid hE1; clear hE1) | (refine step_append_srcN rfl (.tmp 91) (.tmp 95) 23 rfl 35 i3 _ 2 40 Try.underlying23 hi3 hw0 hw1 hw2 rfl (by decide) encQS' (fun _ => rfl) wr HE1.out (.slice A1 i cap1) ([] ++ qs.take i) rfl HOWN1.out _ (qs.drop (i + 1)) rfl (HS2.out.ext HE1.out) (fun y hy => HONE.out y (List.mem_of_mem_drop hy)) i HNX.out (by unfold maxLen; omega) (by omega) ?_; intro A3 cap3 w3 hown3 hE3; have HOWN3 := Lib.hid hown3; clear hown3; have HE3 := Lib.hid hE3; clear hE3))
              all_goals
                go_wp2_with (fail)
                go_meet
                case rel => exact ⟨_, _, rfl, HE3.out, by have h := HOWN3.out; rw [List.nil_append] at h; exact h.rdN (fun _ => rfl)⟩
            · have hcc2 : i + 1 < c2 := by omega
              have HS2 := Lib.hid (HN2.out.suf (m := i + 1) hk9)
              have hcb : (c2 == i + 1) = false := by simpa using hcc
              have HNX : Hid (i + (m2 - (i + 1)) = ([] ++ qs.take i : List (Value × Nm)).length + (qs.drop (i + 1)).length) := Lib.hid (by have := HM2.out; simp; omega)
              go_region_law (first | (refine step_append_srcN rfl (.tmp 87) (.tmp 90) 23 rfl 35 i3 _ 2 40 Try.underlying23 hi3 hw0 hw1 hw2 rfl (by decide) encQS' (fun _ => rfl) wr ((Ext.refl _).drew.alloc _) (.slice (some ⟨wr.heap.size, 0, none⟩) 0 0) [] rfl (HEM.out.ext ((Ext.refl _).drew)) _ (qs.take i) rfl (HP1.out.ext ((Ext.refl _).drew.alloc _)) (fun y hy => HONE.out y (List.mem_of_mem_take hy)) i HN1.out (by unfold maxLen; omega) (by omega) ?_; intro A1 cap1 w1 hown1 hE1; have HOWN1 := Lib.hid hown1; clear hown1; have HE1 := Lib.hid hE1; clear hE1) | (refine step_append_srcN rfl (.tmp 91) (.tmp 95) 23 rfl 35 i3 _ 2 40 Try.underlying23 hi3 hw0 hw1 hw2 rfl (by decide) encQS' (fun _ => rfl) wr HE1.out (.slice A1 i cap1) ([] ++ qs.take i) rfl HOWN1.out _ (qs.drop (i + 1)) rfl (HS2.out.ext HE1.out) (fun y hy => HONE.out y (List.mem_of_mem_drop hy)) (i + (m2 - (i + 1))) HNX.out (by unfold maxLen; omega) (by omega) ?_; intro A3 cap3 w3 hown3 hE3; have HOWN3 := Lib.hid hown3; clear hown3; have HE3 := Lib.hid hE3; clear hE3))
              all_goals
                go_wp2_with (fail)
                go_meet
                case rel => exact ⟨_, _, (by congr 1; omega), HE3.out, by have h := HOWN3.out; rw [List.nil_append] at h; exact h.rdN (fun _ => rfl)⟩
          case rest =>
            obtain ⟨A3, c3, rfl, hE3, hN3⟩ := hcut
            have hq2n : (qs.take i ++ qs.drop (i + 1)).map (·.2) = (ss.take i ++ ss.drop (i + 1)).map (·.2) := by
              rw [List.map_append, List.map_append, List.map_take, List.map_drop, List.map_take, List.map_drop, HQ2.out]
            have hq3n : ∀ (j : Nat) (q : Value × Nm) (r : RuleN), (qs.take i ++ qs.drop (i + 1))[j]? = some q → (ss.take i ++ ss.drop (i + 1))[j]? = some r → RdS wo q.1 r.1 := fun j q r h1 h2 =>
              HQ3.out _ q r (mem_erase h1 hiq) (mem_erase h2 his)
            have hpln : ∀ r ∈ ss.take i ++ ss.drop (i + 1), r.1.length ≤ 1048576 := fun r hr => by
              rcases List.mem_append.1 hr with hr | hr
              · exact HPL.out r (List.mem_of_mem_take hr)
              · exact HPL.out r (List.mem_of_mem_drop hr)
            have hlnn : (ss.take i ++ ss.drop (i + 1)).length = m2 - 1 := by simp; have := HSL.out; omega
            have hlqn : (qs.take i ++ qs.drop (i + 1)).length = m2 - 1 := by simp; have := HM2.out; omega
            have hIR : InR wc (.slice A3 (m2 - 1) c3) (ss.take i ++ ss.drop (i + 1)) := ⟨rdR_ofN hN3 hq2n fun j q r h1 h2 => (hq3n j q r h1 h2).ext (HE2.out.trans hE3), by rw [hlnn]; omega, hpln⟩
            have HIR := Lib.hid hIR; clear hIR
            have HQ2N := Lib.hid hq2n; clear hq2n
            have HQ3N := Lib.hid hq3n; clear hq3n
            have HPLN := Lib.hid hpln; clear hpln
            have HLQN := Lib.hid hlqn; clear hlqn
            have hkt : (ss.take i ++ ss.drop (i + 1)).take i = ss.take i := by
              have hl : (ss.take i).length = i := by simp; omega
              rw [List.take_append_of_le_length (by omega), List.take_of_length_le (by omega)]
            have hkd : (ss.take i ++ ss.drop (i + 1)).drop i = ss.drop (i + 1) := by
              have hl : (ss.take i).length = i := by simp; omega
              rw [List.drop_append_of_le_length (by omega), List.drop_of_length_le (by omega), List.nil_append]
            have HKT := Lib.hid hkt; clear hkt
            have HKD := Lib.hid hkd; clear hkd
            have HTK2 := Lib.hid htk; clear htk
            clear hdr
            have d0 := hE3.cell D0.out
            have d1 := hE3.cell D1.out
            have HG := Lib.hid (g.ext (HE2.out.trans hE3)); clear g
            have HPI := Lib.hid hpi; clear hpi
            have HN3 := Lib.hid hN3; clear hN3
            have HE3 := Lib.hid hE3; clear hE3 hlnn
            generalize ss[i] = r at *
            generalize hqi : qs[i].1 = qi at *
            clear hqi
            obtain ⟨Aq, nq, cq, rfl, -⟩ := HG.out
            generalize hss : ss.take i ++ ss.drop (i + 1) = ssn at *
            generalize hqq : qs.take i ++ qs.drop (i + 1) = qsn at *
            clear hss hqq
            cases hent : entR u ssn r with
            | true =>
              rw [hent, if_pos rfl] at HKP
              have HENT := Lib.hid hent; clear hent
              go_wp2_with (go_at_call 23; refine (refEntails_any _ _ _ u ssn r _ (HU.out.ext ((HE.out.trans HE2.out).trans HE3.out)) HIR.out HG.out HPI.out).mono ?_; rintro e w9 ⟨rfl, hE9⟩; rw [HENT.out]; have HE9 := Lib.hid hE9; clear hE9)
              go_roundw
              case rel => exact ⟨i, qsn, ssn, by go_num, by rw [HLQN.out]; omega, by rw [HLQN.out]; omega, (HE2.out.trans HE3.out).trans HE9.out, HN3.out.ext HE9.out, HQ2N.out, HQ3N.out, by rw [HKT.out, HKD.out]; exact HKP.out, HPLN.out⟩
              case measure => simp [intOf, lenV]; omega
            | false =>
              rw [hent, if_neg (by decide)] at HKP
              have HENT := Lib.hid hent; clear hent
              go_wp2_with (go_at_call 23; refine (refEntails_any _ _ _ u ssn r _ (HU.out.ext ((HE.out.trans HE2.out).trans HE3.out)) HIR.out HG.out HPI.out).mono ?_; rintro e w9 ⟨rfl, hE9⟩; rw [HENT.out]; have HE9 := Lib.hid hE9; clear hE9)
              go_roundw
              case rel => exact ⟨i + 1, qs, ss, by go_num, by rw [HM2.out]; omega, by rw [HM2.out]; omega, (HE2.out.trans HE3.out).trans HE9.out, HN2.out.ext (HE3.out.trans HE9.out), HQ2.out, HQ3.out, by rw [HTK2.out]; exact HKP.out, HPL.out⟩
              case measure => simp [intOf, lenV]; omega
        · obtain rfl : m2 = i := by omega
          have hfin : keepR u [] ss0 = ss := by rw [HKP.out, List.drop_of_length_le (by have := HSL.out; omega), List.take_of_length_le (by have := HSL.out; omega), keepR]
          have HFIN := Lib.hid hfin; clear hfin
          go_wp2_with (fail)
          go_ret
          refine ⟨_, rfl, ?_, HE.out.trans HE2.out⟩
          rw [HMAP.out, HFIN.out]
          exact rdR_ofN HN2.out HQ2.out fun j p r h1 h2 => (HQ3.out j p r h1 h2).ext HE2.out
end Go.Proofs.Ythgplaledmccgaa
