/-
  Contract: closure.Why.
-/
import Derived.Test.YthgplaledmccgaaW21
import Derived.Test.YthgplaledmccgaaSpec15
import Derived.Test.YthgplaledmccgaaSpec12
import Derived.BigQuiet
namespace Go.Proofs.Ythgplaledmccgaa
open Go.RowKit

/-- steps that can be read -/
def RdSt (w : World) (v : Value) (st : List (Nat × Nat)) : Prop :=
  ∃ A n c, v = .slice A n c ∧ st.length = n ∧ n ≤ c ∧ c ≤ maxLen ∧ (0 < n → ∃ b, A = some ⟨b, 0, none⟩ ∧ b < w.heap.size ∧ ∀ j p, st[j]? = some p → w.cell? ⟨b, j * 2, none⟩ = some (.int .i64 (p.1 : Int)) ∧ w.cell? ⟨b, j * 2 + 1, none⟩ = some (.int .i64 (p.2 : Int)))
theorem RdSt.ext {w w' : World} {v : Value} {st : List (Nat × Nat)} (h : RdSt w v st) (he : Ext w w') : RdSt w' v st := by
  obtain ⟨A, n, c, hv, hl, h1, h2, h3⟩ := h
  refine ⟨A, n, c, hv, hl, h1, h2, fun hn => ?_⟩
  obtain ⟨b, hA, hb, hc⟩ := h3 hn
  exact ⟨b, hA, Nat.lt_of_lt_of_le hb he.size, fun j p hj => ⟨he.cell (hc j p hj).1, he.cell (hc j p hj).2⟩⟩
theorem OwnN.rdSt {w : World} {base : Nat} {t : TypeId} {v : Value} {st : List (Nat × Nat)} (h : OwnN w base t 2 encSt v st) : RdSt w v st := by
  obtain ⟨A, n, c, hv, hl, h1, h2, h3⟩ := h.rd (fun _ => rfl)
  refine ⟨A, n, c, hv, hl, h1, h2, fun hn => ?_⟩
  obtain ⟨b, hA, hb, hc⟩ := h3 hn
  refine ⟨b, hA, hb, fun j p hj => ⟨hc j p hj 0 _ rfl, hc j p hj 1 _ rfl⟩⟩

def WhyOk (u : List Nm) (rs : List RuleN) (l : List Nm) (name : Nm) (w : World) (e : Ending) (w' : World) : Prop :=
  ∃ v, e = .returned (.tuple #[v, .int .i64 0]) ∧ Rd1 w' encI v (whyB u rs l name) ∧ Ext w w'

theorem backB_len (hs : List Horn) (st : List (Nat × Nat)) (need : List Bool) (why : List Nat) : (backB hs st need why).length ≤ why.length + st.length := by
  induction st generalizing need why with
  | nil => simp [backB]
  | cons p t ih =>
    rw [backB]
    split
    · refine Nat.le_trans (ih _ _) ?_
      simp; omega
    · refine Nat.le_trans (ih _ _) ?_
      simp

set_option maxRecDepth 100000 in
set_option maxHeartbeats 2000000 in
theorem why_ok (vu vs vl : Value) (u : List Nm) (rs : List RuleN) (l : List Nm) (name : Nm) (w : World) (hu : InU w vu u) (hr : InR w vs rs) (hl : RdS w vl l) (h0 : check2E u rs l = 0) (hn : name ∈ u) (hin : name ∈ (chainR rs l).1) :
    Calls Try.prog 35 #[vu, vs, vl, encS name] w (WhyOk u rs l name w) := by
  obtain ⟨i0, hi0, hz0, hz1, hz2⟩ := info_parts inf4
  obtain ⟨i1, hi1, hy0, hy1, hy2⟩ := info_parts inf3
  obtain ⟨hc0, hla, hlm⟩ := check2E_zero h0
  have hres : (chainB (rs.map (toHorn u)) (fun _ => true) (memB u l)).1.getD (ixN u name) false = true := by rw [why_in hc0 hlm hn, decide_eq_true hin]
  have hnames := chainF_named (hs := rs.map (toHorn u)) (U := fun _ => true) (memB u l).length (memB u l)
  have hsteps := chainF_steps (hs := rs.map (toHorn u)) (U := fun _ => true) (memB u l).length (memB u l)
  have hsl : (chainB (rs.map (toHorn u)) (fun _ => true) (memB u l)).2.length ≤ u.length := by rw [memB_len] at hsteps; unfold chainB; rw [memB_len]; omega
  have HU := Lib.hid hu; clear hu
  have HR := Lib.hid hr; clear hr
  have HL := Lib.hid hl; clear hl
  have HC0 := Lib.hid hc0; clear hc0 h0
  have HLA := Lib.hid hla; clear hla
  have HLM := Lib.hid hlm; clear hlm
  have HRES := Lib.hid hres; clear hres hin
  have HNM : Hid (∀ p ∈ (chainB (rs.map (toHorn u)) (fun _ => true) (memB u l)).2, p.1 < (rs.map (toHorn u)).length ∧ p.2 = ((rs.map (toHorn u)).getD p.1 ([], 0)).2) := hnames
  have HSL := Lib.hid hsl
  clear hnames hsteps hsl
  go_enter Try.func35, Try.ntmps35
  go_wp2_with (fail)
  refine (parse_ok _ _ u rs _ HU.out HR.out HC0.out).mono ?_
  rintro e w1 ⟨b, vu', vr, rfl, hS⟩
  have HS := Lib.hid hS; clear hS
  go_wp2_with (fail)
  refine (set_ok b vu' vl u l _ HS.out.read.cu HS.out.read.ru HS.out.asc (HL.out.ext HS.out.ext) HLA.out HLM.out HS.out.szu).mono ?_
  rintro e w2 ⟨g, rfl, hg, hA, hE⟩
  have hrd := hA.rd (by rw [memB_len]; have := HU.out.sz; unfold maxLen; omega)
  rw [memB_len] at hrd
  have HRD := Lib.hid hrd; clear hrd hA
  have HE := Lib.hid hE; clear hE
  have hix := (ixI_of_mem HS.out.asc hn).1
  have hiu := ixN_lt HS.out.asc hn
  have HIX := Lib.hid hix; clear hix
  have hS2 := HS.out.read.ext HE.out
  go_wp2_with (fail)
  refine (at_any b vu' u name _ hS2.cu hS2.ru hS2.asc).mono ?_
  rintro e w2' ⟨rfl, rfl⟩
  rw [HIX.out]
  clear hS2
  generalize hkk : ixN u name = kk at *
  have HKK := Lib.hid hkk; clear hkk
  go_wp2_with (fail)
  refine (chain_any b vu' vr _ _ u (rs.map (toHorn u)) (memB u l) (fun _ => true) _ (HS.out.read.ext HE.out) HRD.out (memB_len _ _) (every_use _ _)).mono ?_
  rintro e w3 ⟨g3, vst, rfl, hg3, hA3, hO3, hE3⟩
  have hst := hO3.rdSt
  clear hO3
  have hk3 : kk < (chainB (rs.map (toHorn u)) (fun _ => true) (memB u l)).1.length := by rw [chainB_len, memB_len]; exact hiu
  have hc3 : w3.cell? ⟨g3, kk, none⟩ = some (.bool true) := by
    have := hA3.cell (List.getElem?_eq_getElem hk3)
    rw [this]
    have e := HRES.out
    rw [List.getD_eq_getElem?_getD, List.getElem?_eq_getElem hk3] at e
    simp at e
    rw [e]
  rw [memB_len]
  clear hk3 hA3
  have hS3 := HS.out.read.ext (HE.out.trans hE3)
  have HE3 := Lib.hid ((HS.out.ext.trans HE.out).trans hE3); clear hE3 HRD HE HS
  have hcu3 := hS3.cu
  have hcr3 := hS3.cr
  have hru3 := hS3.ru
  have hrh3 := hS3.rh
  have hszu := hS3.szu
  have hbl3 := World.block_lt_of_cell? _ _ hcu3
  simp only at hbl3
  have hok3 := hS3.ok
  have HOK3 := Lib.hid hok3; clear hok3
  clear hS3
  obtain ⟨Au, nu, cu, rfl, hlu, -, hcum, -⟩ := hru3
  rw [hlu] at hszu HOK3 HSL hiu ⊢
  have hwhy : whyB u rs l name = (backB (rs.map (toHorn u)) (chainB (rs.map (toHorn u)) (fun _ => true) (memB u l)).2.reverse ((List.replicate nu false).set kk true) []).reverse := by unfold whyB; rw [HKK.out, hlu]
  have HWHY := Lib.hid hwhy; clear hwhy
  have HLU := Lib.hid hlu; clear hlu
  generalize hST : (chainB (rs.map (toHorn u)) (fun _ => true) (memB u l)).2 = st at *
  generalize hHS : rs.map (toHorn u) = hs at *
  clear hST hHS
  obtain ⟨As, m, cs, rfl, hlm, hms, hcsm, hcells⟩ := hst
  have hm : m ≤ 1048576 := by have := HSL.out; omega
  unfold maxLen at hcsm hcum
  have HCS := Lib.hid hcells; clear hcells
  have HLS := Lib.hid hlm; clear hlm
  have hrh3' := hrh3
  obtain ⟨Ah, mh, ch, rfl, hlh, -⟩ := hrh3'
  have HRH := Lib.hid hrh3; clear hrh3
  have HLH := Lib.hid hlh; clear hlh
  go_wp2_with (at_make; refine wpList_make_arr rfl (.tmp 59) (.tmp 59) 74 4 rfl i0 _ 1 Try.underlying74 hi0 hz0 hz1 hz2 rfl nu rfl rfl (by omega) (by unfold maxLen; omega) ?_; intro w4 g4 hblk hg4 hE4; have hold : w4.cell? ⟨g4, kk, none⟩ = some (.bool false) := (by rw [hblk.cell kk]; simp [hiu]); have hfz := hblk.frozen kk; have HA4 : Hid (Arr (w4.setCell ⟨g4, kk, none⟩ (.bool true)) 4 Value.bool g4 ((List.replicate nu false).set kk true)) := Lib.hid (Arr.set_ (enc := Value.bool) (l := List.replicate nu false) (by unfold Arr; simpa using hblk) kk true); have HE4 : Hid (Ext w3 (w4.setCell ⟨g4, kk, none⟩ (.bool true))) := Lib.hid (hE4.setCell (p := ⟨g4, kk, none⟩) hg4 _); clear hblk hE4)
  obtain ⟨w5, hw5⟩ : ∃ w5, w5 = w4.setCell ⟨g4, kk, none⟩ (.bool true) := ⟨_, rfl⟩
  rw [← hw5] at HA4 HE4 ⊢
  clear hw5 hold hfz
  go_loopw [17, 18] (fun vw vi wr => ∃ (k : Nat) (need : List Bool) (why : List Nat), k ≤ m ∧ vi = .int .i64 ((k : Int) - 1) ∧ need.length = nu ∧ Ext w3 wr ∧ Arr wr 4 Value.bool g4 need ∧ Own wr w3.heap.size 3 encI vw why ∧
    backB hs st.reverse ((List.replicate nu false).set kk true) [] = backB hs (st.take k).reverse need why ∧ why.length + k ≤ m) (fun _ vi _ => (intOf vi + 1).toNat)
  case atStart => exact ⟨m, _, [], Nat.le_refl _, rfl, by simp, HE4.out, HA4.out, Own.nil _ _ _ _, by rw [List.take_of_length_le (by have := HLS.out; omega)], by simp⟩
  case round =>
    obtain ⟨k, need, why, hk, rfl, hnl, hEr, hAr, hOr, hbk, hwl⟩ := hrel
    have HER := Lib.hid hEr; clear hEr
    have HAR := Lib.hid hAr; clear hAr
    have HOR := Lib.hid hOr
    have HBK := Lib.hid hbk; clear hbk
    have HNL := Lib.hid hnl; clear hnl
    obtain ⟨Aw, nw, cw, rfl, hnw, -⟩ := hOr.rd
    clear hOr
    cases k with
    | zero =>
      have hz : ((0 : Nat) : Int) - 1 = -1 := by omega
      rw [hz]
      clear hz
      go_wp2_with (fail)
      refine (reverse_any _ why w3 wr HER.out HOR.out (by omega)).mono ?_
      rintro e w7 ⟨rfl, hO7, hE7⟩
      have HO7 := Lib.hid hO7; clear hO7
      have HE7 := Lib.hid hE7; clear hE7
      go_wp2_with (fail)
      go_ret2
      refine ⟨_, rfl, ?_, HE3.out.trans HE7.out⟩
      have e := HBK.out
      rw [List.take_zero] at e
      rw [HWHY.out, e]
      exact HO7.out.rd
    | succ j =>
      have hj : ((j + 1 : Nat) : Int) - 1 = (j : Int) := by omega
      rw [hj]
      clear hj
      obtain ⟨bs, rfl, hbs, hcs⟩ := HCS.out (by omega)
      have hjs : j < st.length := by rw [HLS.out]; omega
      obtain ⟨hp1, hp2⟩ := hcs j _ (List.getElem?_eq_getElem hjs)
      have HP10 := Lib.hid hp1
      have hp1 := HER.out.cell hp1
      have hp2 := HER.out.cell hp2
      have hjm : j < m := by omega
      clear hcs
      obtain ⟨hq1, hq2⟩ := HNM.out _ (List.getElem_mem hjs)
      have htk : (st.take (j + 1)).reverse = st[j] :: (st.take j).reverse := by rw [List.take_succ_eq_append_getElem hjs]; simp
      rw [htk, backB] at HBK
      clear htk
      generalize st[j] = p at *
      obtain ⟨p1, p2⟩ := p
      simp only at hp1 hp2 hq1 hq2 HBK HP10
      have hgh : hs.getD p1 ([], 0) = hs[p1] := by rw [List.getD_eq_getElem?_getD, List.getElem?_eq_getElem hq1]; rfl
      rw [hgh] at hq2 HBK
      have HGH := Lib.hid hgh; clear hgh
      have hok := HOK3.out _ (List.getElem_mem hq1)
      have hp2n : p2 < nu := by rw [hq2]; exact hok.1
      have HQ2 := Lib.hid hq2; clear hq2
      have HOK := Lib.hid hok.2; clear hok
      have hp2l : p2 < need.length := by rw [HNL.out]; exact hp2n
      have hcn := HAR.out.cell (List.getElem?_eq_getElem hp2l)
      have hgn : need.getD p2 false = need[p2] := by rw [List.getD_eq_getElem?_getD, List.getElem?_eq_getElem hp2l]; rfl
      rw [hgn] at HBK
      clear hgn
      cases hb : need[p2] with
      | false =>
        rw [hb] at hcn HBK
        rw [if_neg (by decide)] at HBK
        clear hb
        go_wp2_with (fail)
        go_roundw
        case rel => exact ⟨j, need, why, by omega, by go_num, HNL.out, HER.out, HAR.out, HOR.out, HBK.out, by omega⟩
        case measure => simp [intOf]
      | true =>
        rw [hb] at hcn HBK
        rw [if_pos rfl] at HBK
        clear hb
        have hp1h : p1 < mh := by rw [← HLH.out]; exact hq1
        have HNW := Lib.hid hnw; clear hnw
        have hone : (encI p1).oneCell' = true := rfl
        go_wp2_with (at_builtin; go_must (refine wpList_append_out1 rfl (.tmp 80) (.tmp 86) 54 rfl 3 i1 _ 8 Try.underlying54 hi1 hy0 hy1 hy2 rfl encI w3 (HER.out.alloc _) (.slice Aw nw cw) why rfl (HOR.out.ext ((Ext.refl _).alloc _)) wr.heap.size 1 p1 rfl (cell_new1 _ _ _) rfl (by unfold maxLen; have := HNW.out; omega) (by have := HNW.out; omega) (nw + 1) (by rw [HNW.out]) ?_); intro gw capw w6 hown6 hE6 hg6; have hA6 : Arr w6 4 Value.bool g4 need := (HAR.out.ext ((Ext.refl _).alloc _)).appended hg6 (HOR.out.ext ((Ext.refl _).alloc _)) (by decide); clear hg6)
        have HOWN6 := Lib.hid hown6; clear hown6
        have HA6 := Lib.hid hA6; clear hA6
        clear hp1 hp2 hone hcn
        have hp1 := hE6.cell HP10.out
        have hbs6 := World.block_lt_of_cell? _ _ hp1
        simp only at hbs6
        have hcr6 := hE6.cell hcr3
        have hcrl6 := World.block_lt_of_cell? _ _ hcr6
        simp only at hcrl6
        have hrh4 := HRH.out
        obtain ⟨Ah', mh', ch', he4, -, -, -, hch4⟩ := hrh4
        injection he4 with e1 e2 e3
        subst e1 e2 e3
        obtain ⟨bh, offh, rfl, hbh, hch⟩ := hch4 (by omega)
        obtain ⟨q, hr1, hr2, hr3⟩ := hch p1 _ (List.getElem?_eq_getElem hq1)
        clear hch hch4 hr2
        have hr1 := hE6.cell hr1
        have hr3' := hr3
        obtain ⟨Aq, nn, cq, rfl, hlq, -, hcq, -⟩ := hr3'
        unfold maxLen at hcq
        have HR3 := Lib.hid hr3; clear hr3
        have HLQ := Lib.hid hlq; clear hlq
        have HE6 := Lib.hid hE6; clear hE6
        go_quiet (fail)
        go_wp2_with (fail)
        clear hr1 hp1
        obtain ⟨wo, hwo⟩ : ∃ wo, wo = w6.drewN nq := ⟨_, rfl⟩
        have hEo : Ext w3 wo := by rw [hwo]; exact HE6.out.drewN nq
        have hAo : Arr wo 4 Value.bool g4 need := by rw [hwo]; exact HA6.out.ext ((Ext.refl _).drewN nq)
        have hOo : Own wo w3.heap.size 3 encI (.slice (some ⟨gw, 0, none⟩) (nw + 1) capw) (why ++ [p1]) := by rw [hwo]; exact HOWN6.out.ext ((Ext.refl _).drewN nq)
        have hRo : Rd1 w3 encI (.slice Aq nn cq) hs[p1].1 := HR3.out
        rw [← hwo]
        clear hwo HE6 HA6 HOWN6 HR3 HAR HOR HER
        obtain ⟨hlq5, hnc5, -, hcell5⟩ := hRo.open_
        clear hRo
        have HCQ := Lib.hid hcell5; clear hcell5 hlq5
        have HEO := Lib.hid hEo; clear hEo
        have HAO := Lib.hid hAo; clear hAo
        have HOO := Lib.hid hOo; clear hOo
        go_loopw [101] (fun vi wq => ∃ t : Nat, t ≤ nn ∧ vi = .int .i64 t ∧ Ext w3 wq ∧ Arr wq 4 Value.bool g4 (setAll need (hs[p1].1.take t)) ∧ Own wq w3.heap.size 3 encI (.slice (some ⟨gw, 0, none⟩) (nw + 1) capw) (why ++ [p1])) (fun vi _ => nn - (intOf vi).toNat)
        case atStart => exact ⟨0, Nat.zero_le _, rfl, HEO.out, HAO.out, HOO.out⟩
        case round =>
          obtain ⟨t, ht, rfl, hEq, hAq, hOq⟩ := hrel
          have HEQ := Lib.hid hEq; clear hEq
          have HAQ := Lib.hid hAq; clear hAq
          have HOQ := Lib.hid hOq; clear hOq
          by_cases htn : t < nn
          · obtain ⟨bq, offq, rfl, hbq, hcq5⟩ := HCQ.out (by omega)
            have htl : t < hs[p1].1.length := by rw [HLQ.out]; exact htn
            have hct := HEQ.out.cell (hcq5 t _ (List.getElem?_eq_getElem htl))
            clear hcq5
            have hxn : hs[p1].1[t] < nu := HOK.out _ (List.getElem_mem htl)
            have htk : setAll need (hs[p1].1.take (t + 1)) = (setAll need (hs[p1].1.take t)).set hs[p1].1[t] true := by rw [List.take_succ_eq_append_getElem htl, setAll_snoc]
            generalize hs[p1].1[t] = x at *
            have hxl : x < (setAll need (hs[p1].1.take t)).length := by rw [setAll_len, HNL.out]; exact hxn
            obtain ⟨ob, hold⟩ : ∃ ob, wr.cell? ⟨g4, x, none⟩ = some (.bool ob) := ⟨_, HAQ.out.cell (List.getElem?_eq_getElem hxl)⟩
            have hfz := HAQ.out.frozen x
            have hO2 := HOQ.out.far (i := x) HAQ.out (by decide) (.bool true)
            have hA2 := HAQ.out.set_ x true
            rw [← htk] at hA2
            have HO2 := Lib.hid hO2; clear hO2
            have HA2 := Lib.hid hA2; clear hA2 htk hxl
            go_wp2_with (fail)
            go_roundw
            case rel => exact ⟨t + 1, by omega, by go_num, HEQ.out.setCell (p := ⟨g4, x, none⟩) hg4 _, HA2.out, HO2.out⟩
            case measure => simp [intOf]; omega
          · obtain rfl : t = nn := by omega
            rw [List.take_of_length_le (by have := HLQ.out; omega)] at HAQ
            go_wp2_with (fail)
            go_roundw
            case rel => exact ⟨j, setAll need hs[p1].1, why ++ [p1], by omega, by go_num, by rw [setAll_len]; exact HNL.out, HEQ.out, HAQ.out, HOQ.out, HBK.out, by simp; omega⟩
            case measure => simp [intOf]

set_option maxRecDepth 100000 in
set_option maxHeartbeats 400000 in
theorem why_err (vu vs vl : Value) (u : List Nm) (rs : List RuleN) (l : List Nm) (name : Nm) (w : World) (hu : InU w vu u) (hr : InR w vs rs) (hl : RdS w vl l) (h0 : check2E u rs l ≠ 0) :
    Calls Try.prog 35 #[vu, vs, vl, encS name] w fun e w' => e = .returned (.tuple #[.slice none 0 0, .int .i64 (check2E u rs l)]) ∧ Ext w w' := by
  have HU := Lib.hid hu; clear hu
  have HR := Lib.hid hr; clear hr
  have HL := Lib.hid hl; clear hl
  by_cases hc0 : checkE u rs = 0
  · have he : check2E u rs l = setE u l := by unfold check2E; rw [if_pos hc0]
    rw [he] at h0 ⊢
    have HC0 := Lib.hid hc0; clear hc0 he
    have hzb : (setE u l != 0) = true := by simpa using h0
    have H0 := Lib.hid h0; clear h0
    go_enter Try.func35, Try.ntmps35
    go_wp2_with (fail)
    refine (parse_ok _ _ u rs _ HU.out HR.out HC0.out).mono ?_
    rintro e w1 ⟨b, vu', vr, rfl, hS⟩
    have HS := Lib.hid hS; clear hS
    go_wp2_with (fail)
    refine (set_err b vu' vl u l _ HS.out.read.cu HS.out.read.ru HS.out.asc (HL.out.ext HS.out.ext) HS.out.szu H0.out).mono ?_
    rintro e w2 ⟨rfl, hE⟩
    have HE := Lib.hid hE; clear hE
    go_wp2_with (fail)
    go_ret2
    exact ⟨rfl, HS.out.ext.trans HE.out⟩
  · have he : check2E u rs l = checkE u rs := by unfold check2E; rw [if_neg hc0]
    rw [he] at h0 ⊢
    clear he hc0
    have hzb : (checkE u rs != 0) = true := by simpa using h0
    have H0 := Lib.hid h0; clear h0
    go_enter Try.func35, Try.ntmps35
    go_wp2_with (fail)
    refine (parse_err _ _ u rs _ HU.out HR.out H0.out).mono ?_
    rintro e w1 ⟨rfl, hE⟩
    have HE := Lib.hid hE; clear hE
    go_wp2_with (fail)
    go_ret2
    exact ⟨rfl, HE.out⟩

set_option maxRecDepth 100000 in
set_option maxHeartbeats 1000000 in
theorem why_none (vu vs vl : Value) (u : List Nm) (rs : List RuleN) (l : List Nm) (name : Nm) (w : World) (hu : InU w vu u) (hr : InR w vs rs) (hl : RdS w vl l) (h0 : check2E u rs l = 0) (hin : ¬ name ∈ (chainR rs l).1) (hnu : name ∈ u) :
    Calls Try.prog 35 #[vu, vs, vl, encS name] w fun e w' => e = .returned (.tuple #[.slice none 0 0, .int .i64 14]) ∧ Ext w w' := by
  obtain ⟨hc0, hla, hlm⟩ := check2E_zero h0
  have HU := Lib.hid hu; clear hu
  have HR := Lib.hid hr; clear hr
  have HL := Lib.hid hl; clear hl
  have hres : (chainB (rs.map (toHorn u)) (fun _ => true) (memB u l)).1.getD (ixN u name) false = false := by rw [why_in hc0 hlm hnu, decide_eq_false hin]
  have HRES := Lib.hid hres; clear hres hin
  have HC0 := Lib.hid hc0; clear hc0 h0
  have HLA := Lib.hid hla; clear hla
  have HLM := Lib.hid hlm; clear hlm
  go_enter Try.func35, Try.ntmps35
  go_wp2_with (fail)
  refine (parse_ok _ _ u rs _ HU.out HR.out HC0.out).mono ?_
  rintro e w1 ⟨b, vu', vr, rfl, hS⟩
  have HS := Lib.hid hS; clear hS
  go_wp2_with (fail)
  refine (set_ok b vu' vl u l _ HS.out.read.cu HS.out.read.ru HS.out.asc (HL.out.ext HS.out.ext) HLA.out HLM.out HS.out.szu).mono ?_
  rintro e w2 ⟨g, rfl, hg, hA, hE⟩
  have hrd := hA.rd (by rw [memB_len]; have := HU.out.sz; unfold maxLen; omega)
  rw [memB_len] at hrd
  have HRD := Lib.hid hrd; clear hrd hA
  have HE := Lib.hid hE; clear hE
  have hix := (ixI_of_mem HS.out.asc hnu).1
  have hiu := ixN_lt HS.out.asc hnu
  have HIX := Lib.hid hix; clear hix
  have hS2 := HS.out.read.ext HE.out
  go_wp2_with (fail)
  refine (at_any b vu' u name _ hS2.cu hS2.ru hS2.asc).mono ?_
  rintro e w2' ⟨rfl, rfl⟩
  rw [HIX.out]
  clear hS2
  generalize hkk : ixN u name = kk at *
  clear hkk
  go_wp2_with (fail)
  refine (chain_any b vu' vr _ _ u (rs.map (toHorn u)) (memB u l) (fun _ => true) _ (HS.out.read.ext HE.out) HRD.out (memB_len _ _) (every_use _ _)).mono ?_
  rintro e w3 ⟨g3, vst, rfl, hg3, hA3, -, hE3⟩
  have hk3 : kk < (chainB (rs.map (toHorn u)) (fun _ => true) (memB u l)).1.length := by rw [chainB_len, memB_len]; exact hiu
  have hc3 : w3.cell? ⟨g3, kk, none⟩ = some (.bool false) := by
    have := hA3.cell (List.getElem?_eq_getElem hk3)
    rw [this]
    have e := HRES.out
    rw [List.getD_eq_getElem?_getD, List.getElem?_eq_getElem hk3] at e
    simp at e
    rw [e]
  rw [memB_len]
  have HE3 := Lib.hid ((HS.out.ext.trans HE.out).trans hE3)
  clear hk3 hA3 hE3
  go_wp2_with (fail)
  go_ret2
  exact ⟨rfl, HE3.out⟩

set_option maxRecDepth 100000 in
set_option maxHeartbeats 400000 in
theorem why_name (vu vs vl : Value) (u : List Nm) (rs : List RuleN) (l : List Nm) (name : Nm) (w : World) (hu : InU w vu u) (hr : InR w vs rs) (hl : RdS w vl l) (h0 : check2E u rs l = 0) (hnu : ¬ name ∈ u) :
    Calls Try.prog 35 #[vu, vs, vl, encS name] w fun e w' => e = .returned (.tuple #[.slice none 0 0, .int .i64 3]) ∧ Ext w w' := by
  obtain ⟨hc0, hla, hlm⟩ := check2E_zero h0
  have HU := Lib.hid hu; clear hu
  have HR := Lib.hid hr; clear hr
  have HL := Lib.hid hl; clear hl
  have HC0 := Lib.hid hc0; clear hc0 h0
  have HLA := Lib.hid hla; clear hla
  have HLM := Lib.hid hlm; clear hlm
  have hix := ixI_no hnu
  have HIX := Lib.hid hix; clear hix
  go_enter Try.func35, Try.ntmps35
  go_wp2_with (fail)
  refine (parse_ok _ _ u rs _ HU.out HR.out HC0.out).mono ?_
  rintro e w1 ⟨b, vu', vr, rfl, hS⟩
  have HS := Lib.hid hS; clear hS
  go_wp2_with (fail)
  refine (set_ok b vu' vl u l _ HS.out.read.cu HS.out.read.ru HS.out.asc (HL.out.ext HS.out.ext) HLA.out HLM.out HS.out.szu).mono ?_
  rintro e w2 ⟨g, rfl, hg, hA, hE⟩
  clear hA
  have HE := Lib.hid hE; clear hE
  have hS2 := HS.out.read.ext HE.out
  go_wp2_with (fail)
  refine (at_any b vu' u name _ hS2.cu hS2.ru hS2.asc).mono ?_
  rintro e w2' ⟨rfl, rfl⟩
  rw [HIX.out]
  clear hS2
  go_wp2_with (fail)
  go_ret2
  exact ⟨rfl, HS.out.ext.trans HE.out⟩
end Go.Proofs.Ythgplaledmccgaa
