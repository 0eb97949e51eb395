/-
  Contract: forward chaining (system.chain), over an abstract function value.
-/
import Derived.Test.YthgplaledmccgaaW4
namespace Go.Proofs.Ythgplaledmccgaa
open Go.RowKit

theorem inf101 : (Try.prog.info? 101).map (fun i => (i.zero, i.size, i.bytes)) = some (some (.agg #[.int .i64 0, .int .i64 0]), 2, 16) := by kernel_rfl
abbrev encSt (p : Nat × Nat) : List Value := [.int .i64 (p.1 : Int), .int .i64 (p.2 : Int)]

def ChainPost (hs : List Horn) (U : Nat → Bool) (s : List Bool) (w : World) (e : Ending) (w' : World) : Prop :=
  ∃ g vs, e = .returned (.tuple #[.slice (some ⟨g, 0, none⟩) s.length s.length, vs]) ∧ w.heap.size ≤ g ∧ Arr w' 4 Value.bool g (chainB hs U s).1 ∧
    OwnN w' w.heap.size 101 2 encSt vs (chainB hs U s).2 ∧ Ext w w'

set_option maxRecDepth 100000 in
set_option maxHeartbeats 800000 in
theorem chain_any (b : Nat) (vu vr vs f : Value) (u : List Nm) (hs : List Horn) (s : List Bool) (U : Nat → Bool) (w : World) (hS : SysR w b vu vr u hs) (hv : Rd1 w Value.bool vs s) (hlen : s.length = u.length)
    (hU : UseAt Try.prog f hs.length U w) : Calls Try.prog 60 #[.pointer (some ⟨b, 0, none⟩), vs, f] w (ChainPost hs U s w) := by
  obtain ⟨i0, hi0, hz0, hz1, hz2⟩ := info_parts inf4
  obtain ⟨i1, hi1, hy0, hy1, hy2⟩ := info_parts inf101
  obtain ⟨gf, cap, rfl, hen, hcall⟩ := hU
  have HU := Lib.hid hcall; clear hcall
  obtain ⟨A, n, c, rfl, hl, hnc, hcm, hcell⟩ := hv
  have hn : n ≤ 1048576 := by have := hS.szu; omega
  have hH := hS.rh
  have hok : okH s.length hs := by rw [hlen]; exact hS.ok
  have hcr := hS.cr
  obtain ⟨Ah, m, ch, rfl, hlh, hmc, hchm, hcellh⟩ := hH
  have hm : m ≤ 1048576 := by have := hS.szh; omega
  have HS := Lib.hid hS; clear hS
  unfold maxLen at hcm hchm
  have HC := Lib.hid hcell; clear hcell
  have HL := Lib.hid hl; clear hl
  have HCH := Lib.hid hcellh; clear hcellh
  have HLH := Lib.hid hlh; clear hlh
  have HLEN := Lib.hid hlen; clear hlen
  have HOK := Lib.hid hok; clear hok
  go_enter Try.func60, Try.ntmps60
  have hone : ∀ x, (Value.bool x).oneCell' = true := fun _ => rfl
  go_wp2_with (first | (at_make; refine wpList_make_arr rfl (.tmp 14) (.tmp 14) 74 4 rfl i0 _ 1 Try.underlying74 hi0 hz0 hz1 hz2 rfl n rfl rfl (by omega) (by unfold maxLen; omega) ?_; intro w1 g hblk hgb hE1) | (refine wpList_copy_arr rfl (.tmp 16) (.tmp 17) 74 rfl 4 Try.underlying74 (by rw [hi0]; simp [hz1]) Value.bool g (List.replicate n false) s _ n rfl (by simp) rfl (Rd1.ext ⟨_, _, _, rfl, HL.out, hnc, by unfold maxLen; omega, HC.out⟩ hE1) (by unfold Arr; simpa using hblk) HL.out hone w hE1 hgb ?_; intro w2 hA2 hE2))
  clear hblk hE1 hone
  have hgb : w.heap.size ≤ g := hgb
  have HA2 := Lib.hid hA2; clear hA2
  have HE2 := Lib.hid hE2; clear hE2
  go_loopw [9] (fun v wr => ∃ (s' : List Bool) (l' : List (Nat × Nat)), s'.length = n ∧ Ext w wr ∧ Arr wr 4 Value.bool g s' ∧ OwnN wr w.heap.size 101 2 encSt v l' ∧
    chainB hs U s = ((chainB hs U s').1, l' ++ (chainB hs U s').2) ∧ l'.length + zeros s' ≤ n) (fun v _ => n - lenV v)
  case atStart => exact ⟨s, [], HL.out, HE2.out, HA2.out, OwnN.nil _ _ _ _ _, by simp, by have := zeros_le s; have := HL.out; simp; omega⟩
  case round =>
    obtain ⟨wo, rfl⟩ : ∃ wo : World, wo = wr := ⟨_, rfl⟩
    obtain ⟨s', l', hsn, hEr, hAr, hOr, hch, hzs⟩ := hrel
    have HSN := Lib.hid hsn; clear hsn
    have HER := Lib.hid hEr; clear hEr
    have HAR := Lib.hid hAr; clear hAr
    have HOR := Lib.hid hOr; clear hOr
    have HCHB := Lib.hid hch; clear hch
    have hcr1 := HER.out.cell hcr
    have hbw : b < wo.heap.size := World.block_lt_of_cell? _ _ hcr1
    go_wp2_with (fail)
    obtain ⟨w3, hw3⟩ : ∃ w3, w3 = wo.alloc (Obj.cells #[Value.int IntKind.i64 (-1), Value.int IntKind.i64 0] 101) := ⟨_, rfl⟩
    have hE3 : Ext wo w3 := by rw [hw3]; exact (Ext.refl wo).alloc _
    have hB3 : Blk w3 wo.heap.size 101 #[Value.int IntKind.i64 (-1), Value.int IntKind.i64 0] := by rw [hw3]; exact Blk.new _ _ _
    rw [← hw3]
    clear hw3
    have hgn : w.heap.size ≤ wo.heap.size := HER.out.size
    have hgne : g ≠ wo.heap.size := by have := HAR.out.lt; omega
    obtain ⟨gn, HGW⟩ : ∃ gn, Hid (wo.heap.size = gn) := ⟨_, rfl⟩
    rw [HGW.out] at hB3 hbw hgn hgne ⊢
    have HE3 := Lib.hid hE3; clear hE3
    have HB3 := Lib.hid hB3; clear hB3
    go_loopw [25] (fun i wq => ∃ j : Nat, j ≤ m ∧ i = .int .i64 j ∧ Ext w3 wq ∧ ∀ t < j, (U t && firesB s' (hs.getD t ([], 0))) = false) (fun i _ => m - (intOf i).toNat)
    case atStart => exact ⟨0, Nat.zero_le _, rfl, Ext.refl _, by intro t ht; omega⟩
    case round =>
      obtain ⟨j, hj, rfl, hEq, hno⟩ := hrel
      have HEQ := Lib.hid hEq; clear hEq
      have HNO := Lib.hid hno; clear hno
      by_cases hlt : j < m
      · obtain ⟨bh, offh, rfl, hbh, hch⟩ := HCH.out (by omega)
        have hjh : j < hs.length := by rw [HLH.out]; exact hlt
        obtain ⟨q, hq1, hq2, hq3⟩ := hch j hs[j] (List.getElem?_eq_getElem hjh)
        have hEw : Ext w wr := (HER.out.trans HE3.out).trans HEQ.out
        have hq3' := hq3
        obtain ⟨Aq, nq, cq, rfl, -⟩ := hq3'
        have HQ := Lib.hid hq3; clear hq3
        have hq1 := hEw.cell hq1
        have hq2 := hEw.cell hq2
        have HEW := Lib.hid hEw
        clear hEw hch
        have hgd : hs.getD j ([], 0) = hs[j] := by rw [List.getD_eq_getElem?_getD, List.getElem?_eq_getElem hjh]; rfl
        have HGD := Lib.hid hgd; clear hgd
        have hjok := HS.out.ok _ (List.getElem_mem hjh)
        have hsu : s'.length = u.length := by rw [HSN.out, ← HL.out, HLEN.out]
        have hth : hs[j].2 < n := by have := hjok.1; have := HSN.out; omega
        have hrv : ∀ W, Ext wo W → Rd1 W Value.bool (.slice (some ⟨g, 0, none⟩) n n) s' := fun W hE => by
          have := (HAR.out.ext hE).rd (by have := HSN.out; unfold maxLen; omega)
          rw [HSN.out] at this
          exact this
        have HRV := Lib.hid hrv; clear hrv
        have HJOK : Hid (hs[j].2 < s'.length ∧ ∀ p ∈ hs[j].1, p < s'.length) := by rw [hsu]; exact hjok
        clear hjok hsu
        cases hUj : U j with
        | false =>
          have HUJ := Lib.hid hUj; clear hUj
          go_wp2_with (fail)
          refine (HU.out _ j (HEW.out.alloc _) hjh).mono ?_
          rintro e w' ⟨rfl, rfl⟩
          rw [HUJ.out]
          go_wp2_with (fail)
          go_roundw
          case rel =>
            refine ⟨j + 1, by omega, by go_num, HEQ.out.alloc _, fun t ht => ?_⟩
            by_cases htj : t = j
            · subst htj; rw [HUJ.out]; rfl
            · exact HNO.out t (by omega)
          case measure => simp [intOf]; omega
        | true =>
          have HUJ := Lib.hid hUj; clear hUj
          cases hfj : firesB s' hs[j] with
          | false =>
            have HFJ := Lib.hid hfj; clear hfj
            go_wp2_with (fail)
            refine (HU.out _ j (HEW.out.alloc _) hjh).mono ?_
            rintro e w' ⟨rfl, rfl⟩
            rw [HUJ.out]
            go_wp2_with (fail)
            refine (fires_any _ _ hs[j] s' _ (HQ.out.ext (HEW.out.alloc _)) (HRV.out _ ((HE3.out.trans HEQ.out).alloc _)) HJOK.out.1 HJOK.out.2).mono ?_
            rintro e w' ⟨rfl, hE'⟩
            rw [HFJ.out]
            have HE' := Lib.hid hE'; clear hE'
            go_wp2_with (fail)
            go_roundw
            case rel =>
              refine ⟨j + 1, by omega, by go_num, (HEQ.out.alloc _).trans HE'.out, fun t ht => ?_⟩
              by_cases htj : t = j
              · subst htj; rw [HGD.out, HFJ.out, Bool.and_false]
              · exact HNO.out t (by omega)
            case measure => simp [intOf]; omega
          | true =>
            have HFJ := Lib.hid hfj; clear hfj
            go_wp2_with (fail)
            refine (HU.out _ j (HEW.out.alloc _) hjh).mono ?_
            rintro e w' ⟨rfl, rfl⟩
            rw [HUJ.out]
            go_wp2_with (fail)
            refine (fires_any _ _ hs[j] s' _ (HQ.out.ext (HEW.out.alloc _)) (HRV.out _ ((HE3.out.trans HEQ.out).alloc _)) HJOK.out.1 HJOK.out.2).mono ?_
            rintro e w4 ⟨rfl, hE4⟩
            rw [HFJ.out]
            have h12 : w4.cell? ⟨wr.heap.size, 1, none⟩ = some (.int .i64 (hs[j].2 : Int)) := hE4.cell ((Blk.new _ _ _).cell 1)
            have hE34 : Ext w3 w4 := (HEQ.out.alloc _).trans hE4
            have hB4 := HB3.out.ext hE34
            have hn0 := hB4.cell 0
            have hn1 := hB4.cell 1
            have hf0 := hB4.frozen 0
            have hf1 := hB4.frozen 1
            simp only [List.getElem?_toArray, List.getElem?_cons_zero, List.getElem?_cons_succ] at hn0 hn1
            have hA4 : Arr w4 4 Value.bool g s' := HAR.out.ext (HE3.out.trans hE34)
            obtain ⟨ob, hob⟩ : ∃ ob, w4.cell? ⟨g, hs[j].2, none⟩ = some (.bool ob) := ⟨s'[hs[j].2]'HJOK.out.1, hA4.cell (List.getElem?_eq_getElem HJOK.out.1)⟩
            have hfg := hA4.frozen hs[j].2
            have hgne2 : gn ≠ g := fun h => hgne h.symm
            have hjm1 : ((j : Int) == -1) = false := by simp
            have HE4 := Lib.hid hE4; clear hE4
            have HE34 := Lib.hid hE34; clear hE34
            have HB4 := Lib.hid hB4; clear hB4
            have HA4 := Lib.hid hA4; clear hA4
            have hown1 : OwnN ((w4.setCell ⟨gn, 0, none⟩ (.int .i64 (j : Int))).setCell ⟨gn, 1, none⟩ (.int .i64 (hs[j].2 : Int))) w.heap.size 101 2 encSt u9 l' :=
              HOR.out.ext (((HE3.out.trans HE34.out).setCell (p := ⟨gn, 0, none⟩) (by rw [HGW.out]; exact Nat.le_refl _) _).setCell (p := ⟨gn, 1, none⟩) (by rw [HGW.out]; exact Nat.le_refl _) _)
            have hA5 : Arr ((w4.setCell ⟨gn, 0, none⟩ (.int .i64 (j : Int))).setCell ⟨gn, 1, none⟩ (.int .i64 (hs[j].2 : Int))) 4 Value.bool g s' := (HA4.out.far hgne _).far hgne _
            have hown2 := hown1.far (i := hs[j].2) hA5 (by decide) (.bool true)
            have hA6 := hA5.set_ hs[j].2 true
            have HOWN := Lib.hid hown2; clear hown2 hown1
            have HA6 := Lib.hid hA6; clear hA6 hA5
            have hE6 : Ext w (((w4.setCell ⟨gn, 0, none⟩ (.int .i64 (j : Int))).setCell ⟨gn, 1, none⟩ (.int .i64 (hs[j].2 : Int))).setCell ⟨g, hs[j].2, none⟩ (.bool true)) :=
              ((((HER.out.trans HE3.out).trans HE34.out).setCell (p := ⟨gn, 0, none⟩) hgn _).setCell (p := ⟨gn, 1, none⟩) hgn _).setCell (p := ⟨g, hs[j].2, none⟩) hgb _
            have HE6 := Lib.hid hE6; clear hE6
            go_upto_region 14 with (fail)
            obtain ⟨w6, hw6⟩ : ∃ w6, w6 = (((w4.setCell ⟨gn, 0, none⟩ (.int .i64 (j : Int))).setCell ⟨gn, 1, none⟩ (.int .i64 (hs[j].2 : Int))).setCell ⟨g, hs[j].2, none⟩ (.bool true)) := ⟨_, rfl⟩
            have h60 : w6.cell? ⟨gn, 0, none⟩ = some (.int .i64 (j : Int)) := by
              rw [hw6, World.cell?_setCell_other _ _ _ _ (by intro e; injection e with e1; exact hgne e1), World.cell?_setCell_other _ _ _ _ (by intro e; injection e with e1 e2; cases e2)]
              exact (HB4.out.set_ 0 (.int .i64 (j : Int))).cell 0
            have h61 : w6.cell? ⟨gn, 1, none⟩ = some (.int .i64 (hs[j].2 : Int)) := by
              rw [hw6, World.cell?_setCell_other _ _ _ _ (by intro e; injection e with e1; exact hgne e1)]
              exact ((HB4.out.set_ 0 (.int .i64 (j : Int))).set_ 1 (.int .i64 (hs[j].2 : Int))).cell 1
            have hgl6 : gn < w6.heap.size := World.block_lt_of_cell? _ _ h60
            have HE6' : Hid (Ext w w6) := by rw [hw6]; exact HE6
            have HOWN6 : Hid (OwnN w6 w.heap.size 101 2 encSt u9 l') := by rw [hw6]; exact HOWN
            have HA6' : Hid (Arr w6 4 Value.bool g (s'.set hs[j].2 true)) := by rw [hw6]; exact HA6
            rw [← hw6]
            clear hw6 HOWN HA6 HE6 hob hfg hf0 hf1 hn0 hn1 h12 hq1 hq2 HE4 HB4 HA4 hjm1
            have hfire : fireI hs U s' = some j := fireI_of hjh HNO.out (by rw [HGD.out, HUJ.out, HFJ.out]; rfl)
            have hcs := chainB_some (U := U) (by rw [HSN.out, ← HL.out]; exact HOK.out) hfire
            rw [HGD.out] at hcs
            have hz0 : s'.getD hs[j].2 false = false := by
              have := HFJ.out
              unfold firesB at this
              simp only [Bool.and_eq_true, Bool.not_eq_true'] at this
              exact this.1
            have hzz := zeros_set HJOK.out.1 hz0
            have HCS := Lib.hid hcs; clear hcs hfire hz0
            have hlen' : l'.length + 1 ≤ n := by omega
            go_wp2_with (at_builtin; go_must (refine wpList_append_oneN rfl (.tmp 52) (.tmp 54) 97 rfl 101 i1 _ 2 16 Try.underlying97 hi1 hy0 hy1 hy2 rfl (by decide) encSt (fun _ => rfl) w (HE6'.out.alloc _) _ l' rfl (OwnN.ext HOWN6.out ((Ext.refl _).alloc _)) w6.heap.size 1 (j, hs[j].2) rfl (cells_new _ _ _ _ rfl) ?c1 ?c2 ?c3 ?c4))
            case c1 =>
              intro x hx
              simp only [encSt, List.mem_cons, List.not_mem_nil, or_false] at hx
              rcases hx with rfl | rfl <;> rfl
            case c2 => unfold maxLen; omega
            case c3 => omega
            case c4 =>
              intro v' w7 hown7 hE7 hg7
              have hA7 : Arr w7 4 Value.bool g (s'.set hs[j].2 true) := (HA6'.out.ext ((Ext.refl _).alloc _)).appendedN hg7 (OwnN.ext HOWN6.out ((Ext.refl _).alloc _)) (by decide)
              clear hg7
              have HOWN7 := Lib.hid hown7; clear hown7
              have HE7 := Lib.hid hE7; clear hE7
              have HA7 := Lib.hid hA7; clear hA7
              go_wp2_with (fail)
              go_roundw
              case rel =>
                refine ⟨s'.set hs[j].2 true, l' ++ [(j, hs[j].2)], by rw [List.length_set]; exact HSN.out, HE7.out, HA7.out, HOWN7.out, ?_, ?_⟩
                · rw [HCHB.out, HCS.out]; simp
                · simp; omega
              case measure =>
                have e1 := HOWN7.out.lenV
                have e2 := HOR.out.lenV
                simp only [List.length_append, List.length_cons, List.length_nil] at e1
                simp [e1, e2]
                omega
      · have hB4 := HB3.out.ext HEQ.out
        have hn0 := hB4.cell 0
        have hn1 := hB4.cell 1
        simp only [List.getElem?_toArray, List.getElem?_cons_zero, List.getElem?_cons_succ] at hn0 hn1
        have hfn : fireI hs U s' = none := fireI_none fun i hi => HNO.out i (by have := HLH.out; omega)
        have hcn := chainB_none hfn
        have HCN := Lib.hid hcn; clear hcn hfn
        clear hB4
        go_wp2_with (fail)
        go_ret2
        have hE4 := HE3.out.trans HEQ.out
        have e := HCHB.out
        rw [HCN.out, List.append_nil] at e
        refine ⟨g, u9, by rw [HL.out]; rfl, hgb, ?_, ?_, HER.out.trans hE4⟩
        · rw [e]; exact HAR.out.ext hE4
        · rw [e]; exact HOR.out.ext hE4
end Go.Proofs.Ythgplaledmccgaa
