/-
  Contract: system.add.
-/
import Derived.Test.YthgplaledmccgaaW6
import Derived.Test.YthgplaledmccgaaMem3
import Derived.Deep.RegionLaw
namespace Go.Proofs.Ythgplaledmccgaa
open Go.RowKit

theorem inf86 : (Try.prog.info? 86).map (fun i => (i.zero, i.size, i.bytes)) = some (some (.agg #[.slice none 0 0, .int .i64 0]), 2, 32) := by kernel_rfl
abbrev Sys (w0 w : World) (b : Nat) (vu vr : Value) (u : List Nm) (hs : List Horn) : Prop := SysO 82 86 3 w0 w b vu vr u hs
abbrev ORules (w : World) (base : Nat) (v : Value) (hs : List Horn) : Prop := OwnRules w base 86 3 v hs

def AddPost (w0 : World) (b : Nat) (vu : Value) (u : List Nm) (hs : List Horn) (rs : List RuleN) (X : List (Nat × TypeId × Array Value)) (e : Ending) (w' : World) : Prop :=
  e = .returned (.int .i64 (rulesE u rs)) ∧ Ext w0 w' ∧ (rulesE u rs = 0 → ∃ vr, Sys w0 w' b vu vr u (hs ++ rs.map (toHorn u)) ∧ ∀ p ∈ X, Blk w' p.1 p.2.1 p.2.2)

set_option maxRecDepth 100000 in
set_option maxHeartbeats 4000000 in
theorem add_any (w0 : World) (b : Nat) (vu vr vs : Value) (u : List Nm) (hs : List Horn) (rs : List RuleN) (w : World) (hS : Sys w0 w b vu vr u hs) (X : List (Nat × TypeId × Array Value)) (hXt : ∀ p ∈ X, 86 ≠ p.2.1 ∧ p.2.1 ≠ 82) (hX : ∀ p ∈ X, Blk w p.1 p.2.1 p.2.2)
    (hr : ∀ W, Ext w0 W → (∀ p ∈ X, Blk W p.1 p.2.1 p.2.2) → RdR W vs rs) (hsz : hs.length + rs.length ≤ 1048576) (hpr : ∀ r ∈ rs, r.1.length ≤ 1048576) :
    Calls Try.prog 49 #[.pointer (some ⟨b, 0, none⟩), vs] w (AddPost w0 b vu u hs rs X) := by
  obtain ⟨i0, hi0, hz0, hz1, hz2⟩ := info_parts inf3
  obtain ⟨i1, hi1, hy0, hy1, hy2⟩ := info_parts inf86
  have hr0 := hr w hS.ext hX
  obtain ⟨A, n, c, rfl, hl, hnc, hcm, -⟩ := hr0
  have hcell : ∀ W, Ext w0 W → (∀ p ∈ X, Blk W p.1 p.2.1 p.2.2) → 0 < n → ∃ b off, A = some ⟨b, off, none⟩ ∧ b < W.heap.size ∧ ∀ j r, rs[j]? = some r →
      ∃ q, W.cell? ⟨b, off + j * 2, none⟩ = some q ∧ W.cell? ⟨b, off + j * 2 + 1, none⟩ = some (encS r.2) ∧ RdS W q r.1 := by
    intro W hE hXW
    obtain ⟨A', n', c', he, _, _, _, hc⟩ := hr W hE hXW
    injection he with e1 e2 e3
    subst e1 e2
    exact hc
  clear hr
  have HX := Lib.hid hX; clear hX
  have HXT := Lib.hid hXt; clear hXt
  unfold maxLen at hcm
  have hn : n ≤ 1048576 := by omega
  have HN : Hid (hs.length + n ≤ 1048576) := by rw [← hl]; exact hsz
  have HSZ := Lib.hid hsz; clear hsz
  have hnew := hS.new
  have HS := Lib.hid hS; clear hS
  have HL := Lib.hid hl; clear hl
  have HC := Lib.hid hcell; clear hcell
  have HPR := Lib.hid hpr; clear hpr
  go_enter Try.func49, Try.ntmps49
  go_wp2_with (fail)
  go_loopw [13] (fun i wr => ∃ (k : Nat) (vr' : Value), k ≤ n ∧ i = .int .i64 k ∧ Sys w0 wr b vu vr' u (hs ++ (rs.take k).map (toHorn u)) ∧ (∀ r ∈ rs.take k, okRule u r) ∧ ∀ p ∈ X, Blk wr p.1 p.2.1 p.2.2) (fun i _ => n - (intOf i).toNat)
  case atStart => exact ⟨0, vr, Nat.zero_le _, rfl, by simpa using HS.out, by simp, HX.out⟩
  case round =>
    obtain ⟨wo, rfl⟩ : ∃ wo : World, wo = wr := ⟨_, rfl⟩
    obtain ⟨k, vr', hk, rfl, hSk, hok, hXk⟩ := hrel
    have HXK := Lib.hid hXk; clear hXk
    have HSK := Lib.hid hSk; clear hSk
    have HOK := Lib.hid hok; clear hok
    by_cases hlt : k < n
    · obtain ⟨bl, off, rfl, hbl', hcl⟩ := HC.out wo HSK.out.ext HXK.out (by omega)
      have hkl : k < rs.length := by rw [HL.out]; exact hlt
      obtain ⟨q, hq1, hq2, hq3⟩ := hcl k rs[k] (List.getElem?_eq_getElem hkl)
      clear hcl
      have hrl : rs[k].1.length ≤ 1048576 := HPR.out _ (List.getElem_mem hkl)
      have hspl : rs = rs.take k ++ (rs[k] :: rs.drop (k + 1)) := by rw [← List.drop_eq_getElem_cons hkl, List.take_append_drop]
      have htk := List.take_succ_eq_append_getElem hkl
      have HTK := Lib.hid htk; clear htk
      have hru : rulesE u rs = rulesE u (rs[k] :: rs.drop (k + 1)) := by
        conv => lhs; rw [hspl]
        exact rulesE_skip HOK.out
      have HRU := Lib.hid hru; clear hru hspl
      generalize hrk : rs[k] = r at *
      have HRK := Lib.hid hrk; clear hrk
      obtain ⟨If, th⟩ := r
      simp only at hq2 hq3 hrl
      have hq3' := hq3
      obtain ⟨Aq, nq, cq, rfl, hlq, hncq, hcmq, hcellq⟩ := hq3'
      have HQ := Lib.hid hq3; clear hq3
      unfold maxLen at hcmq
      have HLQ := Lib.hid hlq; clear hlq
      have HCQ := Lib.hid hcellq; clear hcellq
      cases has : ascB If with
      | false =>
        have HAS := Lib.hid has; clear has
        go_wp2_with (go_at_call 72; refine (sorted_any _ If _ (HQ.out.ext ((Ext.refl _).alloc _))).mono ?_; rintro e w' ⟨rfl, m, rfl⟩; rw [HAS.out])
        go_ret
        have he : rulesE u rs = 1 := HRU.out.trans (rulesE_head (ruleE_asc HAS.out) (by decide))
        exact ⟨by rw [he]; rfl, (HSK.out.ext.alloc _).drewN _, by rw [he]; intro h; cases h⟩
      | true =>
        have HAS := Lib.hid has; clear has
        have hbs := HSK.out.blk
        have hbw := hbs.lt
        have hc0 := hbs.cell 0
        have hc1 := hbs.cell 1
        simp only [List.getElem?_toArray, List.getElem?_cons_zero, List.getElem?_cons_succ] at hc0 hc1
        have HBS := Lib.hid hbs; clear hbs
        have HRU2 := HSK.out.ru.ext HSK.out.ext
        go_wp2_with (first | (go_at_call 72; refine (sorted_any _ If _ (HQ.out.ext ((Ext.refl _).alloc _))).mono ?_; rintro e w' ⟨rfl, m, rfl⟩; rw [HAS.out]) | (go_at_call 59; refine (at_any b vu u th _ (by go_simp) (HRU2.ext (((Ext.refl _).alloc _).drewN _)) HSK.out.asc).mono ?_; rintro e w' ⟨rfl, rfl⟩))
        refine wp_world (fun w2 => Ext wo w2 ∧ Blk w2 (wo.heap.size + 1) 86 #[.slice none 0 0, .int .i64 (ixI u th)]) ⟨?_, ?_⟩ ?_
        · repeat (first | exact Ext.refl _ | apply Ext.alloc | apply Ext.drewN | apply Ext.drew)
        · exact Blk.new' _ _ _ _ (by simp)
        rintro w2 ⟨hE2, hB2⟩
        have hgh : wo.heap.size ≤ wo.heap.size + 1 := Nat.le_succ _
        have hghb : b < wo.heap.size + 1 := by omega
        obtain ⟨gh, HGH⟩ : ∃ gh, Hid (wo.heap.size + 1 = gh) := ⟨_, rfl⟩
        rw [HGH.out] at hB2 hgh hghb ⊢
        have HE2 := Lib.hid hE2; clear hE2
        have HB2 := Lib.hid hB2; clear hB2
        clear hq1 hq2 hc0 hc1
        go_loopw [29] (fun i wr => ∃ (j : Nat) (v : Value), j ≤ nq ∧ i = .int .i64 j ∧ Ext wo wr ∧ Blk wr gh 86 #[v, .int .i64 (ixI u th)] ∧ Own wr wo.heap.size 3 encI v ((If.take j).map (ixN u)) ∧ ∀ x ∈ If.take j, x ∈ u) (fun i _ => nq - (intOf i).toNat)
        case atStart => exact ⟨0, _, Nat.zero_le _, rfl, HE2.out, HB2.out, Own.nil _ _ _ _, by simp⟩
        case round =>
          obtain ⟨j, v, hj, rfl, hEr, hBr, hOr, hin⟩ := hrel
          have HER := Lib.hid hEr; clear hEr
          have HIN := Lib.hid hin; clear hin
          have hb0 := hBr.cell 0
          have hb1 := hBr.cell 1
          have hf0 := hBr.frozen 0
          have hghl := hBr.lt
          simp only [List.getElem?_toArray, List.getElem?_cons_zero, List.getElem?_cons_succ] at hb0 hb1
          have HBR := Lib.hid hBr; clear hBr
          have HOR := Lib.hid hOr; clear hOr
          by_cases hlt2 : j < nq
          · obtain ⟨bq, offq, rfl, hbq, hcq⟩ := HCQ.out (by omega)
            have hjl : j < If.length := by rw [HLQ.out]; exact hlt2
            have hx1 := HER.out.cell (hcq j If[j] (List.getElem?_eq_getElem hjl))
            clear hcq
            have hcb : wr.cell? ⟨b, 0, none⟩ = some vu := HER.out.cell (HBS.out.cell 0)
            have HRU3 := HRU2.ext HER.out
            by_cases hmem : If[j] ∈ u
            · obtain ⟨hix, hiu⟩ := ixI_of_mem HSK.out.asc hmem
              have HIX := Lib.hid hix; clear hix hiu
              have HMEM := Lib.hid hmem; clear hmem
              have hlm : ((If.take j).map (ixN u)).length + 1 = j + 1 := by simp; omega
              have HLM := Lib.hid hlm; clear hlm
              go_wp2_with (first | (go_at_call 59; refine (at_any b vu u If[j] _ hcb HRU3 HSK.out.asc).mono ?_; rintro e w' ⟨rfl, rfl⟩; rw [HIX.out]) | (at_builtin; go_must (refine wpList_append_out1 rfl (.tmp 39) (.tmp 41) 54 rfl 3 i0 _ 8 Try.underlying54 hi0 hz0 hz1 hz2 rfl encI wo (HER.out.alloc _) v _ rfl (HOR.out.ext ((Ext.refl _).alloc _)) wr.heap.size 1 (ixN u If[j]) rfl (cell_new1 _ _ _) rfl ?c1 ?c2 (j + 1) HLM.out ?c3)))
              case c1 => rw [HLM.out]; unfold maxLen; omega
              case c2 => rw [HLM.out]; omega
              case c3 =>
                intro g' cap' w5 hown5 hE5 hg5
                have hb5 := (HBR.out.ext ((Ext.refl _).alloc _)).appended hg5 (HOR.out.ext ((Ext.refl _).alloc _)) (by decide)
                clear hg5
                have hc0 := hb5.cell 0
                have hf0' := hb5.frozen 0
                simp only [List.getElem?_toArray, List.getElem?_cons_zero] at hc0
                have HB5 := Lib.hid hb5; clear hb5
                have HOWN5 := Lib.hid hown5; clear hown5
                have HE5 := Lib.hid hE5; clear hE5
                go_wp2_with (fail)
                go_roundw
                case rel =>
                  refine ⟨j + 1, _, by omega, by go_num, HE5.out.setCell (p := ⟨gh, 0, none⟩) hgh _, HB5.out.set_ 0 _, ?_, ?_⟩
                  · rw [List.take_succ_eq_append_getElem hjl, List.map_append]
                    have := HOWN5.out.far (i := 0) HB5.out (by decide) (.slice (some ⟨g', 0, none⟩) (j + 1) cap')
                    simpa using this
                  · intro x hx
                    rw [List.take_succ_eq_append_getElem hjl, List.mem_append] at hx
                    rcases hx with hx | hx
                    · exact HIN.out x hx
                    · rw [List.mem_singleton] at hx
                      subst hx
                      exact HMEM.out
                case measure => simp [intOf]; omega
            · have hix := ixI_no hmem
              have HIX := Lib.hid hix; clear hix
              go_wp2_with (go_at_call 59; refine (at_any b vu u If[j] _ hcb HRU3 HSK.out.asc).mono ?_; rintro e w' ⟨rfl, rfl⟩; rw [HIX.out])
              go_ret
              have he : rulesE u rs = 3 := HRU.out.trans (rulesE_head (ruleE_name HAS.out (fun h => hmem (h.1 _ (List.getElem_mem hjl)))) (by decide))
              exact ⟨by rw [he]; rfl, HSK.out.ext.trans HER.out, by rw [he]; intro h; cases h⟩
          · obtain rfl : j = nq := by omega
            have hin := HIN.out
            have hor := HOR.out
            have hIf : If.take j = If := List.take_of_length_le (by have := HLQ.out; omega)
            rw [hIf] at hin hor
            have HIN := Lib.hid hin; clear hin
            have HOR := Lib.hid hor; clear hor hIf
            by_cases hmt : th ∈ u
            · obtain ⟨hix, hiu⟩ := ixI_of_mem HSK.out.asc hmt
              rw [hix] at hb1 HBR
              have HIX := Lib.hid hix; clear hix hiu
              have hbb := HBS.out.ext HER.out
              have hbb1 := hbb.cell 1
              have hbf1 := hbb.frozen 1
              have hbl1 := hbb.lt
              simp only [List.getElem?_toArray, List.getElem?_cons_zero, List.getElem?_cons_succ] at hbb1
              have HBB := Lib.hid hbb; clear hbb
              obtain ⟨qs, ho1, ho2, ho3⟩ := HSK.out.own
              have ho1 := ho1.ext HER.out
              have hql : qs.length = hs.length + k := by
                have := congrArg List.length ho2
                simp only [List.length_map, List.length_append, List.length_take] at this
                have := HL.out
                omega
              have HO1 := Lib.hid ho1; clear ho1
              have HO2 := Lib.hid ho2; clear ho2
              have HO3 := Lib.hid ho3; clear ho3
              obtain ⟨Av, nv, cv, rfl, -⟩ := HOR.out.rd
              go_wp2_with (fail)
              have hone : ∀ x ∈ encQ (.slice Av nv cv, ixN u th), x.oneCell' = true := by
                intro x hx
                simp only [List.mem_cons, List.not_mem_nil, or_false] at hx
                rcases hx with rfl | rfl <;> rfl
              have hnn := HN.out
              have HQL := Lib.hid hql; clear hql
              have he1 : ∀ o : Obj, Ext w0 (wr.drew.alloc o) := fun o => (HSK.out.ext.trans HER.out).drew.alloc o
              have he2 : ∀ o : Obj, OwnN (wr.drew.alloc o) w0.heap.size 86 2 encQ vr' qs := fun o => HO1.out.ext ((Ext.refl _).drew.alloc o)
              have he3 : ∀ i x, (encQ (.slice Av nv cv, ixN u th))[i]? = some x → (wr.drew.alloc (.cells #[.slice Av nv cv, .int .i64 (ixN u th : Int)] 86)).cell? ⟨wr.heap.size, i, none⟩ = some x := cells_new wr.drew _ _ _ rfl
              have hql : qs.length + 1 = hs.length + k + 1 := by rw [HQL.out]
              have HE1 := Lib.hid he1; clear he1
              have HE2 := Lib.hid he2; clear he2
              have HE3 := Lib.hid he3; clear he3
              have HQ1 := Lib.hid hql; clear hql
              have HONE := Lib.hid hone; clear hone
              go_region_law ((refine step_append_outN rfl (.tmp 52) (.tmp 54) 80 rfl 86 i1 _ 2 32 Try.underlying80 hi1 hy0 hy1 hy2 rfl (by decide) encQ (fun _ => rfl) w0 (HE1.out _) vr' qs rfl (HE2.out _) wr.heap.size 1 (.slice Av nv cv, ixN u th) rfl HE3.out HONE.out (by rw [HQ1.out]; unfold maxLen; omega) (by rw [HQ1.out]; omega) (hs.length + k + 1) HQ1.out ?_); intro g5 cap5 w5 hown5 hE5 hg5; have hb5 : Blk w5 b 82 #[vu, vr'] := (HBB.out.ext ((Ext.refl _).drew.alloc _)).appended hg5 (HE2.out _) (by decide); have HGR5 : Hid (∀ (v0 : Value) (l0 : List Nat) (B0 : Nat), Own wr B0 3 encI v0 l0 → Own w5 B0 3 encI v0 l0) := fun v0 l0 B0 h0 => Own.appendedN (h0.ext ((Ext.refl _).drew.alloc _)) hg5 (HE2.out _) (by decide); have HGX5 : Hid (∀ p ∈ X, Blk (w5.setCell ⟨b, 1, none⟩ (.slice (some ⟨g5, 0, none⟩) (hs.length + k + 1) cap5)) p.1 p.2.1 p.2.2) := fun p hp => (((((HXK.out p hp).ext HER.out).ext ((Ext.refl _).drew.alloc _)).appended hg5 (HE2.out _) (HXT.out p hp).1).far (p := ⟨b, 1, none⟩) (Blk.ne_ ((((HXK.out p hp).ext HER.out).ext ((Ext.refl _).drew.alloc _)).appended hg5 (HE2.out _) (HXT.out p hp).1) hb5 (HXT.out p hp).2) _); clear hg5; have hc5 := hb5.cell 1; have hf5 := hb5.frozen 1; simp only [List.getElem?_toArray, List.getElem?_cons_zero, List.getElem?_cons_succ] at hc5; have HB5 := Lib.hid hb5; clear hb5; have HOWN5 := Lib.hid hown5; clear hown5; have HE5 := Lib.hid hE5; clear hE5)
              all_goals
                go_wp2_with (fail)
                go_roundw
                case rel =>
                  have hrk : okRule u (If, th) := ⟨HAS.out, HIN.out, hmt⟩
                  have hok2 : ∀ r ∈ rs.take (k + 1), okRule u r := by
                    intro r hr
                    rw [HTK.out, List.mem_append] at hr
                    rcases hr with hr | hr
                    · exact HOK.out r hr
                    · rw [List.mem_singleton] at hr
                      rw [hr]
                      exact hrk
                  refine ⟨k + 1, _, by omega, by go_num, ⟨HB5.out.set_ 1 _, hnew, HE5.out.setCell (p := ⟨b, 1, none⟩) hnew _, HSK.out.ru, ?_, HSK.out.asc, ?_, HSK.out.szu, ?_⟩, hok2, HGX5.out⟩
                  · refine ⟨qs ++ [(.slice Av nv cv, ixN u th)], HOWN5.out.far HB5.out (by decide) _, ?_, ?_⟩
                    · rw [HTK.out]
                      simp only [List.map_append, HO2.out, ← List.append_assoc]
                      simp [toHorn]
                    · intro i p x hp hx
                      rw [HTK.out] at hx
                      rw [List.map_append, ← List.append_assoc] at hx
                      have hll : (hs ++ (rs.take k).map (toHorn u)).length = qs.length := by
                        have := congrArg List.length HO2.out
                        simpa using this.symm
                      by_cases hi : i < qs.length
                      · rw [List.getElem?_append_left hi] at hp
                        rw [List.getElem?_append_left (by rw [hll]; exact hi)] at hx
                        exact (HGR5.out _ _ _ ((HO3.out i p x hp hx).ext HER.out)).far HB5.out (by decide) _
                      · rw [List.getElem?_append_right (by omega)] at hp
                        rw [List.getElem?_append_right (by rw [hll]; omega), hll] at hx
                        have h0 : i - qs.length = 0 := by
                          have := (List.getElem?_eq_some_iff.1 hp).1
                          simp at this
                          omega
                        rw [h0] at hp hx
                        simp only [List.getElem?_cons_zero, Option.some.injEq, List.map_cons, List.map_nil] at hp hx
                        rw [← hp, ← hx]
                        exact (HGR5.out _ _ _ (HOR.out.up HSK.out.ext.size)).far HB5.out (by decide) _
                  · have := okH_of HSK.out.asc hok2
                    intro x hx
                    rw [List.mem_append] at hx
                    rcases hx with hx | hx
                    · exact HSK.out.ok x (by rw [List.mem_append]; exact .inl hx)
                    · exact this x hx
                  · simp only [List.length_append, List.length_map, List.length_take]
                    have := HN.out
                    omega
                case measure => simp [intOf]; omega
            · have hix := ixI_no hmt
              rw [hix] at hb1
              have HIX := Lib.hid hix; clear hix
              go_wp2_with (fail)
              go_ret
              have he : rulesE u rs = 3 := HRU.out.trans (rulesE_head (ruleE_name HAS.out (fun h => hmt h.2)) (by decide))
              exact ⟨by rw [he]; rfl, HSK.out.ext.trans HER.out, by rw [he]; intro h; cases h⟩
    · obtain rfl : k = n := by omega
      have hall := HOK.out
      have htk : rs.take k = rs := List.take_of_length_le (by have := HL.out; omega)
      rw [htk] at hall
      have he : rulesE u rs = 0 := rulesE_ok.2 hall
      go_wp2_with (fail)
      go_ret
      refine ⟨by rw [he]; rfl, HSK.out.ext, fun _ => ⟨vr', ?_, HXK.out⟩⟩
      have := HSK.out
      rw [htk] at this
      exact this
end Go.Proofs.Ythgplaledmccgaa
