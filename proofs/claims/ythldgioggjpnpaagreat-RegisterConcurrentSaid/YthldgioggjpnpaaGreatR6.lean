/-
  Entries in memory; the contract of value.register.
-/
import Derived.Test.YthldgioggjpnpaaGreatR4
import Derived.Test.YthldgioggjpnpaaGreatR5
import Derived.Test.YthldgioggjpnpaaGreatRQ
namespace Go.Proofs.YthldgioggjpnpaaGreat
open Go.RowKit

def RdE (w : World) (v : Value) (es : List En) : Prop :=
  ∃ A n c, v = .slice A n c ∧ es.length = n ∧ n ≤ c ∧ c ≤ maxLen ∧
    (0 < n → ∃ b off, A = some ⟨b, off, none⟩ ∧ b < w.heap.size ∧ ∀ j e, es[j]? = some e →
      ∃ q, w.cell? ⟨b, off + j * 2, none⟩ = some q ∧ w.cell? ⟨b, off + j * 2 + 1, none⟩ = some (encS e.2) ∧ RdT w q e.1 ∧ e.2.length ≤ maxLen)
theorem RdE.ext {w w' : World} {v : Value} {es : List En} (h : RdE w v es) (he : Ext w w') : RdE w' v es := by
  obtain ⟨A, n, c, hv, hl, h1, h2, h3⟩ := h
  refine ⟨A, n, c, hv, hl, h1, h2, fun hn => ?_⟩
  obtain ⟨b, off, hA, hb, hc⟩ := h3 hn
  refine ⟨b, off, hA, Nat.lt_of_lt_of_le hb he.size, fun j x hj => ?_⟩
  obtain ⟨q, e1, e2, e3, e4⟩ := hc j x hj
  exact ⟨q, he.cell e1, he.cell e2, e3.ext he, e4⟩
theorem RdE.at_ {w : World} {A : Option Addr} {n c : Nat} {es : List En} (h : RdE w (.slice A n c) es) {j : Nat} (hj : j < n) :
    ∃ b off e q, A = some ⟨b, off, none⟩ ∧ b < w.heap.size ∧ es[j]? = some e ∧ w.cell? ⟨b, off + j * 2, none⟩ = some q ∧ w.cell? ⟨b, off + j * 2 + 1, none⟩ = some (encS e.2) ∧ RdT w q e.1 ∧ e.2.length ≤ maxLen := by
  obtain ⟨A', n', c', he, hl, h1, h2, h3⟩ := h
  injection he with e1 e2 e3
  subst e1 e2 e3
  obtain ⟨b, off, hA, hb, hc⟩ := h3 (by omega)
  have hjl : j < es.length := by omega
  have e := List.getElem?_eq_getElem hjl
  obtain ⟨q, r1, r2, r3, r4⟩ := hc j _ e
  exact ⟨b, off, _, q, hA, hb, e, r1, r2, r3, r4⟩

def clashT (a b : List Tk) : Bool := cmpT a b == 1 || cmpT a b == 2
def lastOk (pre : List En) (e : En) : Bool := match pre.getLast? with | none => true | some d => decide (cmpEn d e < 0)
def oneOk (pre : List En) (e : En) : Bool := !e.1.isEmpty && (validT e.1 && (okName e.2 && (lastOk pre e && pre.all (fun d => !clashT e.1 d.1))))
def regFrom (pre : List En) : List En → Bool
  | [] => true
  | e :: r => oneOk pre e && regFrom (pre ++ [e]) r
def regB (es : List En) : Bool := regFrom [] es

theorem RdT.lenv {w : World} {q : Value} {ts : List Tk} (h : RdT w q ts) : ∃ A c, q = .slice A ts.length c := by
  obtain ⟨A, n, c, rfl, hl, -⟩ := h
  exact ⟨A, c, by rw [hl]⟩

set_option maxRecDepth 100000 in
set_option maxHeartbeats 4000000 in
theorem reg_any (v : Value) (es : List En) (w : World) (h : RdE w v es) :
    Calls Tryz.prog 85 #[v] w fun e w' => e = .returned (.bool (regB es)) ∧ Ext w w' := by
  have H := Lib.hid h
  obtain ⟨A, n, c, rfl, hl, hnc, hcm, -⟩ := h
  unfold maxLen at hcm
  have HL := Lib.hid hl; clear hl
  go_enter Tryz.func85, Tryz.ntmps85
  go_wp2_with (fail)
  go_loopw [10] (fun i wr => ∃ k : Nat, k ≤ n ∧ i = .int .i64 k ∧ regFrom (es.take k) (es.drop k) = regB es ∧ (∀ d ∈ es.take k, validT d.1 = true) ∧ Ext w wr) (fun i _ => n - (intOf i).toNat)
  case atStart => exact ⟨0, Nat.zero_le _, rfl, rfl, by simp, Ext.refl _⟩
  case round =>
    obtain ⟨wo, rfl⟩ : ∃ wo : World, wo = wr := ⟨_, rfl⟩
    obtain ⟨k, hk, rfl, hg, hpv, hE⟩ := hrel
    have HG := Lib.hid hg; clear hg
    have HPV := Lib.hid hpv; clear hpv
    by_cases hlt : k < n
    · obtain ⟨b, off, en, q, rfl, hb, ht, c0, c1, hq, hnl⟩ := RdE.at_ (H.out.ext hE) hlt
      have hd : es.drop k = en :: es.drop (k + 1) := by
        obtain ⟨hk', rfl⟩ := List.getElem?_eq_some_iff.1 ht
        exact List.drop_eq_getElem_cons hk'
      have HD := Lib.hid hd; clear hd
      obtain ⟨ts, nm⟩ := en
      have HT := Lib.hid ht; clear ht
      dsimp only at c0 c1 hq hnl
      obtain ⟨Aq, cq, rfl⟩ := hq.lenv
      have hw : b < (wo.alloc (.cells #[.slice none 0 0, .string ⟨#[]⟩] 64)).heap.size := by simp; omega
      -- the previous entry, if there is one
      have hprev : Hid (∀ (hk0 : 0 < k), ∃ d dq, (es.take k).getLast? = some d ∧ RdT wo dq d.1 ∧ wo.cell? ⟨b, off + ((k : Int) - 1).toNat * 2, none⟩ = some dq ∧ wo.cell? ⟨b, off + ((k : Int) - 1).toNat * 2 + 1, none⟩ = some (encS d.2)) := Lib.hid (by
        intro hk0
        obtain ⟨b', off', d, dq, hA', hb', hd', e0, e1, hdq, -⟩ := RdE.at_ (H.out.ext hE) (j := k - 1) (by omega)
        injection hA' with hA'
        injection hA' with q5 q6
        subst q5 q6
        refine ⟨d, dq, ?_, hdq, ?_, ?_⟩
        · rw [List.getLast?_eq_getElem?, List.length_take, Nat.min_eq_left (by have := HL.out; omega), List.getElem?_take, if_pos (by omega)]; exact hd'
        · rw [show ((k : Int) - 1).toNat = k - 1 by omega]; exact e0
        · rw [show ((k : Int) - 1).toNat = k - 1 by omega]; exact e1)
      go_upto_region 4 with (fail)
      obtain ⟨wx, hwx⟩ : ∃ wx, wx = wo.alloc (.cells #[.slice Aq ts.length cq, encS nm] 64) := ⟨_, rfl⟩
      have hEx : Ext wo wx := by rw [hwx]; exact (Ext.refl wo).alloc _
      have hB : Blk wx wo.heap.size 64 #[.slice Aq ts.length cq, encS nm] := by rw [hwx]; exact Blk.new _ _ _
      have a0 := hB.cell 0
      have a1 := hB.cell 1
      simp at a0 a1
      have hBx : wo.heap.size < wx.heap.size := hB.lt
      have k0 := cell_regrown a0
      have k1 := cell_regrown a1
      rw [← hwx]
      clear hwx hB
      have HQ := Lib.hid (hq.ext hEx); clear hq
      have HPREV : Hid (∀ (hk0 : 0 < k), ∃ d dq, (es.take k).getLast? = some d ∧ RdT wx dq d.1 ∧ wx.cell? ⟨b, off + ((k : Int) - 1).toNat * 2, none⟩ = some dq ∧ wx.cell? ⟨b, off + ((k : Int) - 1).toNat * 2 + 1, none⟩ = some (encS d.2)) := Lib.hid (fun hk0 => by
        obtain ⟨d, dq, r1, r2, r3, r4⟩ := hprev.out hk0
        exact ⟨d, dq, r1, r2.ext hEx, hEx.cell r3, hEx.cell r4⟩)
      clear hprev c0 c1
      have hbx : b < wx.heap.size := Nat.lt_of_lt_of_le hb hEx.size
      have HE := Lib.hid (hE.trans hEx); clear hE hEx hb hw
      generalize wo.heap.size = B at *
      have HNL := Lib.hid hnl; clear hnl
      rcases Nat.eq_zero_or_pos ts.length with hz | hz
      · have HV : Hid (regB es = false) := Lib.hid (by rw [← HG.out, HD.out, regFrom, oneOk]; rw [List.isEmpty_iff_length_eq_zero.2 hz]; rfl)
        have z0 : ((ts.length : Int) == 0) = true := by rw [hz]; rfl
        refine wp_region_ext (by kernel_rfl) (by kernel_rfl) ?_
        repeat (go_big_quiet_step (first | (go_at_call 55; exact Calls.ext_of CV.out _ _) | (go_at_call 36; exact Calls.ext_of CN.out _ _) | (go_at_call 122; exact Calls.ext_of CE.out _ _)))
        refine wpQuiet_nil ?_
        intro w3 hE3
        have HE3 := Lib.hid hE3; clear hE3
        go_wp2_with (fail)
        all_goals (go_ret; exact ⟨ret_bool HV.out.symm, HE.out.trans HE3.out⟩)
      · have z0 : ((ts.length : Int) == 0) = false := by simp; intro h; subst h; simp at hz
        have HNE : Hid (ts.isEmpty = false) := Lib.hid (by cases ts with | nil => simp at hz | cons => rfl)
        rcases hgv : validT ts with _ | _
        · have GV := Lib.hid hgv; clear hgv
          have CV : Hid (∀ W, Ext wx W → Calls Tryz.prog 55 #[.slice Aq ts.length cq] W fun e w' => e = .returned (.bool false) ∧ Ext W w') := Lib.hid (fun W hW => by have := cvalid_any _ ts W (HQ.out.ext hW); rwa [GV.out] at this)
          have HV : Hid (regB es = false) := Lib.hid (by rw [← HG.out, HD.out, regFrom, oneOk]; rw [GV.out]; simp)
          refine wp_region_ext (by kernel_rfl) (by kernel_rfl) ?_
          repeat (go_big_quiet_step (first | (go_at_call 55; exact Calls.ext_of CV.out _ _) | (go_at_call 36; exact Calls.ext_of CN.out _ _) | (go_at_call 122; exact Calls.ext_of CE.out _ _)))
          refine wpQuiet_nil ?_
          intro w3 hE3
          have HE3 := Lib.hid hE3; clear hE3
          go_wp2_with (fail)
          all_goals (go_ret; exact ⟨ret_bool HV.out.symm, HE.out.trans HE3.out⟩)
        · have GV := Lib.hid hgv; clear hgv
          have CV : Hid (∀ W, Ext wx W → Calls Tryz.prog 55 #[.slice Aq ts.length cq] W fun e w' => e = .returned (.bool true) ∧ Ext W w') := Lib.hid (fun W hW => by have := cvalid_any _ ts W (HQ.out.ext hW); rwa [GV.out] at this)
          rcases hgn : okName nm with _ | _
          · have GN := Lib.hid hgn; clear hgn
            have CN : Hid (∀ W, Ext wx W → Calls Tryz.prog 36 #[encS nm] W fun e w' => e = .returned (.bool false) ∧ Ext W w') := Lib.hid (fun W _ => by have := valid_any nm W HNL.out; rw [GN.out] at this; exact this.mono fun _ _ h => ⟨h.1, by rw [← h.2]; exact Ext.refl _⟩)
            have HV : Hid (regB es = false) := Lib.hid (by rw [← HG.out, HD.out, regFrom, oneOk]; rw [GN.out]; simp)
            refine wp_region_ext (by kernel_rfl) (by kernel_rfl) ?_
            repeat (go_big_quiet_step (first | (go_at_call 55; exact Calls.ext_of CV.out _ _) | (go_at_call 36; exact Calls.ext_of CN.out _ _) | (go_at_call 122; exact Calls.ext_of CE.out _ _)))
            refine wpQuiet_nil ?_
            intro w3 hE3
            have HE3 := Lib.hid hE3; clear hE3
            go_wp2_with (fail)
            all_goals (go_ret; exact ⟨ret_bool HV.out.symm, HE.out.trans HE3.out⟩)
          · have GN := Lib.hid hgn; clear hgn
            have CN : Hid (∀ W, Ext wx W → Calls Tryz.prog 36 #[encS nm] W fun e w' => e = .returned (.bool true) ∧ Ext W w') := Lib.hid (fun W _ => by have := valid_any nm W HNL.out; rw [GN.out] at this; exact this.mono fun _ _ h => ⟨h.1, by rw [← h.2]; exact Ext.refl _⟩)
            rcases Nat.eq_zero_or_pos k with hk0 | hk0
            · have HLO : Hid (lastOk (es.take k) (ts, nm) = true) := Lib.hid (by rw [hk0]; simp [lastOk])
              have hd0 : decide ((0 : Int) < (k : Int)) = false := decide_eq_false (by omega)
              refine wp_region_ext (by kernel_rfl) (by kernel_rfl) ?_
              repeat (go_big_quiet_step (first | (go_at_call 55; exact Calls.ext_of CV.out _ _) | (go_at_call 36; exact Calls.ext_of CN.out _ _) | (go_at_call 122; exact Calls.ext_of CE.out _ _)))
              refine wpQuiet_nil ?_
              intro w3 hE3
              have HE3 := Lib.hid hE3; clear hE3
              have HEA : Hid (Ext w w3) := Lib.hid (HE.out.trans HE3.out)
              have a0' := (HE3.out).cell a0
              have a1' := (HE3.out).cell a1
              have hkc : k ≤ c := by omega
              have hkci : (k : Int) ≤ (c : Int) := by omega
              go_wp2_with (fail)
              go_loopw [49] (fun i wr => ∃ j : Nat, j ≤ k ∧ i = .int .i64 j ∧ (es.take j).all (fun d => !clashT ts d.1) = true ∧ Ext w3 wr) (fun i _ => k - (intOf i).toNat)
              case atStart => exact ⟨0, Nat.zero_le _, rfl, by simp, Ext.refl _⟩
              case round =>
                obtain ⟨j, hj, rfl, hall, hEi⟩ := hrel
                have HALL := Lib.hid hall; clear hall
                have HEI := Lib.hid hEi; clear hEi
                have c0' := HEI.out.cell a0'
                have c1' := HEI.out.cell a1'
                have hBw : B < wr.heap.size := World.block_lt_of_cell? _ _ c0'
                by_cases hlj : j < k
                · obtain ⟨b', off', f, fq, hA', hb', hf, f0, f1, hfq, hfn⟩ := RdE.at_ (H.out.ext (HEA.out.trans HEI.out)) (j := j) (by omega)
                  injection hA' with hA'
                  injection hA' with q5 q6
                  subst q5 q6
                  have HF := Lib.hid hf
                  obtain ⟨Af, cf, rfl⟩ := hfq.lenv
                  have HFQ := Lib.hid hfq; clear hfq
                  have hfm : f ∈ es.take k := by
                    rw [List.mem_iff_getElem?]
                    exact ⟨j, by rw [List.getElem?_take, if_pos hlj]; exact hf⟩
                  have HFV := Lib.hid (HPV.out f hfm); clear hfm hf
                  have hbw : b < (wr.alloc (.cells #[.slice none 0 0, .string ⟨#[]⟩] 64)).heap.size := by simp; omega
                  have hBw2 : B < (wr.alloc (.cells #[.slice Af f.1.length cf, encS f.2] 64)).heap.size := by simp; omega
                  obtain ⟨cc, hcc⟩ : ∃ cc, cmpT ts f.1 = cc := ⟨_, rfl⟩
                  have HCC := Lib.hid hcc; clear hcc
                  by_cases hcl : cc = 1 ∨ cc = 2
                  · have HV : Hid (regB es = false) := Lib.hid (by
                      have : (es.take k).all (fun d => !clashT ts d.1) = false := by
                        rw [List.all_eq_false]
                        refine ⟨f, ?_, ?_⟩
                        · rw [List.mem_iff_getElem?]; exact ⟨j, by rw [List.getElem?_take, if_pos hlj]; exact HF.out⟩
                        · simp [clashT, HCC.out]; omega
                      rw [← HG.out, HD.out, regFrom, oneOk]; simp only [this, Bool.and_false, Bool.false_and])
                    go_wp2_with (go_at_call 70; refine (ccompare_any _ _ ts f.1 _ (HQ.out.ext (((HE3.out).trans HEI.out).alloc _)) (HFQ.out.ext ((Ext.refl _).alloc _)) GV.out HFV.out).mono ?_; rintro e w7 ⟨rfl, hE7⟩; rw [HCC.out]; have HE7 := Lib.hid ((HEI.out.alloc _).trans hE7); clear hE7)
                    all_goals first
                      | (go_ret; exact ⟨ret_bool HV.out.symm, HEA.out.trans HE7.out⟩)
                      | (exfalso; rcases hcl with rfl | rfl <;> simp_all)
                  · go_wp2_with (go_at_call 70; refine (ccompare_any _ _ ts f.1 _ (HQ.out.ext (((HE3.out).trans HEI.out).alloc _)) (HFQ.out.ext ((Ext.refl _).alloc _)) GV.out HFV.out).mono ?_; rintro e w7 ⟨rfl, hE7⟩; rw [HCC.out]; have HE7 := Lib.hid ((HEI.out.alloc _).trans hE7); clear hE7)
                    all_goals first
                      | (exfalso; simp at *; omega)
                      | (go_roundw
                         case rel =>
                           refine ⟨j + 1, by omega, by go_num, ?_, HE7.out⟩
                           have hjl := (List.getElem?_eq_some_iff.1 HF.out)
                           obtain ⟨hjl, hje⟩ := hjl
                           rw [List.take_succ_eq_append_getElem hjl, List.all_append, HALL.out, hje]
                           simp [clashT, HCC.out]; omega
                         case measure => simp [intOf]; omega)
                · obtain rfl : j = k := by omega
                  go_wp2_with (fail)
                  go_roundw
                  case rel =>
                    have hkl := (List.getElem?_eq_some_iff.1 HT.out)
                    obtain ⟨hkl, hke⟩ := hkl
                    refine ⟨j + 1, by omega, by go_num, ?_, ?_, HEA.out.trans HEI.out⟩
                    · rw [← HG.out, HD.out, regFrom, oneOk]
                      rw [List.take_succ_eq_append_getElem hkl, hke]
                      simp only [HNE.out, GV.out, GN.out, HLO.out, HALL.out, Bool.not_false, Bool.true_and]
                    · intro f hf
                      rw [List.take_succ_eq_append_getElem hkl, hke] at hf
                      rcases List.mem_append.1 hf with hf | hf
                      · exact HPV.out f hf
                      · rw [List.mem_singleton] at hf; rw [hf]; exact GV.out
                  case measure => simp [intOf]; omega
            · obtain ⟨d, dq, hd1, hdq, p0, p1⟩ := HPREV.out hk0
              have HDQ := Lib.hid hdq
              obtain ⟨Ad, cd, rfl⟩ := hdq.lenv
              clear hdq
              have HDL := Lib.hid hd1; clear hd1
              have hd0 : decide ((0 : Int) < (k : Int)) = true := decide_eq_true (by omega)
              have hk1 : (0 : Int) ≤ (k : Int) - 1 := by omega
              have hk2 : (k : Int) - 1 < (n : Int) := by omega
              have hw1 : IntKind.i64.wrap ((k : Int) - 1) = (k : Int) - 1 := IntWalk.i64_in _ (by omega)
              obtain ⟨ce, hce⟩ : ∃ ce, cmpEn d (ts, nm) = ce := ⟨_, rfl⟩
              have CE : Hid (∀ W, Ext wx W → Calls Tryz.prog 122 #[.agg #[.slice Ad d.1.length cd, encS d.2], .agg #[.slice Aq ts.length cq, encS nm]] W fun e w' => e = .returned (.int .i64 ce) ∧ Ext W w') := Lib.hid (fun W hW => by have := cmpEntry_any _ _ d (ts, nm) W (HDQ.out.ext hW) (HQ.out.ext hW); rwa [hce] at this)
              have HCE := Lib.hid hce; clear hce
              have k2 := cell_regrown p0
              have k3 := cell_regrown p1
              have hkt : ((k : Int) - 1).toNat = k - 1 := by omega
              have k4 := k2
              have k5 := k3
              rw [hkt] at k4 k5
              clear hkt
              by_cases hce : 0 ≤ ce
              · have hd3 : decide ((0 : Int) ≤ ce) = true := decide_eq_true hce
                have HV : Hid (regB es = false) := Lib.hid (by
                  rw [← HG.out, HD.out, regFrom, oneOk]
                  have : lastOk (es.take k) (ts, nm) = false := by rw [lastOk, HDL.out]; simp [HCE.out]; omega
                  rw [this]; simp)
                refine wp_region_ext (by kernel_rfl) (by kernel_rfl) ?_
                repeat (go_big_quiet_step (first | (go_at_call 55; exact Calls.ext_of CV.out _ _) | (go_at_call 36; exact Calls.ext_of CN.out _ _) | (go_at_call 122; exact Calls.ext_of CE.out _ _)))
                refine wpQuiet_nil ?_
                intro w3 hE3
                have HE3 := Lib.hid hE3; clear hE3
                go_wp2_with (fail)
                all_goals (go_ret; exact ⟨ret_bool HV.out.symm, HE.out.trans HE3.out⟩)
              · have hd3 : decide ((0 : Int) ≤ ce) = false := decide_eq_false hce
                have HLO : Hid (lastOk (es.take k) (ts, nm) = true) := Lib.hid (by rw [lastOk, HDL.out]; simp [HCE.out]; omega)
                refine wp_region_ext (by kernel_rfl) (by kernel_rfl) ?_
                repeat (go_big_quiet_step (first | (go_at_call 55; exact Calls.ext_of CV.out _ _) | (go_at_call 36; exact Calls.ext_of CN.out _ _) | (go_at_call 122; exact Calls.ext_of CE.out _ _)))
                refine wpQuiet_nil ?_
                intro w3 hE3
                have HE3 := Lib.hid hE3; clear hE3
                have HEA : Hid (Ext w w3) := Lib.hid (HE.out.trans HE3.out)
                have a0' := (HE3.out).cell a0
                have a1' := (HE3.out).cell a1
                have hkc : k ≤ c := by omega
                have hkci : (k : Int) ≤ (c : Int) := by omega
                go_wp2_with (fail)
                go_loopw [49] (fun i wr => ∃ j : Nat, j ≤ k ∧ i = .int .i64 j ∧ (es.take j).all (fun d => !clashT ts d.1) = true ∧ Ext w3 wr) (fun i _ => k - (intOf i).toNat)
                case atStart => exact ⟨0, Nat.zero_le _, rfl, by simp, Ext.refl _⟩
                case round =>
                  obtain ⟨j, hj, rfl, hall, hEi⟩ := hrel
                  have HALL := Lib.hid hall; clear hall
                  have HEI := Lib.hid hEi; clear hEi
                  have c0' := HEI.out.cell a0'
                  have c1' := HEI.out.cell a1'
                  have hBw : B < wr.heap.size := World.block_lt_of_cell? _ _ c0'
                  by_cases hlj : j < k
                  · obtain ⟨b', off', f, fq, hA', hb', hf, f0, f1, hfq, hfn⟩ := RdE.at_ (H.out.ext (HEA.out.trans HEI.out)) (j := j) (by omega)
                    injection hA' with hA'
                    injection hA' with q5 q6
                    subst q5 q6
                    have HF := Lib.hid hf
                    obtain ⟨Af, cf, rfl⟩ := hfq.lenv
                    have HFQ := Lib.hid hfq; clear hfq
                    have hfm : f ∈ es.take k := by
                      rw [List.mem_iff_getElem?]
                      exact ⟨j, by rw [List.getElem?_take, if_pos hlj]; exact hf⟩
                    have HFV := Lib.hid (HPV.out f hfm); clear hfm hf
                    have hbw : b < (wr.alloc (.cells #[.slice none 0 0, .string ⟨#[]⟩] 64)).heap.size := by simp; omega
                    have hBw2 : B < (wr.alloc (.cells #[.slice Af f.1.length cf, encS f.2] 64)).heap.size := by simp; omega
                    obtain ⟨cc, hcc⟩ : ∃ cc, cmpT ts f.1 = cc := ⟨_, rfl⟩
                    have HCC := Lib.hid hcc; clear hcc
                    by_cases hcl : cc = 1 ∨ cc = 2
                    · have HV : Hid (regB es = false) := Lib.hid (by
                        have : (es.take k).all (fun d => !clashT ts d.1) = false := by
                          rw [List.all_eq_false]
                          refine ⟨f, ?_, ?_⟩
                          · rw [List.mem_iff_getElem?]; exact ⟨j, by rw [List.getElem?_take, if_pos hlj]; exact HF.out⟩
                          · simp [clashT, HCC.out]; omega
                        rw [← HG.out, HD.out, regFrom, oneOk]; simp only [this, Bool.and_false, Bool.false_and])
                      go_wp2_with (go_at_call 70; refine (ccompare_any _ _ ts f.1 _ (HQ.out.ext (((HE3.out).trans HEI.out).alloc _)) (HFQ.out.ext ((Ext.refl _).alloc _)) GV.out HFV.out).mono ?_; rintro e w7 ⟨rfl, hE7⟩; rw [HCC.out]; have HE7 := Lib.hid ((HEI.out.alloc _).trans hE7); clear hE7)
                      all_goals first
                        | (go_ret; exact ⟨ret_bool HV.out.symm, HEA.out.trans HE7.out⟩)
                        | (exfalso; rcases hcl with rfl | rfl <;> simp_all)
                    · go_wp2_with (go_at_call 70; refine (ccompare_any _ _ ts f.1 _ (HQ.out.ext (((HE3.out).trans HEI.out).alloc _)) (HFQ.out.ext ((Ext.refl _).alloc _)) GV.out HFV.out).mono ?_; rintro e w7 ⟨rfl, hE7⟩; rw [HCC.out]; have HE7 := Lib.hid ((HEI.out.alloc _).trans hE7); clear hE7)
                      all_goals first
                        | (exfalso; simp at *; omega)
                        | (go_roundw
                           case rel =>
                             refine ⟨j + 1, by omega, by go_num, ?_, HE7.out⟩
                             have hjl := (List.getElem?_eq_some_iff.1 HF.out)
                             obtain ⟨hjl, hje⟩ := hjl
                             rw [List.take_succ_eq_append_getElem hjl, List.all_append, HALL.out, hje]
                             simp [clashT, HCC.out]; omega
                           case measure => simp [intOf]; omega)
                  · obtain rfl : j = k := by omega
                    go_wp2_with (fail)
                    go_roundw
                    case rel =>
                      have hkl := (List.getElem?_eq_some_iff.1 HT.out)
                      obtain ⟨hkl, hke⟩ := hkl
                      refine ⟨j + 1, by omega, by go_num, ?_, ?_, HEA.out.trans HEI.out⟩
                      · rw [← HG.out, HD.out, regFrom, oneOk]
                        rw [List.take_succ_eq_append_getElem hkl, hke]
                        simp only [HNE.out, GV.out, GN.out, HLO.out, HALL.out, Bool.not_false, Bool.true_and]
                      · intro f hf
                        rw [List.take_succ_eq_append_getElem hkl, hke] at hf
                        rcases List.mem_append.1 hf with hf | hf
                        · exact HPV.out f hf
                        · rw [List.mem_singleton] at hf; rw [hf]; exact GV.out
                    case measure => simp [intOf]; omega
    · go_wp2_with (fail)
      go_ret
      refine ⟨ret_bool ?_, hE⟩
      have := HG.out
      rw [List.drop_of_length_le (by have := HL.out; omega)] at this
      exact this
end Go.Proofs.YthldgioggjpnpaaGreat
