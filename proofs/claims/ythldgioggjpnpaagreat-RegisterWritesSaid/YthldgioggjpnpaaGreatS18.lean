/-
  Contracts: the reference's Write of registers.
-/
import Derived.Test.YthldgioggjpnpaaGreatS17
namespace Go.Proofs.YthldgioggjpnpaaGreat
open Go.RowKit

theorem clockFold_valid : ∀ (es : List En) (c : List Tk), validT c = true → (∀ x ∈ es, validT x.1 = true) → validT (clockFold c es) = true := by
  intro es
  induction es with
  | nil => intro c hc _; exact hc
  | cons x r ih => intro c hc h; exact ih _ (mergeT_valid hc (h x List.mem_cons_self)) (fun y hy => h y (List.mem_cons_of_mem _ hy))
theorem clockR_valid {es : List En} (h : ∀ x ∈ es, validT x.1 = true) : validT (clockR es) = true := clockFold_valid es [] rfl h

set_option maxRecDepth 100000 in
set_option maxHeartbeats 4000000 in
theorem rwrite13_any (v : Value) (N : Int) (nn np : Nat) (es : List En) (p : Int) (nm : Nm) (w : World) (h : RdV w v N nn np es) (hnl : nm.length ≤ maxLen) :
    Calls Tryz.prog 13 #[v, .int .i64 p, encS nm] w fun e w' => ∃ u, e = .returned (.tuple #[.agg #[.int .i64 0, nilS, nilS, u], .int .i64 (writeR (isReg N nn np es) es p nm).1]) ∧ RdE w' u (writeR (isReg N nn np es) es p nm).2 ∧ Ext w w' := by
  have H := Lib.hid h
  obtain ⟨An, cn, Ap, cp, ve, rfl, he⟩ := h
  obtain ⟨Ae, ne, ce, rfl⟩ := he.slice
  clear he
  have HNM := Lib.hid (refName_any nm)
  have HNL := Lib.hid hnl; clear hnl
  have HRI : Hid (isB (IsReg N nn np es) = isReg N nn np es) := Lib.hid (isB_of (isReg_iff N nn np es).symm).symm
  obtain ⟨err, es', hwr⟩ : ∃ err es', writeR (isReg N nn np es) es p nm = (err, es') := ⟨_, _, rfl⟩
  have HWR := Lib.hid hwr
  rw [hwr]
  clear hwr
  go_enter Tryz.func13, Tryz.ntmps13
  go_upto_region 1 with (fail)
  obtain ⟨wa, hwa⟩ : ∃ wa, wa = (w.alloc (.cells #[.int .i64 N, .slice An nn cn, .slice Ap np cp, .slice Ae ne ce] 26)).alloc (.cells #[.int .i64 0, nilS, nilS, nilS] 26) := ⟨_, rfl⟩
  have HEA : Hid (Ext w wa) := Lib.hid (by rw [hwa]; exact ((Ext.refl w).alloc _).alloc _)
  have HB : Hid (Blk wa w.heap.size 26 #[.int .i64 N, .slice An nn cn, .slice Ap np cp, .slice Ae ne ce]) := Lib.hid (by rw [hwa]; exact (Blk.new _ _ _).alloc _)
  have HR : Hid (Blk wa (w.heap.size + 1) 26 #[.int .i64 0, nilS, nilS, nilS]) := Lib.hid (by rw [hwa]; exact Blk.new' _ _ _ _ (by simp))
  rw [← hwa]
  clear hwa
  have hgs : w.heap.size ≤ w.heap.size + 1 := by omega
  generalize hG : w.heap.size = G at *
  have b0 : wa.cell? ⟨G, 0, none⟩ = some (.int .i64 N) := HB.out.cell 0
  have b1 : wa.cell? ⟨G, 1, none⟩ = some (.slice An nn cn) := HB.out.cell 1
  have b2 : wa.cell? ⟨G, 2, none⟩ = some (.slice Ap np cp) := HB.out.cell 2
  have b3 : wa.cell? ⟨G, 3, none⟩ = some (.slice Ae ne ce) := HB.out.cell 3
  have lb := HB.out.lt
  cases hreg : isReg N nn np es with
  | false =>
    have HREG := Lib.hid hreg; clear hreg
    obtain ⟨HERR, HES⟩ : Hid (err = 4) ∧ Hid (es' = []) := by
      have h := HWR.out
      rw [writeR, if_pos HREG.out] at h
      injection h with h1 h2
      exact ⟨Lib.hid h1.symm, Lib.hid h2.symm⟩
    go_wp2_with (first | (go_at_call 39; refine (ris_any _ N nn np es _ (H.out.ext (by repeat (first | exact Ext.refl _ | refine Ext.drew ?_ | refine Ext.drewN ?_ _ | refine Ext.alloc ?_ _ | refine Ext.trans ?_ (Hid.out (by assumption)))))).mono ?_; rintro e w3 ⟨rfl, hE3⟩; rw [HRI.out, HREG.out]; have HR3 := Lib.hid (HR.out.ext hE3); replace b0 := hE3.cell b0; replace b1 := hE3.cell b1; replace b2 := hE3.cell b2; replace b3 := hE3.cell b3; replace lb := World.block_lt_of_cell? _ _ b0; have HE3 := Lib.hid hE3; clear hE3; have r9 := HR3.out; have l5 := r9.lt; have f0 := r9.frozen 0; have f1 := r9.frozen 1; have f2 := r9.frozen 2; have f3 := r9.frozen 3; have d0 : w3.cell? ⟨G + 1, 0, none⟩ = some (.int .i64 0) := r9.cell 0; have d1 : w3.cell? ⟨G + 1, 1, none⟩ = some nilS := r9.cell 1; have d2 : w3.cell? ⟨G + 1, 2, none⟩ = some nilS := r9.cell 2; have d3 : w3.cell? ⟨G + 1, 3, none⟩ = some nilS := r9.cell 3; clear r9))
    obtain ⟨wz, hwz⟩ : ∃ wz, wz = ((((w3.setCell ⟨G + 1, 0, none⟩ (.int .i64 0)).setCell ⟨G + 1, 1, none⟩ nilS).setCell ⟨G + 1, 2, none⟩ nilS).setCell ⟨G + 1, 3, none⟩ (nilS)) := ⟨_, rfl⟩
    have hBz : Blk wz (G + 1) 26 #[.int .i64 0, nilS, nilS, nilS] := by rw [hwz]; exact HR3.out.store4 _ _ _ _
    have hEz : Ext w wz := by rw [hwz]; exact (HEA.out.trans (by repeat (first | exact Ext.refl _ | refine Ext.drew ?_ | refine Ext.drewN ?_ _ | refine Ext.alloc ?_ _ | refine Ext.trans ?_ (Hid.out (by assumption)))) : Ext w w3).store4 (by omega) _ _ _ _
    have hRz : RdE wz (nilS) es' := by rw [hwz]; exact RdE.store4 (by rw [HES.out]; exact RdE.nil_ _) ⟨_, _, _, _, _, _, _, _, _, _, _, HR3.out⟩ _ _ _ _
    rw [← hwz]
    clear hwz d0 d1 d2 d3
    have d0 : wz.cell? ⟨G + 1, 0, none⟩ = some (.int .i64 0) := hBz.cell 0
    have d1 : wz.cell? ⟨G + 1, 1, none⟩ = some nilS := hBz.cell 1
    have d2 : wz.cell? ⟨G + 1, 2, none⟩ = some nilS := hBz.cell 2
    have d3 : wz.cell? ⟨G + 1, 3, none⟩ = some (nilS) := hBz.cell 3
    clear hBz
    refine bodyPost_ret (v := .tuple #[.agg #[.int .i64 0, nilS, nilS, nilS], .int .i64 4]) (by simp [results, Tryz.results13, go_sem, d0, d1, d2, d3]) rfl ?_
    exact ⟨_, by rw [HERR.out], hRz, hEz⟩
  | true =>
    have HVA := Lib.hid (isReg_valid hreg)
    have HREG := Lib.hid hreg; clear hreg
    by_cases hp0 : p < 0
    · obtain ⟨HERR, HES⟩ : Hid (err = 1) ∧ Hid (es' = []) := by
        have h := HWR.out
        rw [writeR, if_neg (by rw [HREG.out]; simp), if_pos (Or.inl hp0)] at h
        injection h with h1 h2
        exact ⟨Lib.hid h1.symm, Lib.hid h2.symm⟩
      go_wp2_with (first | (go_at_call 39; refine (ris_any _ N nn np es _ (H.out.ext (by repeat (first | exact Ext.refl _ | refine Ext.drew ?_ | refine Ext.drewN ?_ _ | refine Ext.alloc ?_ _ | refine Ext.trans ?_ (Hid.out (by assumption)))))).mono ?_; rintro e w3 ⟨rfl, hE3⟩; rw [HRI.out, HREG.out]; have HR3 := Lib.hid (HR.out.ext hE3); replace b0 := hE3.cell b0; replace b1 := hE3.cell b1; replace b2 := hE3.cell b2; replace b3 := hE3.cell b3; replace lb := World.block_lt_of_cell? _ _ b0; have HE3 := Lib.hid hE3; clear hE3; have r9 := HR3.out; have l5 := r9.lt; have f0 := r9.frozen 0; have f1 := r9.frozen 1; have f2 := r9.frozen 2; have f3 := r9.frozen 3; have d0 : w3.cell? ⟨G + 1, 0, none⟩ = some (.int .i64 0) := r9.cell 0; have d1 : w3.cell? ⟨G + 1, 1, none⟩ = some nilS := r9.cell 1; have d2 : w3.cell? ⟨G + 1, 2, none⟩ = some nilS := r9.cell 2; have d3 : w3.cell? ⟨G + 1, 3, none⟩ = some nilS := r9.cell 3; clear r9))
      obtain ⟨wz, hwz⟩ : ∃ wz, wz = ((((w3.setCell ⟨G + 1, 0, none⟩ (.int .i64 0)).setCell ⟨G + 1, 1, none⟩ nilS).setCell ⟨G + 1, 2, none⟩ nilS).setCell ⟨G + 1, 3, none⟩ (nilS)) := ⟨_, rfl⟩
      have hBz : Blk wz (G + 1) 26 #[.int .i64 0, nilS, nilS, nilS] := by rw [hwz]; exact HR3.out.store4 _ _ _ _
      have hEz : Ext w wz := by rw [hwz]; exact (HEA.out.trans (by repeat (first | exact Ext.refl _ | refine Ext.drew ?_ | refine Ext.drewN ?_ _ | refine Ext.alloc ?_ _ | refine Ext.trans ?_ (Hid.out (by assumption)))) : Ext w w3).store4 (by omega) _ _ _ _
      have hRz : RdE wz (nilS) es' := by rw [hwz]; exact RdE.store4 (by rw [HES.out]; exact RdE.nil_ _) ⟨_, _, _, _, _, _, _, _, _, _, _, HR3.out⟩ _ _ _ _
      rw [← hwz]
      clear hwz d0 d1 d2 d3
      have d0 : wz.cell? ⟨G + 1, 0, none⟩ = some (.int .i64 0) := hBz.cell 0
      have d1 : wz.cell? ⟨G + 1, 1, none⟩ = some nilS := hBz.cell 1
      have d2 : wz.cell? ⟨G + 1, 2, none⟩ = some nilS := hBz.cell 2
      have d3 : wz.cell? ⟨G + 1, 3, none⟩ = some (nilS) := hBz.cell 3
      clear hBz
      refine bodyPost_ret (v := .tuple #[.agg #[.int .i64 0, nilS, nilS, nilS], .int .i64 1]) (by simp [results, Tryz.results13, go_sem, d0, d1, d2, d3]) rfl ?_
      exact ⟨_, by rw [HERR.out], hRz, hEz⟩
    · by_cases hp1 : 63 < p
      · obtain ⟨HERR, HES⟩ : Hid (err = 1) ∧ Hid (es' = []) := by
          have h := HWR.out
          rw [writeR, if_neg (by rw [HREG.out]; simp), if_pos (Or.inr hp1)] at h
          injection h with h1 h2
          exact ⟨Lib.hid h1.symm, Lib.hid h2.symm⟩
        go_wp2_with (first | (go_at_call 39; refine (ris_any _ N nn np es _ (H.out.ext (by repeat (first | exact Ext.refl _ | refine Ext.drew ?_ | refine Ext.drewN ?_ _ | refine Ext.alloc ?_ _ | refine Ext.trans ?_ (Hid.out (by assumption)))))).mono ?_; rintro e w3 ⟨rfl, hE3⟩; rw [HRI.out, HREG.out]; have HR3 := Lib.hid (HR.out.ext hE3); replace b0 := hE3.cell b0; replace b1 := hE3.cell b1; replace b2 := hE3.cell b2; replace b3 := hE3.cell b3; replace lb := World.block_lt_of_cell? _ _ b0; have HE3 := Lib.hid hE3; clear hE3; have r9 := HR3.out; have l5 := r9.lt; have f0 := r9.frozen 0; have f1 := r9.frozen 1; have f2 := r9.frozen 2; have f3 := r9.frozen 3; have d0 : w3.cell? ⟨G + 1, 0, none⟩ = some (.int .i64 0) := r9.cell 0; have d1 : w3.cell? ⟨G + 1, 1, none⟩ = some nilS := r9.cell 1; have d2 : w3.cell? ⟨G + 1, 2, none⟩ = some nilS := r9.cell 2; have d3 : w3.cell? ⟨G + 1, 3, none⟩ = some nilS := r9.cell 3; clear r9))
        obtain ⟨wz, hwz⟩ : ∃ wz, wz = ((((w3.setCell ⟨G + 1, 0, none⟩ (.int .i64 0)).setCell ⟨G + 1, 1, none⟩ nilS).setCell ⟨G + 1, 2, none⟩ nilS).setCell ⟨G + 1, 3, none⟩ (nilS)) := ⟨_, rfl⟩
        have hBz : Blk wz (G + 1) 26 #[.int .i64 0, nilS, nilS, nilS] := by rw [hwz]; exact HR3.out.store4 _ _ _ _
        have hEz : Ext w wz := by rw [hwz]; exact (HEA.out.trans (by repeat (first | exact Ext.refl _ | refine Ext.drew ?_ | refine Ext.drewN ?_ _ | refine Ext.alloc ?_ _ | refine Ext.trans ?_ (Hid.out (by assumption)))) : Ext w w3).store4 (by omega) _ _ _ _
        have hRz : RdE wz (nilS) es' := by rw [hwz]; exact RdE.store4 (by rw [HES.out]; exact RdE.nil_ _) ⟨_, _, _, _, _, _, _, _, _, _, _, HR3.out⟩ _ _ _ _
        rw [← hwz]
        clear hwz d0 d1 d2 d3
        have d0 : wz.cell? ⟨G + 1, 0, none⟩ = some (.int .i64 0) := hBz.cell 0
        have d1 : wz.cell? ⟨G + 1, 1, none⟩ = some nilS := hBz.cell 1
        have d2 : wz.cell? ⟨G + 1, 2, none⟩ = some nilS := hBz.cell 2
        have d3 : wz.cell? ⟨G + 1, 3, none⟩ = some (nilS) := hBz.cell 3
        clear hBz
        refine bodyPost_ret (v := .tuple #[.agg #[.int .i64 0, nilS, nilS, nilS], .int .i64 1]) (by simp [results, Tryz.results13, go_sem, d0, d1, d2, d3]) rfl ?_
        exact ⟨_, by rw [HERR.out], hRz, hEz⟩
      · cases hok : okName nm with
        | false =>
          have HOKN := Lib.hid hok; clear hok
          obtain ⟨HERR, HES⟩ : Hid (err = 3) ∧ Hid (es' = []) := by
            have h := HWR.out
            rw [writeR, if_neg (by rw [HREG.out]; simp), if_neg (by omega), if_pos HOKN.out] at h
            injection h with h1 h2
            exact ⟨Lib.hid h1.symm, Lib.hid h2.symm⟩
          go_wp2_with (first | (go_at_call 39; refine (ris_any _ N nn np es _ (H.out.ext (by repeat (first | exact Ext.refl _ | refine Ext.drew ?_ | refine Ext.drewN ?_ _ | refine Ext.alloc ?_ _ | refine Ext.trans ?_ (Hid.out (by assumption)))))).mono ?_; rintro e w3 ⟨rfl, hE3⟩; rw [HRI.out, HREG.out]; have HR3 := Lib.hid (HR.out.ext hE3); replace b0 := hE3.cell b0; replace b1 := hE3.cell b1; replace b2 := hE3.cell b2; replace b3 := hE3.cell b3; replace lb := World.block_lt_of_cell? _ _ b0; have HE3 := Lib.hid hE3; clear hE3; have r9 := HR3.out; have l5 := r9.lt; have f0 := r9.frozen 0; have f1 := r9.frozen 1; have f2 := r9.frozen 2; have f3 := r9.frozen 3; have d0 : w3.cell? ⟨G + 1, 0, none⟩ = some (.int .i64 0) := r9.cell 0; have d1 : w3.cell? ⟨G + 1, 1, none⟩ = some nilS := r9.cell 1; have d2 : w3.cell? ⟨G + 1, 2, none⟩ = some nilS := r9.cell 2; have d3 : w3.cell? ⟨G + 1, 3, none⟩ = some nilS := r9.cell 3; clear r9) | (go_at_call 40; refine (HNM.out _ HNL.out).mono ?_; rintro e w4 ⟨rfl, rfl⟩; rw [HOKN.out]))
          obtain ⟨wz, hwz⟩ : ∃ wz, wz = ((((w3.setCell ⟨G + 1, 0, none⟩ (.int .i64 0)).setCell ⟨G + 1, 1, none⟩ nilS).setCell ⟨G + 1, 2, none⟩ nilS).setCell ⟨G + 1, 3, none⟩ (nilS)) := ⟨_, rfl⟩
          have hBz : Blk wz (G + 1) 26 #[.int .i64 0, nilS, nilS, nilS] := by rw [hwz]; exact HR3.out.store4 _ _ _ _
          have hEz : Ext w wz := by rw [hwz]; exact (HEA.out.trans (by repeat (first | exact Ext.refl _ | refine Ext.drew ?_ | refine Ext.drewN ?_ _ | refine Ext.alloc ?_ _ | refine Ext.trans ?_ (Hid.out (by assumption)))) : Ext w w3).store4 (by omega) _ _ _ _
          have hRz : RdE wz (nilS) es' := by rw [hwz]; exact RdE.store4 (by rw [HES.out]; exact RdE.nil_ _) ⟨_, _, _, _, _, _, _, _, _, _, _, HR3.out⟩ _ _ _ _
          rw [← hwz]
          clear hwz d0 d1 d2 d3
          have d0 : wz.cell? ⟨G + 1, 0, none⟩ = some (.int .i64 0) := hBz.cell 0
          have d1 : wz.cell? ⟨G + 1, 1, none⟩ = some nilS := hBz.cell 1
          have d2 : wz.cell? ⟨G + 1, 2, none⟩ = some nilS := hBz.cell 2
          have d3 : wz.cell? ⟨G + 1, 3, none⟩ = some (nilS) := hBz.cell 3
          clear hBz
          refine bodyPost_ret (v := .tuple #[.agg #[.int .i64 0, nilS, nilS, nilS], .int .i64 3]) (by simp [results, Tryz.results13, go_sem, d0, d1, d2, d3]) rfl ?_
          exact ⟨_, by rw [HERR.out], hRz, hEz⟩
        | true =>
          have HOKN := Lib.hid hok; clear hok
          obtain ⟨k, rfl⟩ : ∃ k : Nat, p = (k : Int) := ⟨p.toNat, by omega⟩
          have HK : Hid (k ≤ 63) := Lib.hid (by omega)
          have HCV : Hid (validT (clockR es) = true) := Lib.hid (clockR_valid HVA.out)
          obtain ⟨x, hx⟩ : ∃ x, getT (clockR es) (k : Int) = x := ⟨_, rfl⟩
          have HX := Lib.hid hx; clear hx
          by_cases hm : x = 1000000000000000
          · have HINC : Hid (incW (clockR es) (k : Int) = (6, [])) := Lib.hid (by unfold incW; rw [if_pos (HX.out.trans hm)])
            obtain ⟨HERR, HES⟩ : Hid (err = 6) ∧ Hid (es' = []) := by
              have h := HWR.out
              rw [writeR, if_neg (by rw [HREG.out]; simp), if_neg (by omega), if_neg (by rw [HOKN.out]; simp), if_pos (HX.out.trans hm)] at h
              injection h with h1 h2
              exact ⟨Lib.hid h1.symm, Lib.hid h2.symm⟩
            go_wp2_with (first | (go_at_call 39; refine (ris_any _ N nn np es _ (H.out.ext (by repeat (first | exact Ext.refl _ | refine Ext.drew ?_ | refine Ext.drewN ?_ _ | refine Ext.alloc ?_ _ | refine Ext.trans ?_ (Hid.out (by assumption)))))).mono ?_; rintro e w3 ⟨rfl, hE3⟩; rw [HRI.out, HREG.out]; have HR3 := Lib.hid (HR.out.ext hE3); replace b0 := hE3.cell b0; replace b1 := hE3.cell b1; replace b2 := hE3.cell b2; replace b3 := hE3.cell b3; replace lb := World.block_lt_of_cell? _ _ b0; have HE3 := Lib.hid hE3; clear hE3) | (go_at_call 40; refine (HNM.out _ HNL.out).mono ?_; rintro e w4 ⟨rfl, rfl⟩; rw [HOKN.out]) | (go_at_call 21; refine (rclock13_any _ N nn np es _ (H.out.ext (by repeat (first | exact Ext.refl _ | refine Ext.drew ?_ | refine Ext.drewN ?_ _ | refine Ext.alloc ?_ _ | refine Ext.trans ?_ (Hid.out (by assumption))))) HVA.out).mono ?_; rintro e w5 ⟨u5, rfl, hr5, hE5⟩; have HR5 := Lib.hid (HR3.out.ext hE5); have HRD5 := Lib.hid hr5; have HE5 := Lib.hid hE5; clear hr5 hE5) | (go_at_call 41; refine (rinc_any _ (clockR es) k _ HRD5.out HCV.out HK.out).mono ?_; rintro e w6 ⟨u6, rfl, hr6, hE6⟩; rw [HINC.out] at hr6 ⊢; have HR6 := Lib.hid (HR5.out.ext hE6); have HRD6 := Lib.hid hr6; have HE6 := Lib.hid hE6; obtain ⟨A6, n6, k6, rfl⟩ := hr6.slice; clear hr6 hE6; have r9 := HR6.out; have l5 := r9.lt; have f0 := r9.frozen 0; have f1 := r9.frozen 1; have f2 := r9.frozen 2; have f3 := r9.frozen 3; have d0 : w6.cell? ⟨G + 1, 0, none⟩ = some (.int .i64 0) := r9.cell 0; have d1 : w6.cell? ⟨G + 1, 1, none⟩ = some nilS := r9.cell 1; have d2 : w6.cell? ⟨G + 1, 2, none⟩ = some nilS := r9.cell 2; have d3 : w6.cell? ⟨G + 1, 3, none⟩ = some nilS := r9.cell 3; clear r9))
            obtain ⟨wz, hwz⟩ : ∃ wz, wz = ((((w6.setCell ⟨G + 1, 0, none⟩ (.int .i64 0)).setCell ⟨G + 1, 1, none⟩ nilS).setCell ⟨G + 1, 2, none⟩ nilS).setCell ⟨G + 1, 3, none⟩ (nilS)) := ⟨_, rfl⟩
            have hBz : Blk wz (G + 1) 26 #[.int .i64 0, nilS, nilS, nilS] := by rw [hwz]; exact HR6.out.store4 _ _ _ _
            have hEz : Ext w wz := by rw [hwz]; exact (HEA.out.trans (by repeat (first | exact Ext.refl _ | refine Ext.drew ?_ | refine Ext.drewN ?_ _ | refine Ext.alloc ?_ _ | refine Ext.trans ?_ (Hid.out (by assumption)))) : Ext w w6).store4 (by omega) _ _ _ _
            have hRz : RdE wz (nilS) es' := by rw [hwz]; exact RdE.store4 (by rw [HES.out]; exact RdE.nil_ _) ⟨_, _, _, _, _, _, _, _, _, _, _, HR6.out⟩ _ _ _ _
            rw [← hwz]
            clear hwz d0 d1 d2 d3
            have d0 : wz.cell? ⟨G + 1, 0, none⟩ = some (.int .i64 0) := hBz.cell 0
            have d1 : wz.cell? ⟨G + 1, 1, none⟩ = some nilS := hBz.cell 1
            have d2 : wz.cell? ⟨G + 1, 2, none⟩ = some nilS := hBz.cell 2
            have d3 : wz.cell? ⟨G + 1, 3, none⟩ = some (nilS) := hBz.cell 3
            clear hBz
            refine bodyPost_ret (v := .tuple #[.agg #[.int .i64 0, nilS, nilS, nilS], .int .i64 6]) (by simp [results, Tryz.results13, go_sem, d0, d1, d2, d3]) rfl ?_
            exact ⟨_, by rw [HERR.out], hRz, hEz⟩
          · have HINC : Hid (incW (clockR es) (k : Int) = (0, walkT maxF (clockR es) [((k : Int), x + 1)])) := Lib.hid (by unfold incW; rw [HX.out, if_neg hm])
            obtain ⟨HERR, HES⟩ : Hid (err = 0) ∧ Hid (es' = [(walkT maxF (clockR es) [((k : Int), x + 1)], nm)]) := by
              have h := HWR.out
              rw [writeR, if_neg (by rw [HREG.out]; simp), if_neg (by omega), if_neg (by rw [HOKN.out]; simp), if_neg (by rw [HX.out]; exact hm), HX.out] at h
              injection h with h1 h2
              exact ⟨Lib.hid h1.symm, Lib.hid h2.symm⟩
            go_wp2_with (first | (go_at_call 39; refine (ris_any _ N nn np es _ (H.out.ext (by repeat (first | exact Ext.refl _ | refine Ext.drew ?_ | refine Ext.drewN ?_ _ | refine Ext.alloc ?_ _ | refine Ext.trans ?_ (Hid.out (by assumption)))))).mono ?_; rintro e w3 ⟨rfl, hE3⟩; rw [HRI.out, HREG.out]; have HR3 := Lib.hid (HR.out.ext hE3); replace b0 := hE3.cell b0; replace b1 := hE3.cell b1; replace b2 := hE3.cell b2; replace b3 := hE3.cell b3; replace lb := World.block_lt_of_cell? _ _ b0; have HE3 := Lib.hid hE3; clear hE3) | (go_at_call 40; refine (HNM.out _ HNL.out).mono ?_; rintro e w4 ⟨rfl, rfl⟩; rw [HOKN.out]) | (go_at_call 21; refine (rclock13_any _ N nn np es _ (H.out.ext (by repeat (first | exact Ext.refl _ | refine Ext.drew ?_ | refine Ext.drewN ?_ _ | refine Ext.alloc ?_ _ | refine Ext.trans ?_ (Hid.out (by assumption))))) HVA.out).mono ?_; rintro e w5 ⟨u5, rfl, hr5, hE5⟩; have HR5 := Lib.hid (HR3.out.ext hE5); have HRD5 := Lib.hid hr5; have HE5 := Lib.hid hE5; clear hr5 hE5) | (go_at_call 41; refine (rinc_any _ (clockR es) k _ HRD5.out HCV.out HK.out).mono ?_; rintro e w6 ⟨u6, rfl, hr6, hE6⟩; rw [HINC.out] at hr6 ⊢; have HR6 := Lib.hid (HR5.out.ext hE6); have HRD6 := Lib.hid hr6; have HE6 := Lib.hid hE6; obtain ⟨A6, n6, k6, rfl⟩ := hr6.slice; clear hr6 hE6; have r9 := HR6.out; have l5 := r9.lt; have f0 := r9.frozen 0; have f1 := r9.frozen 1; have f2 := r9.frozen 2; have f3 := r9.frozen 3; have d0 : w6.cell? ⟨G + 1, 0, none⟩ = some (.int .i64 0) := r9.cell 0; have d1 : w6.cell? ⟨G + 1, 1, none⟩ = some nilS := r9.cell 1; have d2 : w6.cell? ⟨G + 1, 2, none⟩ = some nilS := r9.cell 2; have d3 : w6.cell? ⟨G + 1, 3, none⟩ = some nilS := r9.cell 3; clear r9))
            have HE9 : Hid (Ext w w6) := Lib.hid (by repeat (first | exact Ext.refl _ | refine Ext.drew ?_ | refine Ext.drewN ?_ _ | refine Ext.alloc ?_ _ | refine Ext.trans ?_ (Hid.out (by assumption))))
            have hRQ := RdT.store4 HRD6.out ⟨_, _, _, _, _, _, _, _, _, _, _, HR6.out⟩ (.int .i64 0) nilS nilS (.slice (some ⟨w6.heap.size, 0, none⟩) 1 1)
            obtain ⟨ws, hws⟩ : ∃ ws, ws = ((((w6.setCell ⟨G + 1, 0, none⟩ (.int .i64 0)).setCell ⟨G + 1, 1, none⟩ nilS).setCell ⟨G + 1, 2, none⟩ nilS).setCell ⟨G + 1, 3, none⟩ (.slice (some ⟨w6.heap.size, 0, none⟩) 1 1)) := ⟨_, rfl⟩
            have hBz : Blk ws (G + 1) 26 #[.int .i64 0, nilS, nilS, .slice (some ⟨w6.heap.size, 0, none⟩) 1 1] := by rw [hws]; exact HR6.out.store4 _ _ _ _
            have hEz : Ext w ws := by rw [hws]; exact HE9.out.store4 (by omega) _ _ _ _
            have hsz : w6.heap.size = ws.heap.size := by rw [hws, size_store4]
            rw [← hws] at hRQ ⊢
            have hRE := RdE.new1 ws (.slice A6 n6 k6) (walkT maxF (clockR es) [((k : Int), x + 1)], nm) 64 w6.heap.size hsz hRQ HNL.out
            have hBz2 := hBz.alloc (.cells #[.slice A6 n6 k6, encS nm] 64)
            have hEz2 := hEz.alloc (.cells #[.slice A6 n6 k6, encS nm] 64)
            obtain ⟨wz, hwz⟩ : ∃ wz, wz = ws.alloc (.cells #[.slice A6 n6 k6, encS nm] 64) := ⟨_, rfl⟩
            rw [← hwz] at hRE hBz2 hEz2 ⊢
            clear hwz hws d0 d1 d2 d3
            have d0 : wz.cell? ⟨G + 1, 0, none⟩ = some (.int .i64 0) := hBz2.cell 0
            have d1 : wz.cell? ⟨G + 1, 1, none⟩ = some nilS := hBz2.cell 1
            have d2 : wz.cell? ⟨G + 1, 2, none⟩ = some nilS := hBz2.cell 2
            have d3 : wz.cell? ⟨G + 1, 3, none⟩ = some (.slice (some ⟨w6.heap.size, 0, none⟩) 1 1) := hBz2.cell 3
            clear hBz hBz2
            refine bodyPost_ret (v := .tuple #[.agg #[.int .i64 0, nilS, nilS, .slice (some ⟨w6.heap.size, 0, none⟩) 1 1], .int .i64 0]) (by simp [results, Tryz.results13, go_sem, d0, d1, d2, d3]) rfl ?_
            exact ⟨_, by rw [HERR.out], by rw [HES.out]; exact hRE, hEz2⟩
end Go.Proofs.YthldgioggjpnpaaGreat
