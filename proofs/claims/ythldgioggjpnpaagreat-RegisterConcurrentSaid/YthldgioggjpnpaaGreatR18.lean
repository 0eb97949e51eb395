/-
  Contracts: register.single, Write; join.Join.
-/
import Derived.Test.YthldgioggjpnpaaGreatR17
namespace Go.Proofs.YthldgioggjpnpaaGreat
open Go.RowKit

theorem goodF_get {last : Int} {ts : List Tk} (h : goodF last ts = true) (p : Int) : 0 ≤ getT ts p ∧ getT ts p ≤ 1000000000000000 := by
  induction ts generalizing last with
  | nil => simp [getT]
  | cons t r ih =>
    rw [goodF_cons, Bool.and_eq_true] at h
    have h1 := h.1
    simp only [okTk, Bool.and_eq_true, decide_eq_true_eq] at h1
    rw [getT]
    split
    · omega
    · exact ih h.2

/-- the outcome of Write: its error and its entries -/
def writeR (reg : Bool) (es : List En) (p : Int) (nm : Nm) : Int × List En :=
  if reg = false then (4, [])
  else if p < 0 ∨ 63 < p then (1, [])
  else if okName nm = false then (3, [])
  else if getT (clockR es) p = 1000000000000000 then (6, [])
  else (0, [(walkT maxF (clockR es) [(p, getT (clockR es) p + 1)], nm)])

theorem RdE.nil_ (w : World) : RdE w nilS [] := ⟨none, 0, 0, rfl, rfl, Nat.le_refl _, Nat.zero_le _, fun h => absurd h (by omega)⟩

set_option maxRecDepth 100000 in
set_option maxHeartbeats 1000000 in
theorem single_any (q : Value) (x : En) (w : World) (hq : RdT w q x.1) (hl : x.2.length ≤ maxLen) :
    Calls Tryz.prog 38 #[q, encS x.2] w fun e w' => ∃ u, e = .returned (.agg #[.int .i64 0, nilS, nilS, u]) ∧ RdE w' u [x] ∧ Ext w w' := by
  have HQ := Lib.hid hq
  obtain ⟨A, n, c, rfl⟩ := hq.slice
  clear hq
  go_enter Tryz.func38, Tryz.ntmps38
  go_upto_region 1 with (fail)
  obtain ⟨wa, hwa⟩ : ∃ wa, wa = w.alloc (.cells #[.int .i64 0, nilS, nilS, nilS] 26) := ⟨_, rfl⟩
  have hEa : Ext w wa := by rw [hwa]; exact (Ext.refl w).alloc _
  have hB : Blk wa w.heap.size 26 #[.int .i64 0, nilS, nilS, nilS] := by rw [hwa]; exact Blk.new _ _ _
  have l0 := hB.lt
  have d0 : wa.cell? ⟨w.heap.size, 0, none⟩ = some (.int .i64 0) := hB.cell 0
  have d1 : wa.cell? ⟨w.heap.size, 1, none⟩ = some nilS := hB.cell 1
  have d2 : wa.cell? ⟨w.heap.size, 2, none⟩ = some nilS := hB.cell 2
  have d3 : wa.cell? ⟨w.heap.size, 3, none⟩ = some nilS := hB.cell 3
  have f0 := hB.frozen 0
  have f1 := hB.frozen 1
  have f2 := hB.frozen 2
  have f3 := hB.frozen 3
  have HB := Lib.hid hB; clear hB
  rw [← hwa]
  clear hwa
  have HEA := Lib.hid hEa; clear hEa
  have hgs : w.heap.size ≤ w.heap.size := Nat.le_refl _
  generalize hG : w.heap.size = G at *
  go_wp2_with (fail)
  have hRQ := RdT.store4 (HQ.out.ext HEA.out) ⟨_, _, _, _, _, _, _, _, _, _, _, HB.out⟩ (.int .i64 0) nilS nilS (.slice (some ⟨wa.heap.size, 0, none⟩) 1 1)
  obtain ⟨ws, hws⟩ : ∃ ws, ws = ((((wa.setCell ⟨G, 0, none⟩ (.int .i64 0)).setCell ⟨G, 1, none⟩ nilS).setCell ⟨G, 2, none⟩ nilS).setCell ⟨G, 3, none⟩ (.slice (some ⟨wa.heap.size, 0, none⟩) 1 1)) := ⟨_, rfl⟩
  have hBz : Blk ws G 26 #[.int .i64 0, nilS, nilS, .slice (some ⟨wa.heap.size, 0, none⟩) 1 1] := by rw [hws]; exact HB.out.store4 _ _ _ _
  have hEz : Ext w ws := by rw [hws]; exact HEA.out.store4 (by omega) _ _ _ _
  have hsz : wa.heap.size = ws.heap.size := by rw [hws, size_store4]
  rw [← hws] at hRQ ⊢
  have hRE := RdE.new1 ws (.slice A n c) x 64 wa.heap.size hsz hRQ hl
  have hBz2 := hBz.alloc (.cells #[.slice A n c, encS x.2] 64)
  have hEz2 := hEz.alloc (.cells #[.slice A n c, encS x.2] 64)
  generalize ws.alloc (.cells #[.slice A n c, encS x.2] 64) = wz at *
  clear hws d0 d1 d2 d3
  have d0 : wz.cell? ⟨G, 0, none⟩ = some (.int .i64 0) := hBz2.cell 0
  have d1 : wz.cell? ⟨G, 1, none⟩ = some nilS := hBz2.cell 1
  have d2 : wz.cell? ⟨G, 2, none⟩ = some nilS := hBz2.cell 2
  have d3 : wz.cell? ⟨G, 3, none⟩ = some (.slice (some ⟨wa.heap.size, 0, none⟩) 1 1) := hBz2.cell 3
  clear hBz hBz2
  refine bodyPost_ret (v := .agg #[.int .i64 0, nilS, nilS, .slice (some ⟨wa.heap.size, 0, none⟩) 1 1]) (by simp [results, Tryz.results38, go_sem, d0, d1, d2, d3]) rfl ?_
  exact ⟨_, rfl, hRE, hEz2⟩

set_option maxRecDepth 100000 in
set_option maxHeartbeats 4000000 in
theorem write_any (v : Value) (N : Int) (nn np : Nat) (es : List En) (p : Int) (nm : Nm) (w : World) (h : RdV w v N nn np es) (hnl : nm.length ≤ maxLen) :
    Calls Tryz.prog 12 #[v, .int .i64 p, encS nm] w fun e w' => ∃ u, e = .returned (.tuple #[.agg #[.int .i64 0, nilS, nilS, u], .int .i64 (writeR (isReg N nn np es) es p nm).1]) ∧ RdE w' u (writeR (isReg N nn np es) es p nm).2 ∧ Ext w w' := by
  have H := Lib.hid h
  obtain ⟨An, cn, Ap, cp, ve, rfl, he⟩ := h
  obtain ⟨Ae, ne, ce, rfl⟩ := he.slice
  clear he
  have HNM := Lib.hid (valid_any nm)
  have HNL := Lib.hid hnl; clear hnl
  obtain ⟨err, es', hwr⟩ : ∃ err es', writeR (isReg N nn np es) es p nm = (err, es') := ⟨_, _, rfl⟩
  have HWR := Lib.hid hwr
  rw [hwr]
  clear hwr
  go_enter Tryz.func12, Tryz.ntmps12
  go_upto_region 1 with (fail)
  obtain ⟨wa, hwa⟩ : ∃ wa, wa = (w.alloc (.cells #[.int .i64 N, .slice An nn cn, .slice Ap np cp, .slice Ae ne ce] 26)).alloc (.cells #[.int .i64 0, nilS, nilS, nilS] 26) := ⟨_, rfl⟩
  have hEa : Ext w wa := by rw [hwa]; exact ((Ext.refl w).alloc _).alloc _
  have hB : Blk wa w.heap.size 26 #[.int .i64 N, .slice An nn cn, .slice Ap np cp, .slice Ae ne ce] := by rw [hwa]; exact (Blk.new _ _ _).alloc _
  have hR : Blk wa (w.heap.size + 1) 26 #[.int .i64 0, nilS, nilS, nilS] := by rw [hwa]; exact Blk.new' _ _ _ _ (by simp)
  rw [← hwa]
  clear hwa
  have lb := hB.lt
  have b0 : wa.cell? ⟨w.heap.size, 0, none⟩ = some (.int .i64 N) := hB.cell 0
  have b1 : wa.cell? ⟨w.heap.size, 1, none⟩ = some (.slice An nn cn) := hB.cell 1
  have b2 : wa.cell? ⟨w.heap.size, 2, none⟩ = some (.slice Ap np cp) := hB.cell 2
  have b3 : wa.cell? ⟨w.heap.size, 3, none⟩ = some (.slice Ae ne ce) := hB.cell 3
  have HB := Lib.hid hB; clear hB
  have HR := Lib.hid hR; clear hR
  have HEA := Lib.hid hEa; clear hEa
  have hgs : w.heap.size ≤ w.heap.size + 1 := by omega
  generalize hG : w.heap.size = G at *
  have k0 := cell_regrown b0
  have k1 := cell_regrown b1
  have k2 := cell_regrown b2
  have k3 := cell_regrown b3
  have CL : Hid (∀ W, Ext wa W → Calls Tryz.prog 35 #[] W fun e w' => e = .returned latR ∧ Ext W w') := Lib.hid (fun W _ => rlattice_any W)
  have CVr := Lib.hid (fun W (hW : Ext wa W) => vvalid_any _ N nn np es W (H.out.ext (HEA.out.trans hW)))
  cases hreg : isReg N nn np es with
  | false =>
    have CV := CVr
    rw [hreg] at CV
    clear CVr
    obtain ⟨HERR, HES⟩ : Hid (err = 4) ∧ Hid (es' = []) := by
      have h := HWR.out
      rw [writeR, if_pos hreg] at h
      injection h with h1 h2
      exact ⟨Lib.hid h1.symm, Lib.hid h2.symm⟩
    clear hreg
    refine wp_region_ext (by kernel_rfl) (by kernel_rfl) ?_
    repeat (go_big_quiet_step (first | (go_at_call 35; exact Calls.ext_of CL.out _ _) | (go_at_call 34; exact Calls.ext_of CV.out _ _)))
    refine wpQuiet_nil ?_
    intro w3 hE3
    have r3 := HR.out.ext hE3
    have HR3 := Lib.hid r3
    have c0 := hE3.cell b0
    have c1 := hE3.cell b1
    have c2 := hE3.cell b2
    have c3 := hE3.cell b3
    have lb3 := Nat.lt_of_lt_of_le lb hE3.size
    have HE3 := Lib.hid (HEA.out.trans hE3); clear hE3
    clear k0 k1 k2 k3 b0 b1 b2 b3 lb
    have l5 := r3.lt
    have f0 := r3.frozen 0
    have f1 := r3.frozen 1
    have f2 := r3.frozen 2
    have f3 := r3.frozen 3
    have d0 : w3.cell? ⟨G + 1, 0, none⟩ = some (.int .i64 0) := r3.cell 0
    have d1 : w3.cell? ⟨G + 1, 1, none⟩ = some nilS := r3.cell 1
    have d2 : w3.cell? ⟨G + 1, 2, none⟩ = some nilS := r3.cell 2
    have d3 : w3.cell? ⟨G + 1, 3, none⟩ = some nilS := r3.cell 3
    clear r3
    go_wp2_with (fail)
    obtain ⟨wz, hwz⟩ : ∃ wz, wz = ((((w3.setCell ⟨G + 1, 0, none⟩ (.int .i64 0)).setCell ⟨G + 1, 1, none⟩ nilS).setCell ⟨G + 1, 2, none⟩ nilS).setCell ⟨G + 1, 3, none⟩ (nilS)) := ⟨_, rfl⟩
    have hBz : Blk wz (G + 1) 26 #[.int .i64 0, nilS, nilS, nilS] := by rw [hwz]; exact HR3.out.store4 _ _ _ _
    have hEz : Ext w wz := by rw [hwz]; exact HE3.out.store4 (by omega) _ _ _ _
    have hRz : RdE wz (nilS) es' := by rw [hwz]; exact RdE.store4 (by rw [HES.out]; exact RdE.nil_ _) ⟨_, _, _, _, _, _, _, _, _, _, _, HR3.out⟩ _ _ _ _
    rw [← hwz]
    clear hwz d0 d1 d2 d3
    have d0 : wz.cell? ⟨G + 1, 0, none⟩ = some (.int .i64 0) := hBz.cell 0
    have d1 : wz.cell? ⟨G + 1, 1, none⟩ = some nilS := hBz.cell 1
    have d2 : wz.cell? ⟨G + 1, 2, none⟩ = some nilS := hBz.cell 2
    have d3 : wz.cell? ⟨G + 1, 3, none⟩ = some (nilS) := hBz.cell 3
    clear hBz
    refine bodyPost_ret (v := .tuple #[.agg #[.int .i64 0, nilS, nilS, nilS], .int .i64 4]) (by simp [results, Tryz.results12, go_sem, d0, d1, d2, d3]) rfl ?_
    exact ⟨_, by rw [HERR.out], hRz, hEz⟩
  | true =>
    have CV := CVr
    rw [hreg] at CV
    clear CVr
    have HVA := Lib.hid (isReg_valid hreg)
    have HREG := Lib.hid hreg; clear hreg
    by_cases hp0 : p < 0
    · obtain ⟨HERR, HES⟩ : Hid (err = 1) ∧ Hid (es' = []) := by
        have h := HWR.out
        rw [writeR, if_neg (by rw [HREG.out]; simp), if_pos (Or.inl hp0)] at h
        injection h with h1 h2
        exact ⟨Lib.hid h1.symm, Lib.hid h2.symm⟩
      refine wp_region_ext (by kernel_rfl) (by kernel_rfl) ?_
      repeat (go_big_quiet_step (first | (go_at_call 35; exact Calls.ext_of CL.out _ _) | (go_at_call 34; exact Calls.ext_of CV.out _ _)))
      refine wpQuiet_nil ?_
      intro w3 hE3
      have r3 := HR.out.ext hE3
      have HR3 := Lib.hid r3
      have c0 := hE3.cell b0
      have c1 := hE3.cell b1
      have c2 := hE3.cell b2
      have c3 := hE3.cell b3
      have lb3 := Nat.lt_of_lt_of_le lb hE3.size
      have HE3 := Lib.hid (HEA.out.trans hE3); clear hE3
      clear k0 k1 k2 k3 b0 b1 b2 b3 lb
      have l5 := r3.lt
      have f0 := r3.frozen 0
      have f1 := r3.frozen 1
      have f2 := r3.frozen 2
      have f3 := r3.frozen 3
      have d0 : w3.cell? ⟨G + 1, 0, none⟩ = some (.int .i64 0) := r3.cell 0
      have d1 : w3.cell? ⟨G + 1, 1, none⟩ = some nilS := r3.cell 1
      have d2 : w3.cell? ⟨G + 1, 2, none⟩ = some nilS := r3.cell 2
      have d3 : w3.cell? ⟨G + 1, 3, none⟩ = some nilS := r3.cell 3
      clear r3
      go_wp2_with (fail)
      obtain ⟨wz, hwz⟩ : ∃ wz, wz = ((((w3.setCell ⟨G + 1, 0, none⟩ (.int .i64 0)).setCell ⟨G + 1, 1, none⟩ nilS).setCell ⟨G + 1, 2, none⟩ nilS).setCell ⟨G + 1, 3, none⟩ (nilS)) := ⟨_, rfl⟩
      have hBz : Blk wz (G + 1) 26 #[.int .i64 0, nilS, nilS, nilS] := by rw [hwz]; exact HR3.out.store4 _ _ _ _
      have hEz : Ext w wz := by rw [hwz]; exact HE3.out.store4 (by omega) _ _ _ _
      have hRz : RdE wz (nilS) es' := by rw [hwz]; exact RdE.store4 (by rw [HES.out]; exact RdE.nil_ _) ⟨_, _, _, _, _, _, _, _, _, _, _, HR3.out⟩ _ _ _ _
      rw [← hwz]
      clear hwz d0 d1 d2 d3
      have d0 : wz.cell? ⟨G + 1, 0, none⟩ = some (.int .i64 0) := hBz.cell 0
      have d1 : wz.cell? ⟨G + 1, 1, none⟩ = some nilS := hBz.cell 1
      have d2 : wz.cell? ⟨G + 1, 2, none⟩ = some nilS := hBz.cell 2
      have d3 : wz.cell? ⟨G + 1, 3, none⟩ = some (nilS) := hBz.cell 3
      clear hBz
      refine bodyPost_ret (v := .tuple #[.agg #[.int .i64 0, nilS, nilS, nilS], .int .i64 1]) (by simp [results, Tryz.results12, go_sem, d0, d1, d2, d3]) rfl ?_
      exact ⟨_, by rw [HERR.out], hRz, hEz⟩
    · by_cases hp1 : 63 < p
      · obtain ⟨HERR, HES⟩ : Hid (err = 1) ∧ Hid (es' = []) := by
          have h := HWR.out
          rw [writeR, if_neg (by rw [HREG.out]; simp), if_pos (Or.inr hp1)] at h
          injection h with h1 h2
          exact ⟨Lib.hid h1.symm, Lib.hid h2.symm⟩
        refine wp_region_ext (by kernel_rfl) (by kernel_rfl) ?_
        repeat (go_big_quiet_step (first | (go_at_call 35; exact Calls.ext_of CL.out _ _) | (go_at_call 34; exact Calls.ext_of CV.out _ _)))
        refine wpQuiet_nil ?_
        intro w3 hE3
        have r3 := HR.out.ext hE3
        have HR3 := Lib.hid r3
        have c0 := hE3.cell b0
        have c1 := hE3.cell b1
        have c2 := hE3.cell b2
        have c3 := hE3.cell b3
        have lb3 := Nat.lt_of_lt_of_le lb hE3.size
        have HE3 := Lib.hid (HEA.out.trans hE3); clear hE3
        clear k0 k1 k2 k3 b0 b1 b2 b3 lb
        have l5 := r3.lt
        have f0 := r3.frozen 0
        have f1 := r3.frozen 1
        have f2 := r3.frozen 2
        have f3 := r3.frozen 3
        have d0 : w3.cell? ⟨G + 1, 0, none⟩ = some (.int .i64 0) := r3.cell 0
        have d1 : w3.cell? ⟨G + 1, 1, none⟩ = some nilS := r3.cell 1
        have d2 : w3.cell? ⟨G + 1, 2, none⟩ = some nilS := r3.cell 2
        have d3 : w3.cell? ⟨G + 1, 3, none⟩ = some nilS := r3.cell 3
        clear r3
        go_wp2_with (fail)
        obtain ⟨wz, hwz⟩ : ∃ wz, wz = ((((w3.setCell ⟨G + 1, 0, none⟩ (.int .i64 0)).setCell ⟨G + 1, 1, none⟩ nilS).setCell ⟨G + 1, 2, none⟩ nilS).setCell ⟨G + 1, 3, none⟩ (nilS)) := ⟨_, rfl⟩
        have hBz : Blk wz (G + 1) 26 #[.int .i64 0, nilS, nilS, nilS] := by rw [hwz]; exact HR3.out.store4 _ _ _ _
        have hEz : Ext w wz := by rw [hwz]; exact HE3.out.store4 (by omega) _ _ _ _
        have hRz : RdE wz (nilS) es' := by rw [hwz]; exact RdE.store4 (by rw [HES.out]; exact RdE.nil_ _) ⟨_, _, _, _, _, _, _, _, _, _, _, HR3.out⟩ _ _ _ _
        rw [← hwz]
        clear hwz d0 d1 d2 d3
        have d0 : wz.cell? ⟨G + 1, 0, none⟩ = some (.int .i64 0) := hBz.cell 0
        have d1 : wz.cell? ⟨G + 1, 1, none⟩ = some nilS := hBz.cell 1
        have d2 : wz.cell? ⟨G + 1, 2, none⟩ = some nilS := hBz.cell 2
        have d3 : wz.cell? ⟨G + 1, 3, none⟩ = some (nilS) := hBz.cell 3
        clear hBz
        refine bodyPost_ret (v := .tuple #[.agg #[.int .i64 0, nilS, nilS, nilS], .int .i64 1]) (by simp [results, Tryz.results12, go_sem, d0, d1, d2, d3]) rfl ?_
        exact ⟨_, by rw [HERR.out], hRz, hEz⟩
      · cases hok : okName nm with
        | false =>
          have HOKN := Lib.hid hok
          obtain ⟨HERR, HES⟩ : Hid (err = 3) ∧ Hid (es' = []) := by
            have h := HWR.out
            rw [writeR, if_neg (by rw [HREG.out]; simp), if_neg (by omega), if_pos hok] at h
            injection h with h1 h2
            exact ⟨Lib.hid h1.symm, Lib.hid h2.symm⟩
          clear hok
          refine wp_region_ext (by kernel_rfl) (by kernel_rfl) ?_
          repeat (go_big_quiet_step (first | (go_at_call 35; exact Calls.ext_of CL.out _ _) | (go_at_call 34; exact Calls.ext_of CV.out _ _)))
          refine wpQuiet_nil ?_
          intro w3 hE3
          have r3 := HR.out.ext hE3
          have HR3 := Lib.hid r3
          have c0 := hE3.cell b0
          have c1 := hE3.cell b1
          have c2 := hE3.cell b2
          have c3 := hE3.cell b3
          have lb3 := Nat.lt_of_lt_of_le lb hE3.size
          have HE3 := Lib.hid (HEA.out.trans hE3); clear hE3
          clear k0 k1 k2 k3 b0 b1 b2 b3 lb
          have l5 := r3.lt
          have f0 := r3.frozen 0
          have f1 := r3.frozen 1
          have f2 := r3.frozen 2
          have f3 := r3.frozen 3
          have d0 : w3.cell? ⟨G + 1, 0, none⟩ = some (.int .i64 0) := r3.cell 0
          have d1 : w3.cell? ⟨G + 1, 1, none⟩ = some nilS := r3.cell 1
          have d2 : w3.cell? ⟨G + 1, 2, none⟩ = some nilS := r3.cell 2
          have d3 : w3.cell? ⟨G + 1, 3, none⟩ = some nilS := r3.cell 3
          clear r3
          go_wp2_with (go_at_call 36; refine (HNM.out _ HNL.out).mono ?_; rintro e w4 ⟨rfl, rfl⟩; rw [HOKN.out])
          obtain ⟨wz, hwz⟩ : ∃ wz, wz = ((((w3.setCell ⟨G + 1, 0, none⟩ (.int .i64 0)).setCell ⟨G + 1, 1, none⟩ nilS).setCell ⟨G + 1, 2, none⟩ nilS).setCell ⟨G + 1, 3, none⟩ (nilS)) := ⟨_, rfl⟩
          have hBz : Blk wz (G + 1) 26 #[.int .i64 0, nilS, nilS, nilS] := by rw [hwz]; exact HR3.out.store4 _ _ _ _
          have hEz : Ext w wz := by rw [hwz]; exact HE3.out.store4 (by omega) _ _ _ _
          have hRz : RdE wz (nilS) es' := by rw [hwz]; exact RdE.store4 (by rw [HES.out]; exact RdE.nil_ _) ⟨_, _, _, _, _, _, _, _, _, _, _, HR3.out⟩ _ _ _ _
          rw [← hwz]
          clear hwz d0 d1 d2 d3
          have d0 : wz.cell? ⟨G + 1, 0, none⟩ = some (.int .i64 0) := hBz.cell 0
          have d1 : wz.cell? ⟨G + 1, 1, none⟩ = some nilS := hBz.cell 1
          have d2 : wz.cell? ⟨G + 1, 2, none⟩ = some nilS := hBz.cell 2
          have d3 : wz.cell? ⟨G + 1, 3, none⟩ = some (nilS) := hBz.cell 3
          clear hBz
          refine bodyPost_ret (v := .tuple #[.agg #[.int .i64 0, nilS, nilS, nilS], .int .i64 3]) (by simp [results, Tryz.results12, go_sem, d0, d1, d2, d3]) rfl ?_
          exact ⟨_, by rw [HERR.out], hRz, hEz⟩
        | true =>
          have HOKN := Lib.hid hok; clear hok
          obtain ⟨x, hx⟩ : ∃ x, getT (clockR es) p = x := ⟨_, rfl⟩
          have HX := Lib.hid hx; clear hx
          by_cases hm : x = 1000000000000000
          · obtain ⟨HERR, HES⟩ : Hid (err = 6) ∧ Hid (es' = []) := by
              have h := HWR.out
              rw [writeR, if_neg (by rw [HREG.out]; simp), if_neg (by omega), if_neg (by rw [HOKN.out]; simp), if_pos (HX.out.trans hm)] at h
              injection h with h1 h2
              exact ⟨Lib.hid h1.symm, Lib.hid h2.symm⟩
            refine wp_region_ext (by kernel_rfl) (by kernel_rfl) ?_
            repeat (go_big_quiet_step (first | (go_at_call 35; exact Calls.ext_of CL.out _ _) | (go_at_call 34; exact Calls.ext_of CV.out _ _)))
            refine wpQuiet_nil ?_
            intro w3 hE3
            have r3 := HR.out.ext hE3
            have HR3 := Lib.hid r3
            have c0 := hE3.cell b0
            have c1 := hE3.cell b1
            have c2 := hE3.cell b2
            have c3 := hE3.cell b3
            have lb3 := Nat.lt_of_lt_of_le lb hE3.size
            have HE3 := Lib.hid (HEA.out.trans hE3); clear hE3
            clear k0 k1 k2 k3 b0 b1 b2 b3 lb
            clear r3
            go_wp2_with (first | (go_at_call 36; refine (HNM.out _ HNL.out).mono ?_; rintro e w4 ⟨rfl, rfl⟩; rw [HOKN.out]) | (go_at_call 20; refine (rclock_any _ N nn np es _ (H.out.ext HE3.out) HVA.out).mono ?_; rintro e w5 ⟨u5, rfl, hO5, hcv, hE5⟩; have r5 := HR3.out.ext hE5; have HR5 := Lib.hid r5; have HO5 := Lib.hid hO5; clear hO5; have HE5 := Lib.hid (HE3.out.trans hE5); clear hE5; have hcb := goodF_get hcv p; have HCV := Lib.hid hcv; clear hcv) | (go_at_call 37; refine (cinc_any _ _ p _ (HO5.out.rdN (fun _ => rfl)) HCV.out (by omega) (by omega) hcb.1 hcb.2).mono ?_; rintro e w6 hin; rcases hin with ⟨-, rfl, hE6⟩ | ⟨hne, -⟩; rotate_left; exact absurd (HX.out.trans hm) hne; have r6 := HR5.out.ext hE6; have HR6 := Lib.hid r6; have HE6 := Lib.hid (HE5.out.trans hE6); clear hE6; have l5 := r6.lt; have f0 := r6.frozen 0; have f1 := r6.frozen 1; have f2 := r6.frozen 2; have f3 := r6.frozen 3; have d0 : w6.cell? ⟨G + 1, 0, none⟩ = some (.int .i64 0) := r6.cell 0; have d1 : w6.cell? ⟨G + 1, 1, none⟩ = some nilS := r6.cell 1; have d2 : w6.cell? ⟨G + 1, 2, none⟩ = some nilS := r6.cell 2; have d3 : w6.cell? ⟨G + 1, 3, none⟩ = some nilS := r6.cell 3; clear r6))
            obtain ⟨wz, hwz⟩ : ∃ wz, wz = ((((w6.setCell ⟨G + 1, 0, none⟩ (.int .i64 0)).setCell ⟨G + 1, 1, none⟩ nilS).setCell ⟨G + 1, 2, none⟩ nilS).setCell ⟨G + 1, 3, none⟩ (nilS)) := ⟨_, rfl⟩
            have hBz : Blk wz (G + 1) 26 #[.int .i64 0, nilS, nilS, nilS] := by rw [hwz]; exact HR6.out.store4 _ _ _ _
            have hEz : Ext w wz := by rw [hwz]; exact HE6.out.store4 (by omega) _ _ _ _
            have hRz : RdE wz (nilS) es' := by rw [hwz]; exact RdE.store4 (by rw [HES.out]; exact RdE.nil_ _) ⟨_, _, _, _, _, _, _, _, _, _, _, HR6.out⟩ _ _ _ _
            rw [← hwz]
            clear hwz d0 d1 d2 d3
            have d0 : wz.cell? ⟨G + 1, 0, none⟩ = some (.int .i64 0) := hBz.cell 0
            have d1 : wz.cell? ⟨G + 1, 1, none⟩ = some nilS := hBz.cell 1
            have d2 : wz.cell? ⟨G + 1, 2, none⟩ = some nilS := hBz.cell 2
            have d3 : wz.cell? ⟨G + 1, 3, none⟩ = some (nilS) := hBz.cell 3
            clear hBz
            refine bodyPost_ret (v := .tuple #[.agg #[.int .i64 0, nilS, nilS, nilS], .int .i64 6]) (by simp [results, Tryz.results12, go_sem, d0, d1, d2, d3]) rfl ?_
            exact ⟨_, by rw [HERR.out], hRz, hEz⟩
          · obtain ⟨HERR, HES⟩ : Hid (err = 0) ∧ Hid (es' = [(walkT maxF (clockR es) [(p, x + 1)], nm)]) := by
              have h := HWR.out
              rw [writeR, if_neg (by rw [HREG.out]; simp), if_neg (by omega), if_neg (by rw [HOKN.out]; simp), if_neg (by rw [HX.out]; exact hm), HX.out] at h
              injection h with h1 h2
              exact ⟨Lib.hid h1.symm, Lib.hid h2.symm⟩
            refine wp_region_ext (by kernel_rfl) (by kernel_rfl) ?_
            repeat (go_big_quiet_step (first | (go_at_call 35; exact Calls.ext_of CL.out _ _) | (go_at_call 34; exact Calls.ext_of CV.out _ _)))
            refine wpQuiet_nil ?_
            intro w3 hE3
            have r3 := HR.out.ext hE3
            have HR3 := Lib.hid r3
            have c0 := hE3.cell b0
            have c1 := hE3.cell b1
            have c2 := hE3.cell b2
            have c3 := hE3.cell b3
            have lb3 := Nat.lt_of_lt_of_le lb hE3.size
            have HE3 := Lib.hid (HEA.out.trans hE3); clear hE3
            clear k0 k1 k2 k3 b0 b1 b2 b3 lb
            clear r3
            go_wp2_with (first | (go_at_call 36; refine (HNM.out _ HNL.out).mono ?_; rintro e w4 ⟨rfl, rfl⟩; rw [HOKN.out]) | (go_at_call 20; refine (rclock_any _ N nn np es _ (H.out.ext HE3.out) HVA.out).mono ?_; rintro e w5 ⟨u5, rfl, hO5, hcv, hE5⟩; have r5 := HR3.out.ext hE5; have HR5 := Lib.hid r5; have HO5 := Lib.hid hO5; clear hO5; have HE5 := Lib.hid (HE3.out.trans hE5); clear hE5; have hcb := goodF_get hcv p; have HCV := Lib.hid hcv; clear hcv) | (go_at_call 37; refine (cinc_any _ _ p _ (HO5.out.rdN (fun _ => rfl)) HCV.out (by omega) (by omega) hcb.1 hcb.2).mono ?_; rintro e w6 hin; rcases hin with ⟨hne, -⟩ | ⟨-, u6, rfl, hO6, hE6⟩; exact absurd (HX.out.symm.trans hne) hm; have HO6 := Lib.hid hO6; clear hO6; have HE6 := Lib.hid (HE5.out.trans hE6); have HR6 := Lib.hid (HR5.out.ext hE6); clear hE6) | (go_at_call 38; refine (single_any _ (walkT maxF (clockR es) [(p, x + 1)], nm) _ (by have := HO6.out.rdN (fun _ => rfl); rw [HX.out] at this; exact this) HNL.out).mono ?_; rintro e w7 ⟨u7, rfl, hr7, hE7⟩; have r7 := HR6.out.ext hE7; have HR7 := Lib.hid r7; have HE7 := Lib.hid (HE6.out.trans hE7); clear hE7; have HRD7 := Lib.hid hr7; obtain ⟨A7, n7, k7, rfl⟩ := hr7.slice; clear hr7; have l5 := r7.lt; have f0 := r7.frozen 0; have f1 := r7.frozen 1; have f2 := r7.frozen 2; have f3 := r7.frozen 3; have d0 : w7.cell? ⟨G + 1, 0, none⟩ = some (.int .i64 0) := r7.cell 0; have d1 : w7.cell? ⟨G + 1, 1, none⟩ = some nilS := r7.cell 1; have d2 : w7.cell? ⟨G + 1, 2, none⟩ = some nilS := r7.cell 2; have d3 : w7.cell? ⟨G + 1, 3, none⟩ = some nilS := r7.cell 3; clear r7))
            obtain ⟨wz, hwz⟩ : ∃ wz, wz = ((((w7.setCell ⟨G + 1, 0, none⟩ (.int .i64 0)).setCell ⟨G + 1, 1, none⟩ nilS).setCell ⟨G + 1, 2, none⟩ nilS).setCell ⟨G + 1, 3, none⟩ (.slice A7 n7 k7)) := ⟨_, rfl⟩
            have hBz : Blk wz (G + 1) 26 #[.int .i64 0, nilS, nilS, .slice A7 n7 k7] := by rw [hwz]; exact HR7.out.store4 _ _ _ _
            have hEz : Ext w wz := by rw [hwz]; exact HE7.out.store4 (by omega) _ _ _ _
            have hRz : RdE wz (.slice A7 n7 k7) es' := by rw [hwz]; exact RdE.store4 (by rw [HES.out]; exact HRD7.out) ⟨_, _, _, _, _, _, _, _, _, _, _, HR7.out⟩ _ _ _ _
            rw [← hwz]
            clear hwz d0 d1 d2 d3
            have d0 : wz.cell? ⟨G + 1, 0, none⟩ = some (.int .i64 0) := hBz.cell 0
            have d1 : wz.cell? ⟨G + 1, 1, none⟩ = some nilS := hBz.cell 1
            have d2 : wz.cell? ⟨G + 1, 2, none⟩ = some nilS := hBz.cell 2
            have d3 : wz.cell? ⟨G + 1, 3, none⟩ = some (.slice A7 n7 k7) := hBz.cell 3
            clear hBz
            refine bodyPost_ret (v := .tuple #[.agg #[.int .i64 0, nilS, nilS, .slice A7 n7 k7], .int .i64 0]) (by simp [results, Tryz.results12, go_sem, d0, d1, d2, d3]) rfl ?_
            exact ⟨_, by rw [HERR.out], hRz, hEz⟩
end Go.Proofs.YthldgioggjpnpaaGreat
