/-
  Contracts: the reference's Resolve of registers.
-/
import Derived.Test.YthldgioggjpnpaaGreatS18
import Derived.Test.YthldgioggjpnpaaGreatR22
namespace Go.Proofs.YthldgioggjpnpaaGreat
open Go.RowKit

set_option maxRecDepth 100000 in
set_option maxHeartbeats 4000000 in
theorem rresolve13_any (v : Value) (N : Int) (nn np : Nat) (es : List En) (p : Int) (w : World) (h : RdV w v N nn np es) (hl0 : es.length ≤ 1048576) :
    Calls Tryz.prog 15 #[v, .int .i64 p] w fun e w' => ∃ u l, NamesOf es l ∧ e = .returned (.tuple #[.agg #[.int .i64 0, nilS, nilS, u], .int .i64 (resolveR (isReg N nn np es) es p l).1]) ∧ RdE w' u (resolveR (isReg N nn np es) es p l).2 ∧ Ext w w' := by
  have H := Lib.hid h
  obtain ⟨An, cn, Ap, cp, ve, rfl, he⟩ := h
  obtain ⟨Ae, ne, ce, hve⟩ := he.slice
  have HLN : Hid (es.length = ne) := Lib.hid (by subst hve; obtain ⟨_, _, _, hv, hl, -⟩ := he; injection hv with e1 e2 e3; rw [e2]; exact hl)
  have HEN := Lib.hid (fun x (hx : x ∈ es) => RdE.nameLen he hx)
  have HL0 := Lib.hid hl0; clear hl0
  subst hve
  clear he
  have HRI : Hid (isB (IsReg N nn np es) = isReg N nn np es) := Lib.hid (isB_of (isReg_iff N nn np es).symm).symm
  go_enter Tryz.func15, Tryz.ntmps15
  go_upto_region 1 with (fail)
  obtain ⟨wa, hwa⟩ : ∃ wa, wa = (w.alloc (.cells #[.int .i64 N, .slice An nn cn, .slice Ap np cp, .slice Ae ne ce] 26)).alloc (.cells #[.int .i64 0, nilS, nilS, nilS] 26) := ⟨_, rfl⟩
  have HEA : Hid (Ext w wa) := Lib.hid (by rw [hwa]; exact ((Ext.refl w).alloc _).alloc _)
  have HB : Hid (Blk wa w.heap.size 26 #[.int .i64 N, .slice An nn cn, .slice Ap np cp, .slice Ae ne ce]) := Lib.hid (by rw [hwa]; exact (Blk.new _ _ _).alloc _)
  have HR : Hid (Blk wa (w.heap.size + 1) 26 #[.int .i64 0, nilS, nilS, nilS]) := Lib.hid (by rw [hwa]; exact Blk.new' _ _ _ _ (by simp))
  rw [← hwa]
  clear hwa
  have hgs : w.heap.size ≤ w.heap.size + 1 := by omega
  generalize hG : w.heap.size = G at *
  have b0 : wa.cell? ⟨G, 0, none⟩ = some (.int .i64 N) := HB.out.cell 0
  have b1 : wa.cell? ⟨G, 1, none⟩ = some (.slice An nn cn) := HB.out.cell 1
  have b2 : wa.cell? ⟨G, 2, none⟩ = some (.slice Ap np cp) := HB.out.cell 2
  have b3 : wa.cell? ⟨G, 3, none⟩ = some (.slice Ae ne ce) := HB.out.cell 3
  have lb := HB.out.lt
  cases hreg : isReg N nn np es with
  | false =>
    have HREG := Lib.hid hreg; clear hreg
    have hrs : ∀ l, NamesOf es l → resolveR (isReg N nn np es) es p l = (4, []) := fun l hl => by
      unfold resolveR; rw [if_pos HREG.out]
    have HRS := Lib.hid hrs; clear hrs
    go_wp2_with (first | (go_at_call 39; refine (ris_any _ N nn np es _ (H.out.ext (by repeat (first | exact Ext.refl _ | refine Ext.drew ?_ | refine Ext.drewN ?_ _ | refine Ext.alloc ?_ _ | refine Ext.trans ?_ (Hid.out (by assumption)))))).mono ?_; rintro e w3 ⟨rfl, hE3⟩; rw [HRI.out, HREG.out]; have HR3 := Lib.hid (HR.out.ext hE3); replace b0 := hE3.cell b0; replace b1 := hE3.cell b1; replace b2 := hE3.cell b2; replace b3 := hE3.cell b3; replace lb := World.block_lt_of_cell? _ _ b0; have HE3 := Lib.hid hE3; clear hE3; have r9 := HR3.out; have l5 := r9.lt; have f0 := r9.frozen 0; have f1 := r9.frozen 1; have f2 := r9.frozen 2; have f3 := r9.frozen 3; have d0 : w3.cell? ⟨G + 1, 0, none⟩ = some (.int .i64 0) := r9.cell 0; have d1 : w3.cell? ⟨G + 1, 1, none⟩ = some nilS := r9.cell 1; have d2 : w3.cell? ⟨G + 1, 2, none⟩ = some nilS := r9.cell 2; have d3 : w3.cell? ⟨G + 1, 3, none⟩ = some nilS := r9.cell 3; clear r9))
    obtain ⟨wz, hwz⟩ : ∃ wz, wz = ((((w3.setCell ⟨G + 1, 0, none⟩ (.int .i64 0)).setCell ⟨G + 1, 1, none⟩ nilS).setCell ⟨G + 1, 2, none⟩ nilS).setCell ⟨G + 1, 3, none⟩ (nilS)) := ⟨_, rfl⟩
    have hBz : Blk wz (G + 1) 26 #[.int .i64 0, nilS, nilS, nilS] := by rw [hwz]; exact HR3.out.store4 _ _ _ _
    have hEz : Ext w wz := by rw [hwz]; exact (HEA.out.trans (by repeat (first | exact Ext.refl _ | refine Ext.drew ?_ | refine Ext.drewN ?_ _ | refine Ext.alloc ?_ _ | refine Ext.trans ?_ (Hid.out (by assumption)))) : Ext w w3).store4 (by omega) _ _ _ _
    have hRz : RdE wz (nilS) [] := by rw [hwz]; exact RdE.store4 (RdE.nil_ _) ⟨_, _, _, _, _, _, _, _, _, _, _, HR3.out⟩ _ _ _ _
    rw [← hwz]
    clear hwz d0 d1 d2 d3
    have d0 : wz.cell? ⟨G + 1, 0, none⟩ = some (.int .i64 0) := hBz.cell 0
    have d1 : wz.cell? ⟨G + 1, 1, none⟩ = some nilS := hBz.cell 1
    have d2 : wz.cell? ⟨G + 1, 2, none⟩ = some nilS := hBz.cell 2
    have d3 : wz.cell? ⟨G + 1, 3, none⟩ = some (nilS) := hBz.cell 3
    clear hBz
    refine bodyPost_ret (v := .tuple #[.agg #[.int .i64 0, nilS, nilS, nilS], .int .i64 4]) (by simp [results, Tryz.results15, go_sem, d0, d1, d2, d3]) rfl ?_
    exact ⟨_, _, namesOf_sort es, by rw [HRS.out _ (namesOf_sort es)], by rw [HRS.out _ (namesOf_sort es)]; exact hRz, hEz⟩
  | true =>
    have HVA := Lib.hid (isReg_valid hreg)
    have HREG := Lib.hid hreg; clear hreg
    by_cases hp0 : p < 0
    · have hrs : ∀ l, NamesOf es l → resolveR (isReg N nn np es) es p l = (1, []) := fun l hl => by
        unfold resolveR; rw [if_neg (by rw [HREG.out]; simp), if_pos (Or.inl hp0)]
      have HRS := Lib.hid hrs; clear hrs
      go_wp2_with (first | (go_at_call 39; refine (ris_any _ N nn np es _ (H.out.ext (by repeat (first | exact Ext.refl _ | refine Ext.drew ?_ | refine Ext.drewN ?_ _ | refine Ext.alloc ?_ _ | refine Ext.trans ?_ (Hid.out (by assumption)))))).mono ?_; rintro e w3 ⟨rfl, hE3⟩; rw [HRI.out, HREG.out]; have HR3 := Lib.hid (HR.out.ext hE3); replace b0 := hE3.cell b0; replace b1 := hE3.cell b1; replace b2 := hE3.cell b2; replace b3 := hE3.cell b3; replace lb := World.block_lt_of_cell? _ _ b0; have HE3 := Lib.hid hE3; clear hE3; have r9 := HR3.out; have l5 := r9.lt; have f0 := r9.frozen 0; have f1 := r9.frozen 1; have f2 := r9.frozen 2; have f3 := r9.frozen 3; have d0 : w3.cell? ⟨G + 1, 0, none⟩ = some (.int .i64 0) := r9.cell 0; have d1 : w3.cell? ⟨G + 1, 1, none⟩ = some nilS := r9.cell 1; have d2 : w3.cell? ⟨G + 1, 2, none⟩ = some nilS := r9.cell 2; have d3 : w3.cell? ⟨G + 1, 3, none⟩ = some nilS := r9.cell 3; clear r9))
      obtain ⟨wz, hwz⟩ : ∃ wz, wz = ((((w3.setCell ⟨G + 1, 0, none⟩ (.int .i64 0)).setCell ⟨G + 1, 1, none⟩ nilS).setCell ⟨G + 1, 2, none⟩ nilS).setCell ⟨G + 1, 3, none⟩ (nilS)) := ⟨_, rfl⟩
      have hBz : Blk wz (G + 1) 26 #[.int .i64 0, nilS, nilS, nilS] := by rw [hwz]; exact HR3.out.store4 _ _ _ _
      have hEz : Ext w wz := by rw [hwz]; exact (HEA.out.trans (by repeat (first | exact Ext.refl _ | refine Ext.drew ?_ | refine Ext.drewN ?_ _ | refine Ext.alloc ?_ _ | refine Ext.trans ?_ (Hid.out (by assumption)))) : Ext w w3).store4 (by omega) _ _ _ _
      have hRz : RdE wz (nilS) [] := by rw [hwz]; exact RdE.store4 (RdE.nil_ _) ⟨_, _, _, _, _, _, _, _, _, _, _, HR3.out⟩ _ _ _ _
      rw [← hwz]
      clear hwz d0 d1 d2 d3
      have d0 : wz.cell? ⟨G + 1, 0, none⟩ = some (.int .i64 0) := hBz.cell 0
      have d1 : wz.cell? ⟨G + 1, 1, none⟩ = some nilS := hBz.cell 1
      have d2 : wz.cell? ⟨G + 1, 2, none⟩ = some nilS := hBz.cell 2
      have d3 : wz.cell? ⟨G + 1, 3, none⟩ = some (nilS) := hBz.cell 3
      clear hBz
      refine bodyPost_ret (v := .tuple #[.agg #[.int .i64 0, nilS, nilS, nilS], .int .i64 1]) (by simp [results, Tryz.results15, go_sem, d0, d1, d2, d3]) rfl ?_
      exact ⟨_, _, namesOf_sort es, by rw [HRS.out _ (namesOf_sort es)], by rw [HRS.out _ (namesOf_sort es)]; exact hRz, hEz⟩
    · by_cases hp1 : 63 < p
      · have hrs : ∀ l, NamesOf es l → resolveR (isReg N nn np es) es p l = (1, []) := fun l hl => by
          unfold resolveR; rw [if_neg (by rw [HREG.out]; simp), if_pos (Or.inr hp1)]
        have HRS := Lib.hid hrs; clear hrs
        go_wp2_with (first | (go_at_call 39; refine (ris_any _ N nn np es _ (H.out.ext (by repeat (first | exact Ext.refl _ | refine Ext.drew ?_ | refine Ext.drewN ?_ _ | refine Ext.alloc ?_ _ | refine Ext.trans ?_ (Hid.out (by assumption)))))).mono ?_; rintro e w3 ⟨rfl, hE3⟩; rw [HRI.out, HREG.out]; have HR3 := Lib.hid (HR.out.ext hE3); replace b0 := hE3.cell b0; replace b1 := hE3.cell b1; replace b2 := hE3.cell b2; replace b3 := hE3.cell b3; replace lb := World.block_lt_of_cell? _ _ b0; have HE3 := Lib.hid hE3; clear hE3; have r9 := HR3.out; have l5 := r9.lt; have f0 := r9.frozen 0; have f1 := r9.frozen 1; have f2 := r9.frozen 2; have f3 := r9.frozen 3; have d0 : w3.cell? ⟨G + 1, 0, none⟩ = some (.int .i64 0) := r9.cell 0; have d1 : w3.cell? ⟨G + 1, 1, none⟩ = some nilS := r9.cell 1; have d2 : w3.cell? ⟨G + 1, 2, none⟩ = some nilS := r9.cell 2; have d3 : w3.cell? ⟨G + 1, 3, none⟩ = some nilS := r9.cell 3; clear r9))
        obtain ⟨wz, hwz⟩ : ∃ wz, wz = ((((w3.setCell ⟨G + 1, 0, none⟩ (.int .i64 0)).setCell ⟨G + 1, 1, none⟩ nilS).setCell ⟨G + 1, 2, none⟩ nilS).setCell ⟨G + 1, 3, none⟩ (nilS)) := ⟨_, rfl⟩
        have hBz : Blk wz (G + 1) 26 #[.int .i64 0, nilS, nilS, nilS] := by rw [hwz]; exact HR3.out.store4 _ _ _ _
        have hEz : Ext w wz := by rw [hwz]; exact (HEA.out.trans (by repeat (first | exact Ext.refl _ | refine Ext.drew ?_ | refine Ext.drewN ?_ _ | refine Ext.alloc ?_ _ | refine Ext.trans ?_ (Hid.out (by assumption)))) : Ext w w3).store4 (by omega) _ _ _ _
        have hRz : RdE wz (nilS) [] := by rw [hwz]; exact RdE.store4 (RdE.nil_ _) ⟨_, _, _, _, _, _, _, _, _, _, _, HR3.out⟩ _ _ _ _
        rw [← hwz]
        clear hwz d0 d1 d2 d3
        have d0 : wz.cell? ⟨G + 1, 0, none⟩ = some (.int .i64 0) := hBz.cell 0
        have d1 : wz.cell? ⟨G + 1, 1, none⟩ = some nilS := hBz.cell 1
        have d2 : wz.cell? ⟨G + 1, 2, none⟩ = some nilS := hBz.cell 2
        have d3 : wz.cell? ⟨G + 1, 3, none⟩ = some (nilS) := hBz.cell 3
        clear hBz
        refine bodyPost_ret (v := .tuple #[.agg #[.int .i64 0, nilS, nilS, nilS], .int .i64 1]) (by simp [results, Tryz.results15, go_sem, d0, d1, d2, d3]) rfl ?_
        exact ⟨_, _, namesOf_sort es, by rw [HRS.out _ (namesOf_sort es)], by rw [HRS.out _ (namesOf_sort es)]; exact hRz, hEz⟩
      · have hpr : ¬ (p < 0 ∨ 63 < p) := by omega
        have HPR := Lib.hid hpr; clear hpr
        by_cases hz : ne = 0
        · have HNIL : Hid (es = []) := Lib.hid (List.eq_nil_of_length_eq_zero (by have := HLN.out; omega))
          subst hz
          have hrs : ∀ l, NamesOf es l → resolveR (isReg N nn np es) es p l = (14, []) := fun l hl => by
            unfold resolveR; rw [if_neg (by rw [HREG.out]; simp), if_neg HPR.out]; have : l = [] := namesOf_uniq hl ⟨List.Pairwise.nil, fun y => by rw [HNIL.out]; simp⟩; rw [this]
          have HRS := Lib.hid hrs; clear hrs
          go_wp2_with (first | (go_at_call 39; refine (ris_any _ N nn np es _ (H.out.ext (by repeat (first | exact Ext.refl _ | refine Ext.drew ?_ | refine Ext.drewN ?_ _ | refine Ext.alloc ?_ _ | refine Ext.trans ?_ (Hid.out (by assumption)))))).mono ?_; rintro e w3 ⟨rfl, hE3⟩; rw [HRI.out, HREG.out]; have HR3 := Lib.hid (HR.out.ext hE3); replace b0 := hE3.cell b0; replace b1 := hE3.cell b1; replace b2 := hE3.cell b2; replace b3 := hE3.cell b3; replace lb := World.block_lt_of_cell? _ _ b0; have HE3 := Lib.hid hE3; clear hE3; have r9 := HR3.out; have l5 := r9.lt; have f0 := r9.frozen 0; have f1 := r9.frozen 1; have f2 := r9.frozen 2; have f3 := r9.frozen 3; have d0 : w3.cell? ⟨G + 1, 0, none⟩ = some (.int .i64 0) := r9.cell 0; have d1 : w3.cell? ⟨G + 1, 1, none⟩ = some nilS := r9.cell 1; have d2 : w3.cell? ⟨G + 1, 2, none⟩ = some nilS := r9.cell 2; have d3 : w3.cell? ⟨G + 1, 3, none⟩ = some nilS := r9.cell 3; clear r9))
          obtain ⟨wz, hwz⟩ : ∃ wz, wz = ((((w3.setCell ⟨G + 1, 0, none⟩ (.int .i64 0)).setCell ⟨G + 1, 1, none⟩ nilS).setCell ⟨G + 1, 2, none⟩ nilS).setCell ⟨G + 1, 3, none⟩ (nilS)) := ⟨_, rfl⟩
          have hBz : Blk wz (G + 1) 26 #[.int .i64 0, nilS, nilS, nilS] := by rw [hwz]; exact HR3.out.store4 _ _ _ _
          have hEz : Ext w wz := by rw [hwz]; exact (HEA.out.trans (by repeat (first | exact Ext.refl _ | refine Ext.drew ?_ | refine Ext.drewN ?_ _ | refine Ext.alloc ?_ _ | refine Ext.trans ?_ (Hid.out (by assumption)))) : Ext w w3).store4 (by omega) _ _ _ _
          have hRz : RdE wz (nilS) [] := by rw [hwz]; exact RdE.store4 (RdE.nil_ _) ⟨_, _, _, _, _, _, _, _, _, _, _, HR3.out⟩ _ _ _ _
          rw [← hwz]
          clear hwz d0 d1 d2 d3
          have d0 : wz.cell? ⟨G + 1, 0, none⟩ = some (.int .i64 0) := hBz.cell 0
          have d1 : wz.cell? ⟨G + 1, 1, none⟩ = some nilS := hBz.cell 1
          have d2 : wz.cell? ⟨G + 1, 2, none⟩ = some nilS := hBz.cell 2
          have d3 : wz.cell? ⟨G + 1, 3, none⟩ = some (nilS) := hBz.cell 3
          clear hBz
          refine bodyPost_ret (v := .tuple #[.agg #[.int .i64 0, nilS, nilS, nilS], .int .i64 14]) (by simp [results, Tryz.results15, go_sem, d0, d1, d2, d3]) rfl ?_
          exact ⟨_, _, namesOf_sort es, by rw [HRS.out _ (namesOf_sort es)], by rw [HRS.out _ (namesOf_sort es)]; exact hRz, hEz⟩
        · have HPOS : Hid (0 < es.length) := Lib.hid (by have := HLN.out; omega)
          have z0 : ((ne : Int) == 0) = false := by rw [beq_eq_false_iff_ne]; omega
          have z1 : ¬ ((ne : Int) = 0) := by omega
          clear hz
          go_upto_region 7 with ((go_at_call 39; refine (ris_any _ N nn np es _ (H.out.ext (by repeat (first | exact Ext.refl _ | refine Ext.drew ?_ | refine Ext.drewN ?_ _ | refine Ext.alloc ?_ _ | refine Ext.trans ?_ (Hid.out (by assumption)))))).mono ?_; rintro e w3 ⟨rfl, hE3⟩; rw [HRI.out, HREG.out]; have HR3 := Lib.hid (HR.out.ext hE3); replace b0 := hE3.cell b0; replace b1 := hE3.cell b1; replace b2 := hE3.cell b2; replace b3 := hE3.cell b3; replace lb := World.block_lt_of_cell? _ _ b0; have HE3 := Lib.hid hE3; clear hE3))
          go_region_law (first
            | (refine step_fn rfl 19 [.tmp 24] #[26] rfl (fun _ _ => by kernel_rfl) [.agg #[.int .i64 N, .slice An nn cn, .slice Ap np cp, .slice Ae ne ce]] rfl (fun v w' => ∃ l, NamesOf es l ∧ RdS w' v l ∧ Ext w3.drew w') ((rnames13_any _ N nn np es _ (H.out.ext (by repeat (first | exact Ext.refl _ | refine Ext.drew ?_ | refine Ext.drewN ?_ _ | refine Ext.alloc ?_ _ | refine Ext.trans ?_ (Hid.out (by assumption))))) HL0.out).mono (fun e w' ⟨u, l, h1, h2, h3, h4⟩ => ⟨u, h1, l, h2, h3, h4⟩)) ?_; intro v5 w5 hp5; obtain ⟨l5', hn5, hr5, hE5⟩ := hp5; have hE5 := (Ext.refl w3).drew.trans hE5; obtain ⟨nm, r5, rfl⟩ := hn5.cons_of HPOS.out; have hnl := (by obtain ⟨x, hx, hxe⟩ := (hn5.2 nm).1 List.mem_cons_self; rw [← hxe]; exact HEN.out x hx : nm.length ≤ maxLen); have HNL := Lib.hid hnl; clear hnl; have HN5 := Lib.hid hn5; clear hn5; obtain ⟨b5, o5, n5, k5, rfl, hn0, hb5, hc5⟩ := hr5.head; clear hr5; have hn0' : (0 : Int) < (n5 : Int) := (by omega); have c05 := hE5.cell b0; have c15 := hE5.cell b1; have c25 := hE5.cell b2; have c35 := hE5.cell b3; have lb5 := World.block_lt_of_cell? _ _ c05; have HR5 := Lib.hid (HR3.out.ext hE5); have HE5 := Lib.hid hE5; clear hE5)
            | (refine step_fn rfl 13 [.tmp 22, .tmp 23, .tmp 27] #[26, 3, 9] rfl (fun _ _ => by kernel_rfl) [.agg #[.int .i64 N, .slice An nn cn, .slice Ap np cp, .slice Ae ne ce], .int .i64 p, encS nm] rfl (fun v w' => ∃ u, v = .tuple #[.agg #[.int .i64 0, nilS, nilS, u], .int .i64 (writeR (isReg N nn np es) es p nm).1] ∧ RdE w' u (writeR (isReg N nn np es) es p nm).2 ∧ Ext w5 w') ((rwrite13_any _ N nn np es p nm _ (H.out.ext (by repeat (first | exact Ext.refl _ | refine Ext.drew ?_ | refine Ext.drewN ?_ _ | refine Ext.alloc ?_ _ | refine Ext.trans ?_ (Hid.out (by assumption))))) HNL.out).mono (fun e w' ⟨u, h1, h2, h3⟩ => ⟨_, h1, u, rfl, h2, h3⟩)) ?_; intro v7 w7 hp7; obtain ⟨u7, rfl, hr7, hE7⟩ := hp7; have HR7 := Lib.hid (HR5.out.ext hE7); have HE7 := Lib.hid hE7; clear hE7; have HRD7 := Lib.hid hr7; obtain ⟨A7, n7, k7, rfl⟩ := hr7.slice; clear hr7; have r9 := HR7.out; have l5 := r9.lt; have f0 := r9.frozen 0; have f1 := r9.frozen 1; have f2 := r9.frozen 2; have f3 := r9.frozen 3; have d0 : w7.cell? ⟨G + 1, 0, none⟩ = some (.int .i64 0) := r9.cell 0; have d1 : w7.cell? ⟨G + 1, 1, none⟩ = some nilS := r9.cell 1; have d2 : w7.cell? ⟨G + 1, 2, none⟩ = some nilS := r9.cell 2; have d3 : w7.cell? ⟨G + 1, 3, none⟩ = some nilS := r9.cell 3; clear r9))
          all_goals
            go_wp2_with (fail)
            obtain ⟨wz, hwz⟩ : ∃ wz, wz = ((((w7.setCell ⟨G + 1, 0, none⟩ (.int .i64 0)).setCell ⟨G + 1, 1, none⟩ nilS).setCell ⟨G + 1, 2, none⟩ nilS).setCell ⟨G + 1, 3, none⟩ (.slice A7 n7 k7)) := ⟨_, rfl⟩
            have hBz : Blk wz (G + 1) 26 #[.int .i64 0, nilS, nilS, .slice A7 n7 k7] := by rw [hwz]; exact HR7.out.store4 _ _ _ _
            have hEz : Ext w wz := by rw [hwz]; exact (HEA.out.trans (by repeat (first | exact Ext.refl _ | refine Ext.drew ?_ | refine Ext.drewN ?_ _ | refine Ext.alloc ?_ _ | refine Ext.trans ?_ (Hid.out (by assumption)))) : Ext w w7).store4 (by omega) _ _ _ _
            have hRz : RdE wz (.slice A7 n7 k7) (writeR (isReg N nn np es) es p nm).2 := by rw [hwz]; exact RdE.store4 (HRD7.out) ⟨_, _, _, _, _, _, _, _, _, _, _, HR7.out⟩ _ _ _ _
            rw [← hwz]
            clear hwz d0 d1 d2 d3
            have d0 : wz.cell? ⟨G + 1, 0, none⟩ = some (.int .i64 0) := hBz.cell 0
            have d1 : wz.cell? ⟨G + 1, 1, none⟩ = some nilS := hBz.cell 1
            have d2 : wz.cell? ⟨G + 1, 2, none⟩ = some nilS := hBz.cell 2
            have d3 : wz.cell? ⟨G + 1, 3, none⟩ = some (.slice A7 n7 k7) := hBz.cell 3
            clear hBz
            refine bodyPost_ret (v := .tuple #[.agg #[.int .i64 0, nilS, nilS, .slice A7 n7 k7], .int .i64 (writeR (isReg N nn np es) es p nm).1]) (by simp [results, Tryz.results15, go_sem, d0, d1, d2, d3]) rfl ?_
            have hrs : resolveR (isReg N nn np es) es p (nm :: r5) = writeR (isReg N nn np es) es p nm := by
              unfold resolveR; rw [if_neg (by rw [HREG.out]; simp), if_neg HPR.out]
            exact ⟨_, nm :: r5, HN5.out, by rw [hrs], by rw [hrs]; exact hRz, hEz⟩
end Go.Proofs.YthldgioggjpnpaaGreat
