/-
  Contract: register.Resolve.
-/
import Derived.Test.YthldgioggjpnpaaGreatR21
namespace Go.Proofs.YthldgioggjpnpaaGreat
open Go.RowKit

def resolveR (reg : Bool) (es : List En) (p : Int) (l : List Nm) : Int × List En :=
  if reg = false then (4, [])
  else if p < 0 ∨ 63 < p then (1, [])
  else match l with
    | [] => (14, [])
    | nm :: _ => writeR reg es p nm

theorem NamesOf.cons_of {es : List En} {l : List Nm} (h : NamesOf es l) (hp : 0 < es.length) : ∃ nm r, l = nm :: r := by
  cases l with
  | nil =>
    have := (h.2 (es[0]'hp).2).2 ⟨_, List.getElem_mem hp, rfl⟩
    cases this
  | cons a b => exact ⟨a, b, rfl⟩
theorem RdS.head {w : World} {u : Value} {nm : Nm} {r : List Nm} (h : RdS w u (nm :: r)) : ∃ b off n c, u = .slice (some ⟨b, off, none⟩) n c ∧ 0 < n ∧ b < w.heap.size ∧ w.cell? ⟨b, off, none⟩ = some (encS nm) := by
  obtain ⟨A, n, c, rfl, hl, -, -, hc⟩ := h
  have hn : 0 < n := by simp at hl; omega
  obtain ⟨b, off, rfl, hb, hcell⟩ := hc hn
  exact ⟨b, off, n, c, rfl, hn, hb, by have := hcell 0 nm rfl; simpa using this⟩
theorem RdE.nameLen {w : World} {v : Value} {es : List En} (h : RdE w v es) {x : En} (hx : x ∈ es) : x.2.length ≤ maxLen := by
  obtain ⟨A, n, c, rfl, hl, -, -, hc⟩ := h
  obtain ⟨j, hj⟩ := List.getElem?_of_mem hx
  have hn : 0 < n := by have := (List.getElem?_eq_some_iff.1 hj).1; omega
  obtain ⟨b, off, -, -, hcell⟩ := hc hn
  obtain ⟨q, -, -, -, h4⟩ := hcell j x hj
  exact h4

set_option maxRecDepth 100000 in
set_option maxHeartbeats 4000000 in
theorem resolve_any (v : Value) (N : Int) (nn np : Nat) (es : List En) (p : Int) (w : World) (h : RdV w v N nn np es) (hl0 : es.length ≤ 1048576) :
    Calls Tryz.prog 14 #[v, .int .i64 p] w fun e w' => ∃ u l, NamesOf es l ∧ e = .returned (.tuple #[.agg #[.int .i64 0, nilS, nilS, u], .int .i64 (resolveR (isReg N nn np es) es p l).1]) ∧ RdE w' u (resolveR (isReg N nn np es) es p l).2 ∧ Ext w w' := by
  have H := Lib.hid h
  obtain ⟨An, cn, Ap, cp, ve, rfl, he⟩ := h
  have HEN := Lib.hid (fun (x : En) (hx : x ∈ es) => he.nameLen hx)
  have hlen : ∃ A c, ve = .slice A es.length c := by obtain ⟨A, n, c, hv, hl, -⟩ := he; exact ⟨A, c, by rw [hl]; exact hv⟩
  obtain ⟨Ae, ce, rfl⟩ := hlen
  clear he
  have HL0 := Lib.hid hl0; clear hl0
  go_enter Tryz.func14, Tryz.ntmps14
  go_upto_region 1 with (fail)
  obtain ⟨wa, hwa⟩ : ∃ wa, wa = (w.alloc (.cells #[.int .i64 N, .slice An nn cn, .slice Ap np cp, .slice Ae es.length ce] 26)).alloc (.cells #[.int .i64 0, nilS, nilS, nilS] 26) := ⟨_, rfl⟩
  have hEa : Ext w wa := by rw [hwa]; exact ((Ext.refl w).alloc _).alloc _
  have hB : Blk wa w.heap.size 26 #[.int .i64 N, .slice An nn cn, .slice Ap np cp, .slice Ae es.length ce] := by rw [hwa]; exact (Blk.new _ _ _).alloc _
  have hR : Blk wa (w.heap.size + 1) 26 #[.int .i64 0, nilS, nilS, nilS] := by rw [hwa]; exact Blk.new' _ _ _ _ (by simp)
  rw [← hwa]
  clear hwa
  have lb := hB.lt
  have b0 : wa.cell? ⟨w.heap.size, 0, none⟩ = some (.int .i64 N) := hB.cell 0
  have b1 : wa.cell? ⟨w.heap.size, 1, none⟩ = some (.slice An nn cn) := hB.cell 1
  have b2 : wa.cell? ⟨w.heap.size, 2, none⟩ = some (.slice Ap np cp) := hB.cell 2
  have b3 : wa.cell? ⟨w.heap.size, 3, none⟩ = some (.slice Ae es.length ce) := hB.cell 3
  have HB := Lib.hid hB; clear hB
  have HR := Lib.hid hR; clear hR
  have HEA := Lib.hid hEa; clear hEa
  have hgs : w.heap.size ≤ w.heap.size + 1 := by omega
  generalize hG : w.heap.size = G at *
  have k0 := cell_regrown b0
  have k1 := cell_regrown b1
  have k2 := cell_regrown b2
  have k3 := cell_regrown b3
  have CL : Hid (∀ W, Ext wa W → Calls Tryz.prog 35 #[] W fun e w' => e = .returned latR ∧ Ext W w') := Lib.hid (fun W _ => rlattice_any W)
  have CVr := Lib.hid (fun W (hW : Ext wa W) => vvalid_any _ N nn np es W (H.out.ext (HEA.out.trans hW)))
  cases hreg : isReg N nn np es with
  | false =>
    have CV := CVr
    rw [hreg] at CV
    clear CVr
    have HREG := Lib.hid hreg; clear hreg
    refine wp_region_ext (by kernel_rfl) (by kernel_rfl) ?_
    repeat (go_big_quiet_step (first | (go_at_call 35; exact Calls.ext_of CL.out _ _) | (go_at_call 34; exact Calls.ext_of CV.out _ _)))
    refine wpQuiet_nil ?_
    intro w3 hE3
    have r3 := HR.out.ext hE3
    have HR3 := Lib.hid r3
    have c0 := hE3.cell b0
    have c1 := hE3.cell b1
    have c2 := hE3.cell b2
    have c3 := hE3.cell b3
    have lb3 := Nat.lt_of_lt_of_le lb hE3.size
    have HE3 := Lib.hid (HEA.out.trans hE3); clear hE3
    clear k0 k1 k2 k3 b0 b1 b2 b3 lb
    have l5 := r3.lt
    have f0 := r3.frozen 0
    have f1 := r3.frozen 1
    have f2 := r3.frozen 2
    have f3 := r3.frozen 3
    have d0 : w3.cell? ⟨G + 1, 0, none⟩ = some (.int .i64 0) := r3.cell 0
    have d1 : w3.cell? ⟨G + 1, 1, none⟩ = some nilS := r3.cell 1
    have d2 : w3.cell? ⟨G + 1, 2, none⟩ = some nilS := r3.cell 2
    have d3 : w3.cell? ⟨G + 1, 3, none⟩ = some nilS := r3.cell 3
    clear r3
    go_wp2_with (fail)
    obtain ⟨wz, hwz⟩ : ∃ wz, wz = ((((w3.setCell ⟨G + 1, 0, none⟩ (.int .i64 0)).setCell ⟨G + 1, 1, none⟩ nilS).setCell ⟨G + 1, 2, none⟩ nilS).setCell ⟨G + 1, 3, none⟩ (nilS)) := ⟨_, rfl⟩
    have hBz : Blk wz (G + 1) 26 #[.int .i64 0, nilS, nilS, nilS] := by rw [hwz]; exact HR3.out.store4 _ _ _ _
    have hEz : Ext w wz := by rw [hwz]; exact HE3.out.store4 (by omega) _ _ _ _
    have hRz := RdE.store4 (RdE.nil_ _) ⟨_, _, _, _, _, _, _, _, _, _, _, HR3.out⟩ (.int .i64 0) nilS nilS (nilS)
    rw [← hwz] at hRz ⊢
    clear hwz d0 d1 d2 d3
    have d0 : wz.cell? ⟨G + 1, 0, none⟩ = some (.int .i64 0) := hBz.cell 0
    have d1 : wz.cell? ⟨G + 1, 1, none⟩ = some nilS := hBz.cell 1
    have d2 : wz.cell? ⟨G + 1, 2, none⟩ = some nilS := hBz.cell 2
    have d3 : wz.cell? ⟨G + 1, 3, none⟩ = some (nilS) := hBz.cell 3
    clear hBz
    refine bodyPost_ret (v := .tuple #[.agg #[.int .i64 0, nilS, nilS, nilS], .int .i64 4]) (by simp [results, Tryz.results14, go_sem, d0, d1, d2, d3]) rfl ?_
    have hrs : resolveR (isReg N nn np es) es p ((firsts es).mergeSort fun x y => decide (x ≤ y)) = (4, []) := by
      unfold resolveR; rw [if_pos HREG.out]
    exact ⟨_, _, namesOf_sort es, by rw [hrs], by rw [hrs]; exact hRz, hEz⟩
  | true =>
    have CV := CVr
    rw [hreg] at CV
    clear CVr
    have HVA := Lib.hid (isReg_valid hreg)
    have HREG := Lib.hid hreg; clear hreg
    by_cases hp0 : p < 0
    · refine wp_region_ext (by kernel_rfl) (by kernel_rfl) ?_
      repeat (go_big_quiet_step (first | (go_at_call 35; exact Calls.ext_of CL.out _ _) | (go_at_call 34; exact Calls.ext_of CV.out _ _)))
      refine wpQuiet_nil ?_
      intro w3 hE3
      have r3 := HR.out.ext hE3
      have HR3 := Lib.hid r3
      have c0 := hE3.cell b0
      have c1 := hE3.cell b1
      have c2 := hE3.cell b2
      have c3 := hE3.cell b3
      have lb3 := Nat.lt_of_lt_of_le lb hE3.size
      have HE3 := Lib.hid (HEA.out.trans hE3); clear hE3
      clear k0 k1 k2 k3 b0 b1 b2 b3 lb
      have l5 := r3.lt
      have f0 := r3.frozen 0
      have f1 := r3.frozen 1
      have f2 := r3.frozen 2
      have f3 := r3.frozen 3
      have d0 : w3.cell? ⟨G + 1, 0, none⟩ = some (.int .i64 0) := r3.cell 0
      have d1 : w3.cell? ⟨G + 1, 1, none⟩ = some nilS := r3.cell 1
      have d2 : w3.cell? ⟨G + 1, 2, none⟩ = some nilS := r3.cell 2
      have d3 : w3.cell? ⟨G + 1, 3, none⟩ = some nilS := r3.cell 3
      clear r3
      go_wp2_with (fail)
      obtain ⟨wz, hwz⟩ : ∃ wz, wz = ((((w3.setCell ⟨G + 1, 0, none⟩ (.int .i64 0)).setCell ⟨G + 1, 1, none⟩ nilS).setCell ⟨G + 1, 2, none⟩ nilS).setCell ⟨G + 1, 3, none⟩ (nilS)) := ⟨_, rfl⟩
      have hBz : Blk wz (G + 1) 26 #[.int .i64 0, nilS, nilS, nilS] := by rw [hwz]; exact HR3.out.store4 _ _ _ _
      have hEz : Ext w wz := by rw [hwz]; exact HE3.out.store4 (by omega) _ _ _ _
      have hRz := RdE.store4 (RdE.nil_ _) ⟨_, _, _, _, _, _, _, _, _, _, _, HR3.out⟩ (.int .i64 0) nilS nilS (nilS)
      rw [← hwz] at hRz ⊢
      clear hwz d0 d1 d2 d3
      have d0 : wz.cell? ⟨G + 1, 0, none⟩ = some (.int .i64 0) := hBz.cell 0
      have d1 : wz.cell? ⟨G + 1, 1, none⟩ = some nilS := hBz.cell 1
      have d2 : wz.cell? ⟨G + 1, 2, none⟩ = some nilS := hBz.cell 2
      have d3 : wz.cell? ⟨G + 1, 3, none⟩ = some (nilS) := hBz.cell 3
      clear hBz
      refine bodyPost_ret (v := .tuple #[.agg #[.int .i64 0, nilS, nilS, nilS], .int .i64 1]) (by simp [results, Tryz.results14, go_sem, d0, d1, d2, d3]) rfl ?_
      have hrs : resolveR (isReg N nn np es) es p ((firsts es).mergeSort fun x y => decide (x ≤ y)) = (1, []) := by
        unfold resolveR; rw [if_neg (by rw [HREG.out]; simp), if_pos (Or.inl hp0)]
      exact ⟨_, _, namesOf_sort es, by rw [hrs], by rw [hrs]; exact hRz, hEz⟩
    · by_cases hp1 : 63 < p
      · refine wp_region_ext (by kernel_rfl) (by kernel_rfl) ?_
        repeat (go_big_quiet_step (first | (go_at_call 35; exact Calls.ext_of CL.out _ _) | (go_at_call 34; exact Calls.ext_of CV.out _ _)))
        refine wpQuiet_nil ?_
        intro w3 hE3
        have r3 := HR.out.ext hE3
        have HR3 := Lib.hid r3
        have c0 := hE3.cell b0
        have c1 := hE3.cell b1
        have c2 := hE3.cell b2
        have c3 := hE3.cell b3
        have lb3 := Nat.lt_of_lt_of_le lb hE3.size
        have HE3 := Lib.hid (HEA.out.trans hE3); clear hE3
        clear k0 k1 k2 k3 b0 b1 b2 b3 lb
        have l5 := r3.lt
        have f0 := r3.frozen 0
        have f1 := r3.frozen 1
        have f2 := r3.frozen 2
        have f3 := r3.frozen 3
        have d0 : w3.cell? ⟨G + 1, 0, none⟩ = some (.int .i64 0) := r3.cell 0
        have d1 : w3.cell? ⟨G + 1, 1, none⟩ = some nilS := r3.cell 1
        have d2 : w3.cell? ⟨G + 1, 2, none⟩ = some nilS := r3.cell 2
        have d3 : w3.cell? ⟨G + 1, 3, none⟩ = some nilS := r3.cell 3
        clear r3
        go_wp2_with (fail)
        obtain ⟨wz, hwz⟩ : ∃ wz, wz = ((((w3.setCell ⟨G + 1, 0, none⟩ (.int .i64 0)).setCell ⟨G + 1, 1, none⟩ nilS).setCell ⟨G + 1, 2, none⟩ nilS).setCell ⟨G + 1, 3, none⟩ (nilS)) := ⟨_, rfl⟩
        have hBz : Blk wz (G + 1) 26 #[.int .i64 0, nilS, nilS, nilS] := by rw [hwz]; exact HR3.out.store4 _ _ _ _
        have hEz : Ext w wz := by rw [hwz]; exact HE3.out.store4 (by omega) _ _ _ _
        have hRz := RdE.store4 (RdE.nil_ _) ⟨_, _, _, _, _, _, _, _, _, _, _, HR3.out⟩ (.int .i64 0) nilS nilS (nilS)
        rw [← hwz] at hRz ⊢
        clear hwz d0 d1 d2 d3
        have d0 : wz.cell? ⟨G + 1, 0, none⟩ = some (.int .i64 0) := hBz.cell 0
        have d1 : wz.cell? ⟨G + 1, 1, none⟩ = some nilS := hBz.cell 1
        have d2 : wz.cell? ⟨G + 1, 2, none⟩ = some nilS := hBz.cell 2
        have d3 : wz.cell? ⟨G + 1, 3, none⟩ = some (nilS) := hBz.cell 3
        clear hBz
        refine bodyPost_ret (v := .tuple #[.agg #[.int .i64 0, nilS, nilS, nilS], .int .i64 1]) (by simp [results, Tryz.results14, go_sem, d0, d1, d2, d3]) rfl ?_
        have hrs : resolveR (isReg N nn np es) es p ((firsts es).mergeSort fun x y => decide (x ≤ y)) = (1, []) := by
          unfold resolveR; rw [if_neg (by rw [HREG.out]; simp), if_pos (Or.inr hp1)]
        exact ⟨_, _, namesOf_sort es, by rw [hrs], by rw [hrs]; exact hRz, hEz⟩
      · have hpr : ¬ (p < 0 ∨ 63 < p) := by omega
        rcases Nat.eq_zero_or_pos es.length with hz | hz
        · have z0 : ((es.length : Int) == 0) = true := by rw [hz]; rfl
          have HNIL : Hid (es = []) := Lib.hid (List.eq_nil_of_length_eq_zero hz)
          clear hz
          refine wp_region_ext (by kernel_rfl) (by kernel_rfl) ?_
          repeat (go_big_quiet_step (first | (go_at_call 35; exact Calls.ext_of CL.out _ _) | (go_at_call 34; exact Calls.ext_of CV.out _ _)))
          refine wpQuiet_nil ?_
          intro w3 hE3
          have r3 := HR.out.ext hE3
          have HR3 := Lib.hid r3
          have c0 := hE3.cell b0
          have c1 := hE3.cell b1
          have c2 := hE3.cell b2
          have c3 := hE3.cell b3
          have lb3 := Nat.lt_of_lt_of_le lb hE3.size
          have HE3 := Lib.hid (HEA.out.trans hE3); clear hE3
          clear k0 k1 k2 k3 b0 b1 b2 b3 lb
          have l5 := r3.lt
          have f0 := r3.frozen 0
          have f1 := r3.frozen 1
          have f2 := r3.frozen 2
          have f3 := r3.frozen 3
          have d0 : w3.cell? ⟨G + 1, 0, none⟩ = some (.int .i64 0) := r3.cell 0
          have d1 : w3.cell? ⟨G + 1, 1, none⟩ = some nilS := r3.cell 1
          have d2 : w3.cell? ⟨G + 1, 2, none⟩ = some nilS := r3.cell 2
          have d3 : w3.cell? ⟨G + 1, 3, none⟩ = some nilS := r3.cell 3
          clear r3
          go_wp2_with (fail)
          obtain ⟨wz, hwz⟩ : ∃ wz, wz = ((((w3.setCell ⟨G + 1, 0, none⟩ (.int .i64 0)).setCell ⟨G + 1, 1, none⟩ nilS).setCell ⟨G + 1, 2, none⟩ nilS).setCell ⟨G + 1, 3, none⟩ (nilS)) := ⟨_, rfl⟩
          have hBz : Blk wz (G + 1) 26 #[.int .i64 0, nilS, nilS, nilS] := by rw [hwz]; exact HR3.out.store4 _ _ _ _
          have hEz : Ext w wz := by rw [hwz]; exact HE3.out.store4 (by omega) _ _ _ _
          have hRz := RdE.store4 (RdE.nil_ _) ⟨_, _, _, _, _, _, _, _, _, _, _, HR3.out⟩ (.int .i64 0) nilS nilS (nilS)
          rw [← hwz] at hRz ⊢
          clear hwz d0 d1 d2 d3
          have d0 : wz.cell? ⟨G + 1, 0, none⟩ = some (.int .i64 0) := hBz.cell 0
          have d1 : wz.cell? ⟨G + 1, 1, none⟩ = some nilS := hBz.cell 1
          have d2 : wz.cell? ⟨G + 1, 2, none⟩ = some nilS := hBz.cell 2
          have d3 : wz.cell? ⟨G + 1, 3, none⟩ = some (nilS) := hBz.cell 3
          clear hBz
          refine bodyPost_ret (v := .tuple #[.agg #[.int .i64 0, nilS, nilS, nilS], .int .i64 14]) (by simp [results, Tryz.results14, go_sem, d0, d1, d2, d3]) rfl ?_
          have hrs : resolveR (isReg N nn np es) es p ((firsts es).mergeSort fun x y => decide (x ≤ y)) = (14, []) := by
            unfold resolveR; rw [if_neg (by rw [HREG.out]; simp), if_neg hpr, HNIL.out]; simp [firsts]
          exact ⟨_, _, namesOf_sort es, by rw [hrs], by rw [hrs]; exact hRz, hEz⟩
        · have z0 : ((es.length : Int) == 0) = false := by simp; intro h; subst h; simp at hz
          have HPOS := Lib.hid hz; clear hz
          refine wp_region_ext (by kernel_rfl) (by kernel_rfl) ?_
          repeat (go_big_quiet_step (first | (go_at_call 35; exact Calls.ext_of CL.out _ _) | (go_at_call 34; exact Calls.ext_of CV.out _ _)))
          refine wpQuiet_nil ?_
          intro w3 hE3
          have r3 := HR.out.ext hE3
          have HR3 := Lib.hid r3
          have c0 := hE3.cell b0
          have c1 := hE3.cell b1
          have c2 := hE3.cell b2
          have c3 := hE3.cell b3
          have lb3 := Nat.lt_of_lt_of_le lb hE3.size
          have HE3 := Lib.hid (HEA.out.trans hE3); clear hE3
          clear k0 k1 k2 k3 b0 b1 b2 b3 lb
          clear r3
          go_upto_region 7 with (fail)
          go_region_law (first
            | (refine step_fn rfl 18 [.tmp 28] #[26] rfl (fun _ _ => by kernel_rfl) [.agg #[.int .i64 N, .slice An nn cn, .slice Ap np cp, .slice Ae es.length ce]] rfl (fun v w' => ∃ l, NamesOf es l ∧ RdS w' v l ∧ Ext w3.drew w') ((rnames_any _ N nn np es _ (H.out.ext HE3.out.drew) HL0.out).mono (fun e w' ⟨u, l, h1, h2, h3, h4⟩ => ⟨u, h1, l, h2, h3, h4⟩)) ?_; intro v5 w5 hp5; obtain ⟨l5', hn5, hr5, hE5⟩ := hp5; have hE5 := (Ext.refl w3).drew.trans hE5; obtain ⟨nm, r5, rfl⟩ := hn5.cons_of HPOS.out; have hnl := (by obtain ⟨x, hx, hxe⟩ := (hn5.2 nm).1 List.mem_cons_self; rw [← hxe]; exact HEN.out x hx : nm.length ≤ maxLen); have HNL := Lib.hid hnl; clear hnl; have HN5 := Lib.hid hn5; clear hn5; obtain ⟨b5, o5, n5, k5, rfl, hn0, hb5, hc5⟩ := hr5.head; clear hr5; have hn0' : (0 : Int) < (n5 : Int) := (by omega); have c05 := hE5.cell c0; have c15 := hE5.cell c1; have c25 := hE5.cell c2; have c35 := hE5.cell c3; have lb5 := World.block_lt_of_cell? _ _ c05; have HEE5 := Lib.hid hE5; have HE5 := Lib.hid (HE3.out.trans hE5); clear hE5; have HR5 := Lib.hid (HR3.out.ext HEE5.out))
            | (refine step_fn rfl 12 [.tmp 26, .tmp 27, .tmp 31] #[26, 3, 9] rfl (fun _ _ => by kernel_rfl) [.agg #[.int .i64 N, .slice An nn cn, .slice Ap np cp, .slice Ae es.length ce], .int .i64 p, encS nm] rfl (fun v w' => ∃ u, v = .tuple #[.agg #[.int .i64 0, nilS, nilS, u], .int .i64 (writeR (isReg N nn np es) es p nm).1] ∧ RdE w' u (writeR (isReg N nn np es) es p nm).2 ∧ Ext w5 w') ((write_any _ N nn np es p nm _ (H.out.ext HE5.out) HNL.out).mono (fun e w' ⟨u, h1, h2, h3⟩ => ⟨_, h1, u, rfl, h2, h3⟩)) ?_; intro v7 w7 hp7; obtain ⟨u7, rfl, hr7, hE7⟩ := hp7; have r7 := HR5.out.ext hE7; have HR7 := Lib.hid r7; have HEE7 := Lib.hid (HEE5.out.trans hE7); have HE7 := Lib.hid (HE5.out.trans hE7); clear hE7; have HRD7 := Lib.hid hr7; obtain ⟨A7, n7, k7, rfl⟩ := hr7.slice; clear hr7; have l5 := r7.lt; have f0 := r7.frozen 0; have f1 := r7.frozen 1; have f2 := r7.frozen 2; have f3 := r7.frozen 3; have d0 : w7.cell? ⟨G + 1, 0, none⟩ = some (.int .i64 0) := r7.cell 0; have d1 : w7.cell? ⟨G + 1, 1, none⟩ = some nilS := r7.cell 1; have d2 : w7.cell? ⟨G + 1, 2, none⟩ = some nilS := r7.cell 2; have d3 : w7.cell? ⟨G + 1, 3, none⟩ = some nilS := r7.cell 3; clear r7))
          all_goals
            go_wp2_with (fail)
            obtain ⟨wz, hwz⟩ : ∃ wz, wz = ((((w7.setCell ⟨G + 1, 0, none⟩ (.int .i64 0)).setCell ⟨G + 1, 1, none⟩ nilS).setCell ⟨G + 1, 2, none⟩ nilS).setCell ⟨G + 1, 3, none⟩ (.slice A7 n7 k7)) := ⟨_, rfl⟩
            have hBz : Blk wz (G + 1) 26 #[.int .i64 0, nilS, nilS, .slice A7 n7 k7] := by rw [hwz]; exact HR7.out.store4 _ _ _ _
            have hEz : Ext w wz := by rw [hwz]; exact HE7.out.store4 (by omega) _ _ _ _
            have hRz := RdE.store4 HRD7.out ⟨_, _, _, _, _, _, _, _, _, _, _, HR7.out⟩ (.int .i64 0) nilS nilS (.slice A7 n7 k7)
            rw [← hwz] at hRz ⊢
            clear hwz d0 d1 d2 d3
            have d0 : wz.cell? ⟨G + 1, 0, none⟩ = some (.int .i64 0) := hBz.cell 0
            have d1 : wz.cell? ⟨G + 1, 1, none⟩ = some nilS := hBz.cell 1
            have d2 : wz.cell? ⟨G + 1, 2, none⟩ = some nilS := hBz.cell 2
            have d3 : wz.cell? ⟨G + 1, 3, none⟩ = some (.slice A7 n7 k7) := hBz.cell 3
            clear hBz
            refine bodyPost_ret (v := .tuple #[.agg #[.int .i64 0, nilS, nilS, .slice A7 n7 k7], .int .i64 (writeR (isReg N nn np es) es p nm).1]) (by simp [results, Tryz.results14, go_sem, d0, d1, d2, d3]) rfl ?_
            have hrs : resolveR (isReg N nn np es) es p (nm :: r5) = writeR (isReg N nn np es) es p nm := by
              unfold resolveR; rw [if_neg (by rw [HREG.out]; simp), if_neg hpr]
            exact ⟨_, nm :: r5, HN5.out, by rw [hrs], by rw [hrs]; exact hRz, hEz⟩
end Go.Proofs.YthldgioggjpnpaaGreat
