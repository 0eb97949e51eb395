/-
  Contract: the law's awake: the examples of the chapter hold.
-/
import Derived.Test.YthldgioggjpnpaaGreatS10
namespace Go.Proofs.YthldgioggjpnpaaGreat
open Go.RowKit

theorem RdE.V {w : World} {u : Value} {es : List En} (h : RdE w u es) : RdV w (.agg #[.int .i64 0, nilS, nilS, u]) 0 0 0 es := ⟨none, 0, none, 0, u, rfl, h⟩

theorem RdE.len {w : World} {u : Value} {es : List En} (h : RdE w u es) (k : Nat) (hk : es.length = k) : ∃ A c, u = .slice A k c := by
  obtain ⟨A, n, c, hv, hl, -⟩ := h
  exact ⟨A, c, by rw [hv, ← hl, hk]⟩
theorem RdE.one_ {w : World} {A : Option Addr} {c : Nat} {e : En} (h : RdE w (.slice A 1 c) [e]) :
    ∃ b off q, A = some ⟨b, off, none⟩ ∧ b < w.heap.size ∧ w.cell? ⟨b, off, none⟩ = some q ∧ w.cell? ⟨b, off + 1, none⟩ = some (encS e.2) ∧ RdT w q e.1 := by
  obtain ⟨b, off, x, q, hA, hb, hx, c0, c1, hq, -⟩ := RdE.at_ h (j := 0) (by omega)
  simp at hx
  subst hx
  simp only [Nat.zero_mul, Nat.add_zero] at c0 c1
  exact ⟨b, off, q, hA, hb, c0, c1, hq⟩
theorem RdT.head {w : World} {v : Value} {t : Tk} {r : List Tk} (h : RdT w v (t :: r)) (k : Nat) (hk : r.length + 1 = k) :
    ∃ b off c, v = .slice (some ⟨b, off, none⟩) k c ∧ b < w.heap.size ∧ w.cell? ⟨b, off, none⟩ = some (.int .i64 t.1) ∧ w.cell? ⟨b, off + 1, none⟩ = some (.int .i64 t.2) := by
  obtain ⟨A, c, rfl⟩ := h.lenv
  obtain ⟨b, off, x, hA, hb, hx, c0, c1⟩ := RdT.tick h (j := 0) (by simp)
  simp at hx
  subst hx
  simp only [Nat.zero_mul, Nat.add_zero] at c0 c1
  subst hA
  exact ⟨b, off, c, by rw [← hk]; simp, hb, c0, c1⟩
theorem Rd1.head {α : Type} {w : World} {enc : α → Value} {v : Value} {x : α} {r : List α} (h : Rd1 w enc v (x :: r)) (k : Nat) (hk : r.length + 1 = k) :
    ∃ b off c, v = .slice (some ⟨b, off, none⟩) k c ∧ b < w.heap.size ∧ w.cell? ⟨b, off, none⟩ = some (enc x) := by
  obtain ⟨A, c, rfl, -, -⟩ := h.form
  obtain ⟨b, off, y, hA, hb, hx, c0⟩ := Rd1.at_ h (j := 0) (by simp)
  simp at hx
  subst hx
  subst hA
  simp only [Nat.add_zero] at c0
  exact ⟨b, off, c, by rw [← hk]; simp, hb, c0⟩
theorem aw_x_any (w : World) : Calls Tryz.prog 12 #[.agg #[.int .i64 0, nilS, nilS, nilS], .int .i64 1, .string ⟨#[120]⟩] w fun e w' => ∃ u, e = .returned (.tuple #[.agg #[.int .i64 0, nilS, nilS, u], .int .i64 0]) ∧ RdE w' u [xE] ∧ Ext w w' := by
  have := write_any _ 0 0 0 [] 1 [120] w (RdE.nil_ w).V (by unfold maxLen; decide)
  rw [aw_reg0, aw_wx] at this
  exact this
theorem aw_z_any (w : World) : Calls Tryz.prog 12 #[.agg #[.int .i64 0, nilS, nilS, nilS], .int .i64 0, .string ⟨#[122]⟩] w fun e w' => ∃ u, e = .returned (.tuple #[.agg #[.int .i64 0, nilS, nilS, u], .int .i64 0]) ∧ RdE w' u [zE] ∧ Ext w w' := by
  have := write_any _ 0 0 0 [] 0 [122] w (RdE.nil_ w).V (by unfold maxLen; decide)
  rw [aw_reg0, aw_wz] at this
  exact this
theorem aw_y_any (w : World) (u : Value) (h : RdE w u [xE]) : Calls Tryz.prog 12 #[.agg #[.int .i64 0, nilS, nilS, u], .int .i64 2, .string ⟨#[121]⟩] w fun e w' => ∃ u, e = .returned (.tuple #[.agg #[.int .i64 0, nilS, nilS, u], .int .i64 0]) ∧ RdE w' u [yE] ∧ Ext w w' := by
  have := write_any _ 0 0 0 [xE] 2 [121] w h.V (by unfold maxLen; decide)
  rw [aw_regx, aw_wy] at this
  exact this
theorem aw_j_any (w : World) (uy uz : Value) (hy : RdE w uy [yE]) (hz : RdE w uz [zE]) : Calls Tryz.prog 27 #[latR, .agg #[.int .i64 0, nilS, nilS, uy], .agg #[.int .i64 0, nilS, nilS, uz]] w fun e w' => ∃ u, e = .returned (.tuple #[.agg #[.int .i64 0, nilS, nilS, u], .int .i64 0]) ∧ RdE w' u [yE, zE] ∧ Ext w w' := by
  refine (joinV_any _ _ 0 0 0 0 0 0 [yE] [zE] w hy.V hz.V aw_regy aw_regz (by decide) (by decide)).mono ?_
  rintro e w' ⟨u, es, rfl, hj, hr, hE⟩
  rw [aw_joined hj] at hr
  exact ⟨u, rfl, hr, hE⟩
theorem aw_valj : ∀ x ∈ [yE, zE], validT x.1 = true := by decide
theorem aw_n_any (w : World) (u : Value) (h : RdE w u [yE, zE]) : Calls Tryz.prog 18 #[.agg #[.int .i64 0, nilS, nilS, u]] w fun e w' => ∃ v, e = .returned v ∧ RdS w' v [[121], [122]] ∧ Ext w w' := by
  refine (rnames_any _ 0 0 0 [yE, zE] w h.V (by decide)).mono ?_
  rintro e w' ⟨v, l, rfl, hn, hr, hE⟩
  rw [namesOf_uniq hn aw_names] at hr
  exact ⟨v, rfl, hr, hE⟩
theorem aw_c_any (w : World) (u : Value) (h : RdE w u [yE, zE]) : Calls Tryz.prog 20 #[.agg #[.int .i64 0, nilS, nilS, u]] w fun e w' => ∃ v, e = .returned v ∧ RdT w' v [(0, 1), (1, 1), (2, 1)] ∧ Ext w w' := by
  refine (rclock_any _ 0 0 0 [yE, zE] w h.V aw_valj).mono ?_
  rintro e w' ⟨v, rfl, hO, -, hE⟩
  rw [aw_cj] at hO
  exact ⟨v, rfl, hO.rdN (fun _ => rfl), hE⟩
theorem aw_r_any (w : World) (u : Value) (h : RdE w u [yE, zE]) : Calls Tryz.prog 14 #[.agg #[.int .i64 0, nilS, nilS, u], .int .i64 0] w fun e w' => ∃ v, e = .returned (.tuple #[.agg #[.int .i64 0, nilS, nilS, v], .int .i64 0]) ∧ RdE w' v [rE] ∧ Ext w w' := by
  refine (resolve_any _ 0 0 0 [yE, zE] 0 w h.V (by decide)).mono ?_
  rintro e w' ⟨v, l, hn, rfl, hr, hE⟩
  rw [namesOf_uniq hn aw_names, aw_regj, aw_res] at hr ⊢
  exact ⟨v, rfl, hr, hE⟩
theorem aw_s_any (w : World) (u uy : Value) (h : RdE w u [yE, zE]) (hy : RdE w uy [yE]) : Calls Tryz.prog 23 #[.agg #[.int .i64 0, nilS, nilS, u], .agg #[.int .i64 0, nilS, nilS, uy]] w fun e w' => ∃ v, e = .returned (.agg #[.int .i64 0, nilS, nilS, v]) ∧ RdE w' v [zE] ∧ Ext w w' := by
  refine (since_any _ _ 0 0 0 0 0 0 [yE, zE] [yE] w h.V hy.V aw_valj (by decide) (by decide)).mono ?_
  rintro e w' ⟨v, rfl, hr, hE⟩
  rw [aw_since] at hr
  exact ⟨v, rfl, hr, hE⟩
theorem aw_kj_any (w : World) (u : Value) (h : RdE w u [yE, zE]) : Calls Tryz.prog 22 #[.agg #[.int .i64 0, nilS, nilS, u]] w fun e w' => e = .returned (.bool true) ∧ Ext w w' := by
  refine (conflict_any _ 0 0 0 [yE, zE] w h.V (by decide)).mono ?_
  rintro e w' ⟨l, rfl, hn, hE⟩
  rw [namesOf_uniq hn aw_names]
  exact ⟨rfl, hE⟩
theorem aw_ky_any (w : World) (u : Value) (h : RdE w u [yE]) : Calls Tryz.prog 22 #[.agg #[.int .i64 0, nilS, nilS, u]] w fun e w' => e = .returned (.bool false) ∧ Ext w w' := by
  refine (conflict_any _ 0 0 0 [yE] w h.V (by decide)).mono ?_
  rintro e w' ⟨l, rfl, hn, hE⟩
  rw [namesOf_uniq hn aw_namesy]
  exact ⟨rfl, hE⟩
theorem aw_jx_any (w : World) (u ux : Value) (h : RdE w u [yE, zE]) (hx : RdE w ux [xE]) : Calls Tryz.prog 25 #[.agg #[.int .i64 0, nilS, nilS, u], .agg #[.int .i64 0, nilS, nilS, ux]] w fun e w' => e = .returned (.bool true) ∧ Ext w w' := by
  have := covers_any _ _ 0 0 0 0 0 0 [yE, zE] [xE] w h.V hx.V aw_valj (by decide)
  rw [aw_cov1] at this
  exact this
theorem aw_xj_any (w : World) (u ux : Value) (h : RdE w u [yE, zE]) (hx : RdE w ux [xE]) : Calls Tryz.prog 25 #[.agg #[.int .i64 0, nilS, nilS, ux], .agg #[.int .i64 0, nilS, nilS, u]] w fun e w' => e = .returned (.bool false) ∧ Ext w w' := by
  have := covers_any _ _ 0 0 0 0 0 0 [xE] [yE, zE] w hx.V h.V (by decide) aw_valj
  rw [aw_cov2] at this
  exact this

set_option maxRecDepth 100000 in
set_option maxHeartbeats 4000000 in
theorem awake_any (w : World) : Calls Tryz.prog 10 #[] w fun e w' => e = .returned (.bool true) ∧ Ext w w' := by
  go_enter Tryz.func10, Tryz.ntmps10
  have HE : Hid (Ext w w) := Lib.hid (Ext.refl w)
  go_upto_region 2 with (first | (go_at_call 12; refine (aw_x_any _).mono ?_; rintro e w1 ⟨u1, rfl, h, hE⟩; obtain ⟨A1, c1, rfl⟩ := h.len 1 rfl; replace HE := Lib.hid (HE.out.trans hE); have HX := Lib.hid h; clear h hE))
  obtain ⟨wa, hw⟩ : ∃ W, W = w1.alloc (.cells #[.int .i64 0, nilS, nilS, .slice A1 1 c1] 26) := ⟨_, rfl⟩
  have hE : Ext w1 wa := by rw [hw]; exact (Ext.refl _).alloc _
  have hB : Blk wa w1.heap.size 26 #[.int .i64 0, nilS, nilS, .slice A1 1 c1] := by rw [hw]; exact Blk.new _ _ _
  rw [← hw]; clear hw
  replace HE := Lib.hid (HE.out.trans hE); replace HX := Lib.hid (HX.out.ext hE)
  obtain ⟨Bx, hB0⟩ : ∃ B, B = w1.heap.size := ⟨_, rfl⟩
  rw [← hB0] at hB ⊢; clear hB0
  have HBX := Lib.hid hB
  clear hB hE
  have lx := HBX.out.lt; have x0 : wa.cell? ⟨Bx, 0, none⟩ = some (.int .i64 0) := HBX.out.cell 0; have x1 : wa.cell? ⟨Bx, 1, none⟩ = some nilS := HBX.out.cell 1; have x2 : wa.cell? ⟨Bx, 2, none⟩ = some nilS := HBX.out.cell 2; have x3 : wa.cell? ⟨Bx, 3, none⟩ = some (.slice A1 1 c1) := HBX.out.cell 3
  clear lx
  go_upto_region 3 with (first | (go_at_call 12; refine (aw_y_any _ _ HX.out).mono ?_; rintro e w2 ⟨u2, rfl, h, hE⟩; obtain ⟨A2, c2, rfl⟩ := h.len 1 rfl; replace HE := Lib.hid (HE.out.trans hE); replace HX := Lib.hid (HX.out.ext hE); replace HBX := Lib.hid (HBX.out.ext hE); replace x0 := hE.cell x0; replace x1 := hE.cell x1; replace x2 := hE.cell x2; replace x3 := hE.cell x3; have HY := Lib.hid h; clear h hE))
  obtain ⟨wb, hw⟩ : ∃ W, W = w2.alloc (.cells #[.int .i64 0, nilS, nilS, .slice A2 1 c2] 26) := ⟨_, rfl⟩
  have hE : Ext w2 wb := by rw [hw]; exact (Ext.refl _).alloc _
  have hB : Blk wb w2.heap.size 26 #[.int .i64 0, nilS, nilS, .slice A2 1 c2] := by rw [hw]; exact Blk.new _ _ _
  rw [← hw]; clear hw
  replace HE := Lib.hid (HE.out.trans hE); replace HX := Lib.hid (HX.out.ext hE); replace HBX := Lib.hid (HBX.out.ext hE); replace HY := Lib.hid (HY.out.ext hE); replace x0 := hE.cell x0; replace x1 := hE.cell x1; replace x2 := hE.cell x2; replace x3 := hE.cell x3
  obtain ⟨By, hB0⟩ : ∃ B, B = w2.heap.size := ⟨_, rfl⟩
  rw [← hB0] at hB ⊢; clear hB0
  have HBY := Lib.hid hB
  clear hB hE
  go_upto_region 4 with (first | (go_at_call 12; refine (aw_z_any _).mono ?_; rintro e w3 ⟨u3, rfl, h, hE⟩; obtain ⟨A3, c3, rfl⟩ := h.len 1 rfl; replace HE := Lib.hid (HE.out.trans hE); replace HX := Lib.hid (HX.out.ext hE); replace HBX := Lib.hid (HBX.out.ext hE); replace HY := Lib.hid (HY.out.ext hE); replace HBY := Lib.hid (HBY.out.ext hE); replace x0 := hE.cell x0; replace x1 := hE.cell x1; replace x2 := hE.cell x2; replace x3 := hE.cell x3; have HZ := Lib.hid h; clear h hE))
  obtain ⟨wq, hw⟩ : ∃ W, W = w3.alloc (.cells #[.int .i64 0, nilS, nilS, .slice A3 1 c3] 26) := ⟨_, rfl⟩
  have hE : Ext w3 wq := by rw [hw]; exact (Ext.refl _).alloc _
  have hB : Blk wq w3.heap.size 26 #[.int .i64 0, nilS, nilS, .slice A3 1 c3] := by rw [hw]; exact Blk.new _ _ _
  rw [← hw]; clear hw
  replace HE := Lib.hid (HE.out.trans hE); replace HX := Lib.hid (HX.out.ext hE); replace HBX := Lib.hid (HBX.out.ext hE); replace HY := Lib.hid (HY.out.ext hE); replace HBY := Lib.hid (HBY.out.ext hE); replace HZ := Lib.hid (HZ.out.ext hE); replace x0 := hE.cell x0; replace x1 := hE.cell x1; replace x2 := hE.cell x2; replace x3 := hE.cell x3
  obtain ⟨Bz, hB0⟩ : ∃ B, B = w3.heap.size := ⟨_, rfl⟩
  rw [← hB0] at hB ⊢; clear hB0
  have HBZ := Lib.hid hB
  clear hB hE
  have ly := HBY.out.lt; have y0 : wq.cell? ⟨By, 0, none⟩ = some (.int .i64 0) := HBY.out.cell 0; have y1 : wq.cell? ⟨By, 1, none⟩ = some nilS := HBY.out.cell 1; have y2 : wq.cell? ⟨By, 2, none⟩ = some nilS := HBY.out.cell 2; have y3 : wq.cell? ⟨By, 3, none⟩ = some (.slice A2 1 c2) := HBY.out.cell 3
  have lz := HBZ.out.lt; have z0 : wq.cell? ⟨Bz, 0, none⟩ = some (.int .i64 0) := HBZ.out.cell 0; have z1 : wq.cell? ⟨Bz, 1, none⟩ = some nilS := HBZ.out.cell 1; have z2 : wq.cell? ⟨Bz, 2, none⟩ = some nilS := HBZ.out.cell 2; have z3 : wq.cell? ⟨Bz, 3, none⟩ = some (.slice A3 1 c3) := HBZ.out.cell 3
  go_cut [7, 8] (fun v7 v8 wx => ∃ (Bj : Nat) (A : Option Addr) (c : Nat), v7 = .pointer (some ⟨Bj, 0, none⟩) ∧ v8 = .int .i64 0 ∧ Blk wx Bj 26 #[.int .i64 0, nilS, nilS, .slice A 2 c] ∧ RdE wx (.slice A 2 c) [yE, zE] ∧ Ext wq wx)
  case first =>
    have HKY : Hid (∀ W, Ext wq W → W.cell? ⟨By, 0, none⟩ = some (.int .i64 0) ∧ W.cell? ⟨By, 1, none⟩ = some nilS ∧ W.cell? ⟨By, 2, none⟩ = some nilS ∧ W.cell? ⟨By, 3, none⟩ = some (.slice A2 1 c2) ∧ W.cell? ⟨Bz, 0, none⟩ = some (.int .i64 0) ∧ W.cell? ⟨Bz, 1, none⟩ = some nilS ∧ W.cell? ⟨Bz, 2, none⟩ = some nilS ∧ W.cell? ⟨Bz, 3, none⟩ = some (.slice A3 1 c3)) := Lib.hid (fun W h => ⟨h.cell y0, h.cell y1, h.cell y2, h.cell y3, h.cell z0, h.cell z1, h.cell z2, h.cell z3⟩)
    go_region_held3 (fun w' => w'.cell? ⟨By, 0, none⟩ = some (.int .i64 0) ∧ w'.cell? ⟨By, 1, none⟩ = some nilS ∧ w'.cell? ⟨By, 2, none⟩ = some nilS ∧ w'.cell? ⟨By, 3, none⟩ = some (.slice A2 1 c2) ∧ w'.cell? ⟨Bz, 0, none⟩ = some (.int .i64 0) ∧ w'.cell? ⟨Bz, 1, none⟩ = some nilS ∧ w'.cell? ⟨Bz, 2, none⟩ = some nilS ∧ w'.cell? ⟨Bz, 3, none⟩ = some (.slice A3 1 c3)) (first | exact HKY.out _ (by repeat (first | exact Ext.refl _ | exact HJE.out | exact HKE.out | refine Ext.drew ?_ | refine Ext.drewN ?_ _ | refine Ext.alloc ?_ _ | refine Ext.setCell ?_ (by first | exact Nat.le_refl _ | exact HKE.out.size | exact HJE.out.size) _ | refine Ext.trans HKE.out ?_)) | go_keep) (first
      | (go_at_call 28; refine (rkind_any _).mono ?_; rintro e wk ⟨rfl, hEk⟩; have HKE : Hid (Ext wq wk) := Lib.hid (Ext.trans (by repeat (first | exact Ext.refl _ | exact HJE.out | fail | refine Ext.drew ?_ | refine Ext.drewN ?_ _ | refine Ext.alloc ?_ _ | fail)) hEk); (first | (have HB7 : Hid (Blk wk wq.heap.size 26 #[.int .i64 0, nilS, nilS, nilS]) := Lib.hid (Blk.ext (by first | exact Blk.new _ _ _ | exact (Blk.new _ _ _).drew) hEk)) | skip); clear hEk)
      | (go_at_call 27; refine (aw_j_any _ _ _ (HY.out.ext (by repeat (first | exact Ext.refl _ | exact HJE.out | exact HKE.out | refine Ext.drew ?_ | refine Ext.drewN ?_ _ | refine Ext.alloc ?_ _ | refine Ext.trans HKE.out ?_))) (HZ.out.ext (by repeat (first | exact Ext.refl _ | exact HJE.out | exact HKE.out | refine Ext.drew ?_ | refine Ext.drewN ?_ _ | refine Ext.alloc ?_ _ | refine Ext.trans HKE.out ?_)))).mono ?_; rintro e wj ⟨uj, rfl, hj, hEj⟩; obtain ⟨Aj, cj, rfl⟩ := hj.len 2 rfl; have HJ := Lib.hid hj; clear hj; have HJL := Lib.hid hEj; have HJE : Hid (Ext wq wj) := Lib.hid (Ext.trans (by repeat (first | exact Ext.refl _ | exact HJE.out | exact HKE.out | refine Ext.drew ?_ | refine Ext.drewN ?_ _ | refine Ext.alloc ?_ _ | refine Ext.trans HKE.out ?_)) hEj); (first | (have r7 : Blk wj wq.heap.size 26 #[.int .i64 0, nilS, nilS, nilS] := Blk.ext (by first | exact HB7.out | exact HB7.out.drew) hEj; have l7 := r7.lt; have f0 := r7.frozen 0; have f1 := r7.frozen 1; have f2 := r7.frozen 2; have f3 := r7.frozen 3; have d0 : wj.cell? ⟨wq.heap.size, 0, none⟩ = some (.int .i64 0) := r7.cell 0; have d1 : wj.cell? ⟨wq.heap.size, 1, none⟩ = some nilS := r7.cell 1; have d2 : wj.cell? ⟨wq.heap.size, 2, none⟩ = some nilS := r7.cell 2; have d3 : wj.cell? ⟨wq.heap.size, 3, none⟩ = some nilS := r7.cell 3; replace HB7 := Lib.hid r7; clear r7) | (have r7 : Blk wj wk.heap.size 26 #[.int .i64 0, nilS, nilS, nilS] := Blk.ext (by first | exact Blk.new _ _ _ | exact (Blk.new _ _ _).drew) hEj; have l7 := r7.lt; have f0 := r7.frozen 0; have f1 := r7.frozen 1; have f2 := r7.frozen 2; have f3 := r7.frozen 3; have d0 : wj.cell? ⟨wk.heap.size, 0, none⟩ = some (.int .i64 0) := r7.cell 0; have d1 : wj.cell? ⟨wk.heap.size, 1, none⟩ = some nilS := r7.cell 1; have d2 : wj.cell? ⟨wk.heap.size, 2, none⟩ = some nilS := r7.cell 2; have d3 : wj.cell? ⟨wk.heap.size, 3, none⟩ = some nilS := r7.cell 3; have HB7 := Lib.hid r7; clear r7) | skip); clear hEj))
    all_goals
      go_wp2_with (fail)
      go_meet
      case rel =>
        first
          | exact ⟨_, _, _, rfl, rfl, (HB7.out).store4 _ _ _ _, RdE.store4 HJ.out ⟨_, _, _, _, _, _, _, _, _, _, _, HB7.out⟩ _ _ _ _, HJE.out.store4 (by first | exact Nat.le_refl _ | exact HKE.out.size) _ _ _ _⟩
          | exact ⟨_, _, _, rfl, rfl, Blk.new _ _ _, HJ.out.ext ((Ext.refl _).alloc _), HJE.out.alloc _⟩
  case rest =>
    obtain ⟨wd, rfl⟩ : ∃ W : World, W = wc := ⟨_, rfl⟩
    obtain ⟨Bj, Aj, cj, rfl, rfl, hBj, hJ, hE⟩ := hcut
    clear x0 x1 x2 x3 y0 y1 y2 y3 z0 z1 z2 z3 ly lz
    replace HE := Lib.hid (HE.out.trans hE); replace HX := Lib.hid (HX.out.ext hE); replace HBX := Lib.hid (HBX.out.ext hE); replace HY := Lib.hid (HY.out.ext hE); replace HBY := Lib.hid (HBY.out.ext hE); replace HZ := Lib.hid (HZ.out.ext hE); replace HBZ := Lib.hid (HBZ.out.ext hE)
    have HJ := Lib.hid hJ; have HBJ := Lib.hid hBj; clear hJ hBj hE
    obtain ⟨by_, oy, qy, hAy, hby, ey0, ey1, hqy⟩ := HY.out.one_
    obtain ⟨Aq, cq, rfl⟩ : ∃ A c, qy = .slice A 2 c := hqy.lenv
    subst hAy; clear hqy ey1
    have lj := HBJ.out.lt; have j0 : wd.cell? ⟨Bj, 0, none⟩ = some (.int .i64 0) := HBJ.out.cell 0; have j1 : wd.cell? ⟨Bj, 1, none⟩ = some nilS := HBJ.out.cell 1; have j2 : wd.cell? ⟨Bj, 2, none⟩ = some nilS := HBJ.out.cell 2; have j3 : wd.cell? ⟨Bj, 3, none⟩ = some (.slice Aj 2 cj) := HBJ.out.cell 3
    have ly := HBY.out.lt; have y0 : wd.cell? ⟨By, 0, none⟩ = some (.int .i64 0) := HBY.out.cell 0; have y1 : wd.cell? ⟨By, 1, none⟩ = some nilS := HBY.out.cell 1; have y2 : wd.cell? ⟨By, 2, none⟩ = some nilS := HBY.out.cell 2; have y3 : wd.cell? ⟨By, 3, none⟩ = some (.slice (some ⟨by_, oy, none⟩) 1 c2) := HBY.out.cell 3
    go_upto_region 7 with (fail)
    clear ey0 hby
    go_cut [9, 10] (fun v9 v10 wx => ∃ (bn on cn cc : Nat) (Ac : Option Addr), v9 = .slice (some ⟨bn, on, none⟩) 2 cn ∧ v10 = .slice Ac 3 cc ∧ wx.cell? ⟨bn, on, none⟩ = some (.string ⟨#[121]⟩) ∧ Ext wd wx)
    case first =>
      have HKJ : Hid (∀ W, Ext wd W → W.cell? ⟨Bj, 0, none⟩ = some (.int .i64 0) ∧ W.cell? ⟨Bj, 1, none⟩ = some nilS ∧ W.cell? ⟨Bj, 2, none⟩ = some nilS ∧ W.cell? ⟨Bj, 3, none⟩ = some (.slice Aj 2 cj)) := Lib.hid (fun W h => ⟨h.cell j0, h.cell j1, h.cell j2, h.cell j3⟩)
      go_region_held3 (fun w' => w'.cell? ⟨Bj, 0, none⟩ = some (.int .i64 0) ∧ w'.cell? ⟨Bj, 1, none⟩ = some nilS ∧ w'.cell? ⟨Bj, 2, none⟩ = some nilS ∧ w'.cell? ⟨Bj, 3, none⟩ = some (.slice Aj 2 cj)) (first | exact HKJ.out _ (by repeat (first | exact Ext.refl _ | exact HCE.out | exact HNE.out | refine Ext.drew ?_ | refine Ext.drewN ?_ _)) | go_keep) (first
        | (go_at_call 20; refine (aw_c_any _ _ (HJ.out.ext (by repeat (first | exact Ext.refl _ | exact HCE.out | exact HNE.out | refine Ext.drew ?_ | refine Ext.drewN ?_ _)))).mono ?_; rintro e wk2 ⟨vk, rfl, hk, hEk⟩; obtain ⟨Ak, ck, rfl⟩ : ∃ A c, vk = .slice A 3 c := hk.lenv; clear hk; (first | replace HNC := Lib.hid (Ext.cell hEk HNC.out) | skip); have HCE : Hid (Ext wd wk2) := Lib.hid (Ext.trans (by repeat (first | exact Ext.refl _ | fail | exact HNE.out | refine Ext.drew ?_ | refine Ext.drewN ?_ _)) hEk); clear hEk)
        | (go_at_call 18; refine (aw_n_any _ _ (HJ.out.ext (by repeat (first | exact Ext.refl _ | exact HCE.out | exact HNE.out | refine Ext.drew ?_ | refine Ext.drewN ?_ _)))).mono ?_; rintro e wn ⟨vn, rfl, hn, hEn⟩; have hh := Rd1.head hn 2 rfl; obtain ⟨bn, on, cn, rfl, ln, n0⟩ := hh; have HNC := Lib.hid n0; clear n0 hn; have HNE : Hid (Ext wd wn) := Lib.hid (Ext.trans (by repeat (first | exact Ext.refl _ | exact HCE.out | fail | refine Ext.drew ?_ | refine Ext.drewN ?_ _)) hEn); clear hEn))
      all_goals
        go_wp2_with (fail)
        go_meet
        case rel => exact ⟨_, _, _, _, _, rfl, rfl, HNC.out, (by repeat (first | exact Ext.refl _ | exact HCE.out | exact HNE.out | refine Ext.drew ?_ | refine Ext.drewN ?_ _))⟩
    case rest =>
      obtain ⟨we, rfl⟩ : ∃ W : World, W = wc := ⟨_, rfl⟩
      obtain ⟨bn, on, cn, cc, Ac, rfl, rfl, n0, hE⟩ := hcut
      replace HE := Lib.hid (HE.out.trans hE); replace HX := Lib.hid (HX.out.ext hE); replace HBX := Lib.hid (HBX.out.ext hE); replace HY := Lib.hid (HY.out.ext hE); replace HBY := Lib.hid (HBY.out.ext hE); replace HZ := Lib.hid (HZ.out.ext hE); replace HBZ := Lib.hid (HBZ.out.ext hE); replace HJ := Lib.hid (HJ.out.ext hE); replace HBJ := Lib.hid (HBJ.out.ext hE); replace j0 := hE.cell j0; replace j1 := hE.cell j1; replace j2 := hE.cell j2; replace j3 := hE.cell j3; replace y0 := hE.cell y0; replace y1 := hE.cell y1; replace y2 := hE.cell y2; replace y3 := hE.cell y3
      clear hE; replace lj := HBJ.out.lt; replace ly := HBY.out.lt
      go_upto_region 9 with (first | (go_at_call 14; refine (aw_r_any _ _ HJ.out).mono ?_; rintro e w5 ⟨u5, rfl, h, hE⟩; obtain ⟨A5, c5, rfl⟩ := h.len 1 rfl; replace HE := Lib.hid (HE.out.trans hE); replace HX := Lib.hid (HX.out.ext hE); replace HBX := Lib.hid (HBX.out.ext hE); replace HY := Lib.hid (HY.out.ext hE); replace HBY := Lib.hid (HBY.out.ext hE); replace HZ := Lib.hid (HZ.out.ext hE); replace HBZ := Lib.hid (HBZ.out.ext hE); replace HJ := Lib.hid (HJ.out.ext hE); replace HBJ := Lib.hid (HBJ.out.ext hE); replace j0 := hE.cell j0; replace j1 := hE.cell j1; replace j2 := hE.cell j2; replace j3 := hE.cell j3; replace y0 := hE.cell y0; replace y1 := hE.cell y1; replace y2 := hE.cell y2; replace y3 := hE.cell y3; replace n0 := hE.cell n0; have HR := Lib.hid h; clear h hE))
      obtain ⟨wf, hw⟩ : ∃ W, W = w5.alloc (.cells #[.int .i64 0, nilS, nilS, .slice A5 1 c5] 26) := ⟨_, rfl⟩
      have hE : Ext w5 wf := by rw [hw]; exact (Ext.refl _).alloc _
      have hB : Blk wf w5.heap.size 26 #[.int .i64 0, nilS, nilS, .slice A5 1 c5] := by rw [hw]; exact Blk.new _ _ _
      rw [← hw]; clear hw
      replace HE := Lib.hid (HE.out.trans hE); replace HX := Lib.hid (HX.out.ext hE); replace HBX := Lib.hid (HBX.out.ext hE); replace HY := Lib.hid (HY.out.ext hE); replace HBY := Lib.hid (HBY.out.ext hE); replace HZ := Lib.hid (HZ.out.ext hE); replace HBZ := Lib.hid (HBZ.out.ext hE); replace HJ := Lib.hid (HJ.out.ext hE); replace HBJ := Lib.hid (HBJ.out.ext hE); replace HR := Lib.hid (HR.out.ext hE); replace j0 := hE.cell j0; replace j1 := hE.cell j1; replace j2 := hE.cell j2; replace j3 := hE.cell j3; replace y0 := hE.cell y0; replace y1 := hE.cell y1; replace y2 := hE.cell y2; replace y3 := hE.cell y3; replace n0 := hE.cell n0
      obtain ⟨Br, hB0⟩ : ∃ B, B = w5.heap.size := ⟨_, rfl⟩
      rw [← hB0] at hB ⊢; clear hB0
      have HBR := Lib.hid hB
      clear hB hE
      replace lj := HBJ.out.lt; replace ly := HBY.out.lt
      go_upto_region 10 with (first | (go_at_call 23; refine (aw_s_any _ _ _ HJ.out HY.out).mono ?_; rintro e w6 ⟨u6, rfl, h, hE⟩; obtain ⟨A6, c6, rfl⟩ := h.len 1 rfl; replace HE := Lib.hid (HE.out.trans hE); replace HX := Lib.hid (HX.out.ext hE); replace HBX := Lib.hid (HBX.out.ext hE); replace HY := Lib.hid (HY.out.ext hE); replace HBY := Lib.hid (HBY.out.ext hE); replace HZ := Lib.hid (HZ.out.ext hE); replace HBZ := Lib.hid (HBZ.out.ext hE); replace HJ := Lib.hid (HJ.out.ext hE); replace HBJ := Lib.hid (HBJ.out.ext hE); replace HR := Lib.hid (HR.out.ext hE); replace HBR := Lib.hid (HBR.out.ext hE); replace j0 := hE.cell j0; replace j1 := hE.cell j1; replace j2 := hE.cell j2; replace j3 := hE.cell j3; replace y0 := hE.cell y0; replace y1 := hE.cell y1; replace y2 := hE.cell y2; replace y3 := hE.cell y3; replace n0 := hE.cell n0; have HS := Lib.hid h; clear h hE))
      obtain ⟨wg, hw⟩ : ∃ W, W = w6.alloc (.cells #[.int .i64 0, nilS, nilS, .slice A6 1 c6] 26) := ⟨_, rfl⟩
      have hE : Ext w6 wg := by rw [hw]; exact (Ext.refl _).alloc _
      have hB : Blk wg w6.heap.size 26 #[.int .i64 0, nilS, nilS, .slice A6 1 c6] := by rw [hw]; exact Blk.new _ _ _
      rw [← hw]; clear hw
      replace HE := Lib.hid (HE.out.trans hE); replace HX := Lib.hid (HX.out.ext hE); replace HBX := Lib.hid (HBX.out.ext hE); replace HY := Lib.hid (HY.out.ext hE); replace HBY := Lib.hid (HBY.out.ext hE); replace HZ := Lib.hid (HZ.out.ext hE); replace HBZ := Lib.hid (HBZ.out.ext hE); replace HJ := Lib.hid (HJ.out.ext hE); replace HBJ := Lib.hid (HBJ.out.ext hE); replace HR := Lib.hid (HR.out.ext hE); replace HBR := Lib.hid (HBR.out.ext hE); replace HS := Lib.hid (HS.out.ext hE); replace j0 := hE.cell j0; replace j1 := hE.cell j1; replace j2 := hE.cell j2; replace j3 := hE.cell j3; replace y0 := hE.cell y0; replace y1 := hE.cell y1; replace y2 := hE.cell y2; replace y3 := hE.cell y3; replace n0 := hE.cell n0
      obtain ⟨Bs, hB0⟩ : ∃ B, B = w6.heap.size := ⟨_, rfl⟩
      rw [← hB0] at hB ⊢; clear hB0
      have HBS := Lib.hid hB
      clear hB hE
      obtain ⟨br, or, qr, hAr, hbr, er0, er1, hqr⟩ := HR.out.one_
      obtain ⟨bt, ot, ct, rfl, hbt, et0, et1⟩ := hqr.head 3 rfl
      subst hAr; clear hqr hbr hbt et0
      obtain ⟨bs, os, qs, hAs, hbs, es0, es1, hqs⟩ := HS.out.one_
      subst hAs; clear hqs hbs es0
      have et1 : wg.cell? ⟨bt, ot + 1, none⟩ = some (.int .i64 2) := et1
      have er1 : wg.cell? ⟨br, or + 1, none⟩ = some (.string ⟨#[121]⟩) := er1
      have es1 : wg.cell? ⟨bs, os + 1, none⟩ = some (.string ⟨#[122]⟩) := es1
      have r3 : wg.cell? ⟨Br, 3, none⟩ = some (.slice (some ⟨br, or, none⟩) 1 c5) := HBR.out.cell 3
      have s3 : wg.cell? ⟨Bs, 3, none⟩ = some (.slice (some ⟨bs, os, none⟩) 1 c6) := HBS.out.cell 3
      have x0 : wg.cell? ⟨Bx, 0, none⟩ = some (.int .i64 0) := HBX.out.cell 0; have x1 : wg.cell? ⟨Bx, 1, none⟩ = some nilS := HBX.out.cell 1; have x2 : wg.cell? ⟨Bx, 2, none⟩ = some nilS := HBX.out.cell 2; have x3 : wg.cell? ⟨Bx, 3, none⟩ = some (.slice A1 1 c1) := HBX.out.cell 3
      replace lj := HBJ.out.lt; replace ly := HBY.out.lt; have lx := HBX.out.lt; have lr := HBR.out.lt; have ls := HBS.out.lt
      have lbn := World.block_lt_of_cell? _ _ n0; have lbt := World.block_lt_of_cell? _ _ et1; have lbr := World.block_lt_of_cell? _ _ er1; have lbs := World.block_lt_of_cell? _ _ es1
      have TK1 : True := trivial; have TK2 : True := trivial
      have hq1 : (([121] : List UInt8) == [121]) = true := by decide
      have hq2 : (([122] : List UInt8) == [122]) = true := by decide
      go_wp2_with (first
        | (go_at_call 22; clear TK1; refine (aw_kj_any _ _ HJ.out).mono ?_; rintro e w7 ⟨rfl, hE⟩; replace HE := Lib.hid (HE.out.trans hE); replace HX := Lib.hid (HX.out.ext hE); replace HBX := Lib.hid (HBX.out.ext hE); replace HY := Lib.hid (HY.out.ext hE); replace HBY := Lib.hid (HBY.out.ext hE); replace HZ := Lib.hid (HZ.out.ext hE); replace HBZ := Lib.hid (HBZ.out.ext hE); replace HJ := Lib.hid (HJ.out.ext hE); replace HBJ := Lib.hid (HBJ.out.ext hE); replace HR := Lib.hid (HR.out.ext hE); replace HBR := Lib.hid (HBR.out.ext hE); replace HS := Lib.hid (HS.out.ext hE); replace HBS := Lib.hid (HBS.out.ext hE); replace j0 := hE.cell j0; replace j1 := hE.cell j1; replace j2 := hE.cell j2; replace j3 := hE.cell j3; replace y0 := hE.cell y0; replace y1 := hE.cell y1; replace y2 := hE.cell y2; replace y3 := hE.cell y3; replace n0 := hE.cell n0; replace x0 := hE.cell x0; replace x1 := hE.cell x1; replace x2 := hE.cell x2; replace x3 := hE.cell x3; replace et1 := hE.cell et1; replace er0 := hE.cell er0; replace er1 := hE.cell er1; replace es1 := hE.cell es1; replace r3 := hE.cell r3; replace s3 := hE.cell s3; replace lj := HBJ.out.lt; replace ly := HBY.out.lt; replace lx := HBX.out.lt; replace lr := HBR.out.lt; replace ls := HBS.out.lt; replace lbn := World.block_lt_of_cell? _ _ n0; replace lbt := World.block_lt_of_cell? _ _ et1; replace lbr := World.block_lt_of_cell? _ _ er1; replace lbs := World.block_lt_of_cell? _ _ es1; clear hE; have TK3 : True := trivial)
        | (go_at_call 22; clear TK3; refine (aw_ky_any _ _ HY.out).mono ?_; rintro e w8 ⟨rfl, hE⟩; replace HE := Lib.hid (HE.out.trans hE); replace HX := Lib.hid (HX.out.ext hE); replace HBX := Lib.hid (HBX.out.ext hE); replace HY := Lib.hid (HY.out.ext hE); replace HBY := Lib.hid (HBY.out.ext hE); replace HZ := Lib.hid (HZ.out.ext hE); replace HBZ := Lib.hid (HBZ.out.ext hE); replace HJ := Lib.hid (HJ.out.ext hE); replace HBJ := Lib.hid (HBJ.out.ext hE); replace HR := Lib.hid (HR.out.ext hE); replace HBR := Lib.hid (HBR.out.ext hE); replace HS := Lib.hid (HS.out.ext hE); replace HBS := Lib.hid (HBS.out.ext hE); replace j0 := hE.cell j0; replace j1 := hE.cell j1; replace j2 := hE.cell j2; replace j3 := hE.cell j3; replace y0 := hE.cell y0; replace y1 := hE.cell y1; replace y2 := hE.cell y2; replace y3 := hE.cell y3; replace n0 := hE.cell n0; replace x0 := hE.cell x0; replace x1 := hE.cell x1; replace x2 := hE.cell x2; replace x3 := hE.cell x3; replace et1 := hE.cell et1; replace er0 := hE.cell er0; replace er1 := hE.cell er1; replace es1 := hE.cell es1; replace r3 := hE.cell r3; replace s3 := hE.cell s3; replace lj := HBJ.out.lt; replace ly := HBY.out.lt; replace lx := HBX.out.lt; replace lr := HBR.out.lt; replace ls := HBS.out.lt; replace lbn := World.block_lt_of_cell? _ _ n0; replace lbt := World.block_lt_of_cell? _ _ et1; replace lbr := World.block_lt_of_cell? _ _ er1; replace lbs := World.block_lt_of_cell? _ _ es1; clear hE; have TK4 : True := trivial)
        | (go_at_call 25; clear TK4; refine (aw_jx_any _ _ _ HJ.out HX.out).mono ?_; rintro e w9 ⟨rfl, hE⟩; replace HE := Lib.hid (HE.out.trans hE); replace HX := Lib.hid (HX.out.ext hE); replace HBX := Lib.hid (HBX.out.ext hE); replace HY := Lib.hid (HY.out.ext hE); replace HBY := Lib.hid (HBY.out.ext hE); replace HZ := Lib.hid (HZ.out.ext hE); replace HBZ := Lib.hid (HBZ.out.ext hE); replace HJ := Lib.hid (HJ.out.ext hE); replace HBJ := Lib.hid (HBJ.out.ext hE); replace HR := Lib.hid (HR.out.ext hE); replace HBR := Lib.hid (HBR.out.ext hE); replace HS := Lib.hid (HS.out.ext hE); replace HBS := Lib.hid (HBS.out.ext hE); replace j0 := hE.cell j0; replace j1 := hE.cell j1; replace j2 := hE.cell j2; replace j3 := hE.cell j3; replace y0 := hE.cell y0; replace y1 := hE.cell y1; replace y2 := hE.cell y2; replace y3 := hE.cell y3; replace n0 := hE.cell n0; replace x0 := hE.cell x0; replace x1 := hE.cell x1; replace x2 := hE.cell x2; replace x3 := hE.cell x3; replace et1 := hE.cell et1; replace er0 := hE.cell er0; replace er1 := hE.cell er1; replace es1 := hE.cell es1; replace r3 := hE.cell r3; replace s3 := hE.cell s3; replace lj := HBJ.out.lt; replace ly := HBY.out.lt; replace lx := HBX.out.lt; replace lr := HBR.out.lt; replace ls := HBS.out.lt; replace lbn := World.block_lt_of_cell? _ _ n0; replace lbt := World.block_lt_of_cell? _ _ et1; replace lbr := World.block_lt_of_cell? _ _ er1; replace lbs := World.block_lt_of_cell? _ _ es1; clear hE; have TK5 : True := trivial)
        | (go_at_call 25; clear TK5; refine (aw_xj_any _ _ _ HJ.out HX.out).mono ?_; rintro e wz ⟨rfl, hE⟩; replace HE := Lib.hid (HE.out.trans hE); replace HX := Lib.hid (HX.out.ext hE); replace HBX := Lib.hid (HBX.out.ext hE); replace HY := Lib.hid (HY.out.ext hE); replace HBY := Lib.hid (HBY.out.ext hE); replace HZ := Lib.hid (HZ.out.ext hE); replace HBZ := Lib.hid (HBZ.out.ext hE); replace HJ := Lib.hid (HJ.out.ext hE); replace HBJ := Lib.hid (HBJ.out.ext hE); replace HR := Lib.hid (HR.out.ext hE); replace HBR := Lib.hid (HBR.out.ext hE); replace HS := Lib.hid (HS.out.ext hE); replace HBS := Lib.hid (HBS.out.ext hE); replace j0 := hE.cell j0; replace j1 := hE.cell j1; replace j2 := hE.cell j2; replace j3 := hE.cell j3; replace y0 := hE.cell y0; replace y1 := hE.cell y1; replace y2 := hE.cell y2; replace y3 := hE.cell y3; replace n0 := hE.cell n0; replace x0 := hE.cell x0; replace x1 := hE.cell x1; replace x2 := hE.cell x2; replace x3 := hE.cell x3; replace et1 := hE.cell et1; replace er0 := hE.cell er0; replace er1 := hE.cell er1; replace es1 := hE.cell es1; replace r3 := hE.cell r3; replace s3 := hE.cell s3; replace lj := HBJ.out.lt; replace ly := HBY.out.lt; replace lx := HBX.out.lt; replace lr := HBR.out.lt; replace ls := HBS.out.lt; replace lbn := World.block_lt_of_cell? _ _ n0; replace lbt := World.block_lt_of_cell? _ _ et1; replace lbr := World.block_lt_of_cell? _ _ er1; replace lbs := World.block_lt_of_cell? _ _ es1; clear hE))
      go_ret
      exact ⟨rfl, HE.out⟩
end Go.Proofs.YthldgioggjpnpaaGreat
