/-
  Contracts: join.Join; register.Since, Resolve.
-/
import Derived.Test.YthldgioggjpnpaaGreatR20
namespace Go.Proofs.YthldgioggjpnpaaGreat
open Go.RowKit

theorem RdL.two {w : World} {g : Nat} {Na Nb : Int} {A1 A2 B1 B2 : Option Addr} {n1 c1 p1 c2 n2 k1 p2 k2 : Nat} {ve vf : Value} {a b : List En} {t : TypeId}
    (hB : Blk w g t #[.int .i64 Na, .slice A1 n1 c1, .slice A2 p1 c2, ve, .int .i64 Nb, .slice B1 n2 k1, .slice B2 p2 k2, vf]) (he : RdE w ve a) (hf : RdE w vf b) :
    RdL w (.slice (some ⟨g, 0, none⟩) 2 2) [(Na, n1, p1, a), (Nb, n2, p2, b)] :=
  ⟨_, _, _, rfl, rfl, Nat.le_refl _, by unfold maxLen; omega, fun _ => ⟨g, 0, rfl, hB.lt, fun j x hj => by
    match j, hj with
    | 0, hj =>
      simp at hj
      subst hj
      exact ⟨A1, c1, A2, c2, ve, hB.cell 0, hB.cell 1, hB.cell 2, hB.cell 3, he⟩
    | 1, hj =>
      simp at hj
      subst hj
      exact ⟨B1, k1, B2, k2, vf, hB.cell 4, hB.cell 5, hB.cell 6, hB.cell 7, hf⟩
    | j + 2, hj => simp at hj⟩⟩

set_option maxRecDepth 100000 in
set_option maxHeartbeats 2000000 in
theorem joinV_any (va vb : Value) (Na Nb : Int) (n1 p1 n2 p2 : Nat) (a b : List En) (w : World) (ha : RdV w va Na n1 p1 a) (hb : RdV w vb Nb n2 p2 b) (oa : isReg Na n1 p1 a = true) (ob : isReg Nb n2 p2 b = true) (na0 : a.length ≤ 100000) (nb0 : b.length ≤ 100000) :
    Calls Tryz.prog 27 #[latR, va, vb] w fun e w' => ∃ u es, e = .returned (.tuple #[.agg #[.int .i64 0, nilS, nilS, u], .int .i64 0]) ∧ JoinedTo [] [(Na, n1, p1, a), (Nb, n2, p2, b)] es ∧ RdE w' u es ∧ Ext w w' := by
  obtain ⟨A1, c1, A2, c2, ve, rfl, he⟩ := ha
  obtain ⟨B1, k1, B2, k2, vf, rfl, hf⟩ := hb
  have HJA := Lib.hid (fun W (v : Value) (h : RdL W v [(Na, n1, p1, a), (Nb, n2, p2, b)]) => joinAll_any v [(Na, n1, p1, a), (Nb, n2, p2, b)] W h (by simp [vrOk, oa, ob]) (by simp) (by intro x hx; simp at hx; rcases hx with rfl | rfl <;> assumption))
  have HE := Lib.hid he
  have HF := Lib.hid hf
  obtain ⟨Ae, ne, ce, rfl⟩ := he.slice
  obtain ⟨Af, nf, cf, rfl⟩ := hf.slice
  clear he hf oa ob na0 nb0
  go_enter Tryz.func27, Tryz.ntmps27
  go_upto_region 1 with (fail)
  obtain ⟨w4, hw4⟩ : ∃ w4, w4 = (((w.alloc (.cells latCells 46)).alloc (.cells #[.int .i64 Na, .slice A1 n1 c1, .slice A2 p1 c2, .slice Ae ne ce] 26)).alloc (.cells #[.int .i64 Nb, .slice B1 n2 k1, .slice B2 p2 k2, .slice Af nf cf] 26)).alloc (.cells #[.int .i64 0, nilS, nilS, nilS] 26) := ⟨_, rfl⟩
  have hE4 : Ext w w4 := by rw [hw4]; exact ((((Ext.refl w).alloc _).alloc _).alloc _).alloc _
  have hB0 : Blk w4 w.heap.size 46 latCells := by rw [hw4]; exact (((Blk.new w _ _).alloc _).alloc _).alloc _
  have hB1 : Blk w4 (w.heap.size + 1) 26 #[.int .i64 Na, .slice A1 n1 c1, .slice A2 p1 c2, .slice Ae ne ce] := by rw [hw4]; exact ((Blk.new' _ _ _ _ (by simp)).alloc _).alloc _
  have hB2 : Blk w4 (w.heap.size + 1 + 1) 26 #[.int .i64 Nb, .slice B1 n2 k1, .slice B2 p2 k2, .slice Af nf cf] := by rw [hw4]; exact (Blk.new' _ _ _ _ (by simp)).alloc _
  have hB3 : Blk w4 (w.heap.size + 1 + 1 + 1) 26 #[.int .i64 0, nilS, nilS, nilS] := by rw [hw4]; exact Blk.new' _ _ _ _ (by simp)
  rw [← hw4]
  clear hw4
  have hgs : w.heap.size ≤ w.heap.size + 1 + 1 + 1 := by omega
  generalize hG : w.heap.size = G at *
  have g0 : w4.cell? ⟨G, 0, none⟩ = some (.int .i64 9) := hB0.cell 0
  have g1 : w4.cell? ⟨G, 1, none⟩ = some (.int .i64 0) := hB0.cell 1
  have g2 : w4.cell? ⟨G, 2, none⟩ = some (.int .i64 0) := hB0.cell 2
  have g3 : w4.cell? ⟨G, 3, none⟩ = some nilS := hB0.cell 3
  have g4 : w4.cell? ⟨G, 4, none⟩ = some nilS := hB0.cell 4
  have g5 : w4.cell? ⟨G, 5, none⟩ = some nilS := hB0.cell 5
  have a0 : w4.cell? ⟨G + 1, 0, none⟩ = some (.int .i64 Na) := hB1.cell 0
  have a1 : w4.cell? ⟨G + 1, 1, none⟩ = some (.slice A1 n1 c1) := hB1.cell 1
  have a2 : w4.cell? ⟨G + 1, 2, none⟩ = some (.slice A2 p1 c2) := hB1.cell 2
  have a3 : w4.cell? ⟨G + 1, 3, none⟩ = some (.slice Ae ne ce) := hB1.cell 3
  have b0 : w4.cell? ⟨G + 1 + 1, 0, none⟩ = some (.int .i64 Nb) := hB2.cell 0
  have b1 : w4.cell? ⟨G + 1 + 1, 1, none⟩ = some (.slice B1 n2 k1) := hB2.cell 1
  have b2 : w4.cell? ⟨G + 1 + 1, 2, none⟩ = some (.slice B2 p2 k2) := hB2.cell 2
  have b3 : w4.cell? ⟨G + 1 + 1, 3, none⟩ = some (.slice Af nf cf) := hB2.cell 3
  have l0 := hB0.lt
  have l1 := hB1.lt
  have l2 := hB2.lt
  have HB3 := Lib.hid hB3
  have HE4 := Lib.hid hE4
  clear hB0 hB1 hB2 hB3 hE4
  have HN : Hid (Blk (w4.alloc (.cells #[.int .i64 Na, .slice A1 n1 c1, .slice A2 p1 c2, .slice Ae ne ce, .int .i64 Nb, .slice B1 n2 k1, .slice B2 p2 k2, .slice Af nf cf] 26)) w4.heap.size 26 #[.int .i64 Na, .slice A1 n1 c1, .slice A2 p1 c2, .slice Ae ne ce, .int .i64 Nb, .slice B1 n2 k1, .slice B2 p2 k2, .slice Af nf cf]) := Lib.hid (Blk.new _ _ _)
  have HJ2 := Lib.hid (HJA.out _ _ (RdL.two HN.out (HE.out.ext (HE4.out.alloc _)) (HF.out.ext (HE4.out.alloc _))))
  have hal := (Ext.refl w4).alloc (.cells #[.int .i64 Na, .slice A1 n1 c1, .slice A2 p1 c2, .slice Ae ne ce, .int .i64 Nb, .slice B1 n2 k1, .slice B2 p2 k2, .slice Af nf cf] 26)
  have HB4 := Lib.hid (HB3.out.ext hal)
  have HE5 := Lib.hid (HE4.out.trans hal)
  clear hal
  go_wp2_with (go_at_call 48; refine HJ2.out.mono ?_; rintro e w5 ⟨u5, es5, rfl, hj5, hr5, hE5⟩; have r5 := HB4.out.ext hE5; have HR5 := Lib.hid r5; have HE6 := Lib.hid (HE5.out.trans hE5); clear hE5; have HJ5 := Lib.hid hj5; clear hj5; have HRD := Lib.hid hr5; obtain ⟨A5, n5, k5, rfl⟩ := hr5.slice; clear hr5; have l5 := r5.lt; have f0 := r5.frozen 0; have f1 := r5.frozen 1; have f2 := r5.frozen 2; have f3 := r5.frozen 3; have d0 : w5.cell? ⟨G + 1 + 1 + 1, 0, none⟩ = some (.int .i64 0) := r5.cell 0; have d1 : w5.cell? ⟨G + 1 + 1 + 1, 1, none⟩ = some nilS := r5.cell 1; have d2 : w5.cell? ⟨G + 1 + 1 + 1, 2, none⟩ = some nilS := r5.cell 2; have d3 : w5.cell? ⟨G + 1 + 1 + 1, 3, none⟩ = some nilS := r5.cell 3; clear r5)
  obtain ⟨wz, hwz⟩ : ∃ wz, wz = ((((w5.setCell ⟨G + 1 + 1 + 1, 0, none⟩ (.int .i64 0)).setCell ⟨G + 1 + 1 + 1, 1, none⟩ nilS).setCell ⟨G + 1 + 1 + 1, 2, none⟩ nilS).setCell ⟨G + 1 + 1 + 1, 3, none⟩ (.slice A5 n5 k5)) := ⟨_, rfl⟩
  have hBz : Blk wz (G + 1 + 1 + 1) 26 #[.int .i64 0, nilS, nilS, .slice A5 n5 k5] := by rw [hwz]; exact HR5.out.store4 _ _ _ _
  have hEz : Ext w wz := by rw [hwz]; exact HE6.out.store4 (by omega) _ _ _ _
  have hRz : RdE wz (.slice A5 n5 k5) es5 := by rw [hwz]; exact HRD.out.store4 ⟨_, _, _, _, _, _, _, _, _, _, _, HR5.out⟩ _ _ _ _
  rw [← hwz]
  clear hwz d0 d1 d2 d3
  have d0 : wz.cell? ⟨G + 1 + 1 + 1, 0, none⟩ = some (.int .i64 0) := hBz.cell 0
  have d1 : wz.cell? ⟨G + 1 + 1 + 1, 1, none⟩ = some nilS := hBz.cell 1
  have d2 : wz.cell? ⟨G + 1 + 1 + 1, 2, none⟩ = some nilS := hBz.cell 2
  have d3 : wz.cell? ⟨G + 1 + 1 + 1, 3, none⟩ = some (.slice A5 n5 k5) := hBz.cell 3
  clear hBz
  refine bodyPost_ret (v := .tuple #[.agg #[.int .i64 0, nilS, nilS, .slice A5 n5 k5], .int .i64 0]) (by simp [results, Tryz.results27, go_sem, d0, d1, d2, d3]) rfl ?_
  exact ⟨_, es5, rfl, HJ5.out, hRz, hEz⟩
end Go.Proofs.YthldgioggjpnpaaGreat
