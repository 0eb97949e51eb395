/-
  Contracts: the reference's Since, Covers of registers.
-/
import Derived.Test.YthldgioggjpnpaaGreatS13
namespace Go.Proofs.YthldgioggjpnpaaGreat
open Go.RowKit

def sinceW (vs old : List En) : List En := vs.filter (fun x => !old.any (covB x))

set_option maxRecDepth 100000 in
set_option maxHeartbeats 4000000 in
theorem rsince13_any (va vb : Value) (Na Nb : Int) (n1 p1 n2 p2 : Nat) (a b : List En) (w : World) (ha : RdV w va Na n1 p1 a) (hb : RdV w vb Nb n2 p2 b) (hla : a.length ≤ 1048576) :
    Calls Tryz.prog 24 #[va, vb] w fun e w' => ∃ u, e = .returned (.agg #[.int .i64 0, nilS, nilS, u]) ∧ RdE w' u (sinceW a b) ∧ Ext w w' := by
  obtain ⟨i0, hi0, hz0, hz1, hz2⟩ := info_parts infEn
  have HCV := Lib.hid (fun W (hW : Ext w W) (x : En) (q : Value) (hq : RdT W q x.1) => rcov13_any vb q Nb n2 p2 b x W (hb.ext hW) hq)
  obtain ⟨A1, c1, A2, c2, ve, rfl, he⟩ := ha
  obtain ⟨B1, k1, B2, k2, vf, rfl, hf⟩ := hb
  obtain ⟨Af, nf, cf, rfl⟩ := hf.slice
  have HF := Lib.hid he
  obtain ⟨Ae, n, ce, rfl, hl, hnc, hcm, -⟩ := he
  unfold maxLen at hcm
  have hn0 : n ≤ 1048576 := by omega
  have HL := Lib.hid hl; clear hl hla
  clear hf
  go_enter Tryz.func24, Tryz.ntmps24
  go_upto_region 1 with (fail)
  obtain ⟨w3, hw3⟩ : ∃ w3, w3 = ((w.alloc (.cells #[.int .i64 Na, .slice A1 n1 c1, .slice A2 p1 c2, .slice Ae n ce] 26)).alloc (.cells #[.int .i64 Nb, .slice B1 n2 k1, .slice B2 p2 k2, .slice Af nf cf] 26)).alloc (.cells #[.int .i64 0, nilS, nilS, nilS] 26) := ⟨_, rfl⟩
  have hE3 : Ext w w3 := by rw [hw3]; exact (((Ext.refl w).alloc _).alloc _).alloc _
  have hB0 : Blk w3 w.heap.size 26 #[.int .i64 Na, .slice A1 n1 c1, .slice A2 p1 c2, .slice Ae n ce] := by rw [hw3]; exact ((Blk.new _ _ _).alloc _).alloc _
  have hB1 : Blk w3 (w.heap.size + 1) 26 #[.int .i64 Nb, .slice B1 n2 k1, .slice B2 p2 k2, .slice Af nf cf] := by rw [hw3]; exact (Blk.new' _ _ _ _ (by simp)).alloc _
  have hB2 : Blk w3 (w.heap.size + 1 + 1) 26 #[.int .i64 0, nilS, nilS, nilS] := by rw [hw3]; exact Blk.new' _ _ _ _ (by simp)
  rw [← hw3]
  clear hw3
  have HB0 := Lib.hid hB0
  have HB1 := Lib.hid hB1
  have HB2 := Lib.hid hB2
  have HE3 := Lib.hid hE3
  have lb2 := hB2.lt
  clear hB0 hB1 hB2 hE3
  generalize hG : w.heap.size = G at *
  go_upto_region 2 with (fail)
  obtain ⟨w4, hw4⟩ : ∃ w4, w4 = w3.alloc (.cells #[.int .i64 0, nilS, nilS, nilS] 26) := ⟨_, rfl⟩
  have hE34 : Ext w3 w4 := by rw [hw4]; exact (Ext.refl w3).alloc _
  have hH : Blk w4 w3.heap.size 26 #[.int .i64 0, nilS, nilS, nilS] := by rw [hw4]; exact Blk.new _ _ _
  rw [← hw4]
  clear hw4
  have hH0 : w3.heap.size ≠ G := by omega
  have hH1 : w3.heap.size ≠ G + 1 := by omega
  have hH2 : w3.heap.size ≠ G + 1 + 1 := by omega
  have hH3 : G ≤ w3.heap.size := by omega
  have HB04 := Lib.hid (HB0.out.ext hE34)
  have HB14 := Lib.hid (HB1.out.ext hE34)
  have HB24 := Lib.hid (HB2.out.ext hE34)
  have HE4 := Lib.hid (HE3.out.trans hE34)
  have HH := Lib.hid hH
  clear hE34 hH lb2
  generalize w3.heap.size = H at *
  go_wp2_with (fail)
  go_loopw [6] (fun i wr => ∃ (k : Nat) (v : Value) (l : List QE), k ≤ n ∧ i = .int .i64 k ∧ Blk wr H 26 #[.int .i64 0, nilS, nilS, v] ∧ Blk wr (G + 1 + 1) 26 #[.int .i64 0, nilS, nilS, nilS] ∧ Blk wr (G + 1) 26 #[.int .i64 Nb, .slice B1 n2 k1, .slice B2 p2 k2, .slice Af nf cf] ∧ Blk wr G 26 #[.int .i64 Na, .slice A1 n1 c1, .slice A2 p1 c2, .slice Ae n ce] ∧ OwnE w wr v l ∧ l.map (·.2) = (a.take k).filter (fun x => !b.any (covB x)) ∧ (∃ A m c, v = .slice A m c)) (fun i _ => n - (intOf i).toNat)
  case atStart => exact ⟨0, nilS, [], Nat.zero_le _, rfl, HH.out, HB24.out, HB14.out, HB04.out, ⟨OwnN.nil _ _ _ _ _, HE4.out, by simp⟩, by simp, ⟨_, _, _, rfl⟩⟩
  case round =>
    obtain ⟨k, v, l, hk, rfl, hh, hr2, hb1, hb0, hC, hm, hv⟩ := hrel
    obtain ⟨Av, nv, cv, rfl⟩ := hv
    have HM := Lib.hid hm; clear hm
    have HC := Lib.hid hC; clear hC
    have hll : l.length ≤ n := by
      have h1 : (l.map (·.2)).length ≤ n := by
        rw [HM.out]
        have := filter_len (fun x => !b.any (covB x)) a k
        have := HL.out
        omega
      simpa using h1
    have HHr := Lib.hid hh
    have HR2 := Lib.hid hr2
    have HB1 := Lib.hid hb1
    have HB0 := Lib.hid hb0
    have g3 : wr.cell? ⟨G, 3, none⟩ = some (.slice Ae n ce) := hb0.cell 3
    have lg := hb0.lt
    by_cases hlt : k < n
    · obtain ⟨bx, ox, x, q, rfl, hbx, hx, c0, c1, hq, hnl⟩ := RdE.at_ HF.out hlt
      have HX := Lib.hid hx; clear hx
      obtain ⟨Aq, nq, cq, rfl⟩ := hq.slice
      have HGD : Hid (goodQ w (.slice Aq nq cq, x)) := Lib.hid ⟨⟨_, _, _, rfl⟩, hq, hnl⟩
      have HC0 := Lib.hid c0
      have HC1 := Lib.hid c1
      have d0 := HC.out.ext.cell c0
      have d1 := HC.out.ext.cell c1
      have ld := World.block_lt_of_cell? _ _ d0
      have e0 : wr.cell? ⟨G + 1, 0, none⟩ = some (.int .i64 Nb) := hb1.cell 0
      have e1 : wr.cell? ⟨G + 1, 1, none⟩ = some (.slice B1 n2 k1) := hb1.cell 1
      have e2 : wr.cell? ⟨G + 1, 2, none⟩ = some (.slice B2 p2 k2) := hb1.cell 2
      have e3 : wr.cell? ⟨G + 1, 3, none⟩ = some (.slice Af nf cf) := hb1.cell 3
      have le := hb1.lt
      clear hh hr2 hb1 hb0 c0 c1 hq hnl hbx
      have k0 := cell_regrown e0
      have k1' := cell_regrown e1
      have k2' := cell_regrown e2
      have k3 := cell_regrown e3
      have k4 := cell_regrown d0
      have k5 := cell_regrown d1
      have k6 := cell_regrown g3
      obtain ⟨r, hr⟩ : ∃ r, b.any (covB x) = r := ⟨_, rfl⟩
      have CE : Hid (∀ W, Ext wr W → Calls Tryz.prog 47 #[.agg #[.int .i64 Nb, .slice B1 n2 k1, .slice B2 p2 k2, .slice Af nf cf], .agg #[.slice Aq nq cq, encS x.2]] W fun e w' => e = .returned (.bool r) ∧ Ext W w') := Lib.hid (fun W hW => by
        have := HCV.out W (HC.out.ext.trans hW) x (.slice Aq nq cq) (HGD.out.2.1.ext (HC.out.ext.trans hW))
        rw [hr] at this
        exact this)
      have HR := Lib.hid hr; clear hr
      have HKL := Lib.hid (List.getElem?_eq_some_iff.1 HX.out)
      have HD0 := Lib.hid d0; have HD1 := Lib.hid d1; have HG3 := Lib.hid g3
      clear e0 e1 e2 e3
      cases r with
      | true =>
        go_wp2_with (fail)
        refine wp_region_ext (by kernel_rfl) (by kernel_rfl) ?_
        repeat (go_big_quiet_step (first | (go_at_call 47; exact Calls.ext_of CE.out _ _)))
        refine wpQuiet_nil ?_
        intro w5 hE5
        go_wp2_with (fail)
        go_roundw
        case rel =>
          refine ⟨k + 1, _, l, by omega, by go_num, HHr.out.ext hE5, HR2.out.ext hE5, HB1.out.ext hE5, HB0.out.ext hE5, ⟨HC.out.own.ext hE5, HC.out.ext.trans hE5, HC.out.good⟩, ?_, ⟨_, _, _, rfl⟩⟩
          rw [HM.out, filter_snoc _ _ _ _ HX.out, HR.out]
          simp
        case measure => simp [intOf]; omega
      | false =>
        go_wp2_with (fail)
        refine wp_region_ext (by kernel_rfl) (by kernel_rfl) ?_
        repeat (go_big_quiet_step (first | (go_at_call 47; exact Calls.ext_of CE.out _ _)))
        refine wpQuiet_nil ?_
        intro w5 hE5
        clear k0 k1' k2' k3 k4 k5 k6
        have HEW := Lib.hid (HC.out.ext.trans hE5)
        have HO5 := Lib.hid (HC.out.own.ext hE5)
        have d0 := hE5.cell HD0.out
        have d1 := hE5.cell HD1.out
        have g3 := hE5.cell HG3.out
        have ld := World.block_lt_of_cell? _ _ d0
        have lg := World.block_lt_of_cell? _ _ g3
        have HHr5 := Lib.hid (HHr.out.ext hE5)
        have HR25 := Lib.hid (HR2.out.ext hE5)
        have HB15 := Lib.hid (HB1.out.ext hE5)
        have HB05 := Lib.hid (HB0.out.ext hE5)
        have m3 : w5.cell? ⟨H, 3, none⟩ = some (.slice Av nv cv) := HHr5.out.cell 3
        have lm := HHr5.out.lt
        clear hE5
        go_upto_region 6 with (fail)
        go_region_law (first
          | (refine step_append_outN rfl (.tmp 24) (.tmp 30) 24 rfl 64 i0 _ 2 40 Tryz.underlying24 hi0 hz0 hz1 hz2 rfl (by decide) encQE (fun _ => rfl) w (HEW.out.drew.alloc _) (.slice Av nv cv) l rfl (HO5.out.ext ((Ext.refl w5).drew.alloc _)) w5.heap.size 1 (.slice Aq nq cq, x) rfl (cells_new _ _ _ _ rfl) (by intro u hu; simp only [encQE, List.mem_cons, List.not_mem_nil, or_false] at hu; rcases hu with rfl | rfl <;> rfl) (by unfold maxLen; omega) (by omega) (l.length + 1) rfl ?_; intro g6 cap6 w6 hown6 hE6 hg6; have hH6 : Blk w6 H 26 #[.int .i64 0, nilS, nilS, .slice Av nv cv] := Blk.appended (HHr5.out.ext ((Ext.refl w5).drew.alloc _)) hg6 (HO5.out.ext ((Ext.refl w5).drew.alloc _)) (by decide); have hR6 : Blk w6 (G + 1 + 1) 26 #[.int .i64 0, nilS, nilS, nilS] := Blk.appended (HR25.out.ext ((Ext.refl w5).drew.alloc _)) hg6 (HO5.out.ext ((Ext.refl w5).drew.alloc _)) (by decide); have hB16 : Blk w6 (G + 1) 26 #[.int .i64 Nb, .slice B1 n2 k1, .slice B2 p2 k2, .slice Af nf cf] := Blk.appended (HB15.out.ext ((Ext.refl w5).drew.alloc _)) hg6 (HO5.out.ext ((Ext.refl w5).drew.alloc _)) (by decide); have hB06 : Blk w6 G 26 #[.int .i64 Na, .slice A1 n1 c1, .slice A2 p1 c2, .slice (some ⟨bx, ox, none⟩) n ce] := Blk.appended (HB05.out.ext ((Ext.refl w5).drew.alloc _)) hg6 (HO5.out.ext ((Ext.refl w5).drew.alloc _)) (by decide); have q60 : w6.cell? ⟨G, 3, none⟩ = some (.slice (some ⟨bx, ox, none⟩) n ce) := hB06.cell 3; have q61 := hE6.cell HC0.out; have q62 := hE6.cell HC1.out; have HS6 : Hid ((w6.setCell ⟨H, 3, none⟩ (.slice (some ⟨g6, 0, none⟩) (l.length + 1) cap6)).cell? ⟨G, 3, none⟩ = some (.slice (some ⟨bx, ox, none⟩) n ce) ∧ (w6.setCell ⟨H, 3, none⟩ (.slice (some ⟨g6, 0, none⟩) (l.length + 1) cap6)).cell? ⟨bx, ox + k * 2, none⟩ = some (.slice Aq nq cq) ∧ (w6.setCell ⟨H, 3, none⟩ (.slice (some ⟨g6, 0, none⟩) (l.length + 1) cap6)).cell? ⟨bx, ox + k * 2 + 1, none⟩ = some (encS x.2)) := Lib.hid ⟨(hB06.far (p := ⟨H, 3, none⟩) (by intro e; exact hH0 e.symm) _).cell 3, (hE6.setCell (p := ⟨H, 3, none⟩) (by show w.heap.size ≤ H; omega) _).cell HC0.out, (hE6.setCell (p := ⟨H, 3, none⟩) (by show w.heap.size ≤ H; omega) _).cell HC1.out⟩; have l6 := hH6.lt; have f6 := hH6.frozen 3; have m6 : w6.cell? ⟨H, 3, none⟩ = some (.slice Av nv cv) := hH6.cell 3; have HH6 := Lib.hid hH6; have HR6 := Lib.hid hR6; have HB16 := Lib.hid hB16; have HB06 := Lib.hid hB06; clear hH6 hR6 hB16 hB06 hg6; have HOWN6 := Lib.hid hown6; clear hown6; have HE6 := Lib.hid hE6; clear hE6))
        all_goals
          go_wp2_with (fail)
          go_roundw
          case rel =>
            refine ⟨k + 1, _, l ++ [(.slice Aq nq cq, x)], by omega, by go_num, HH6.out.set_ 3 _, HR6.out.far (p := ⟨H, 3, none⟩) (by intro e; exact hH2 e.symm) _, HB16.out.far (p := ⟨H, 3, none⟩) (by intro e; exact hH1 e.symm) _, HB06.out.far (p := ⟨H, 3, none⟩) (by intro e; exact hH0 e.symm) _, ⟨HOWN6.out.far (i := 3) HH6.out (by decide) _, HE6.out.setCell (p := ⟨H, 3, none⟩) (by show w.heap.size ≤ H; omega) _, fun p hp => ?_⟩, ?_, ⟨_, _, _, rfl⟩⟩
            · rcases List.mem_append.1 hp with hp | hp
              · exact HC.out.good p hp
              · rw [List.mem_singleton] at hp; rw [hp]; exact HGD.out
            · rw [List.map_append, HM.out, filter_snoc _ _ _ _ HX.out, HR.out]
              simp
          case measure => simp [intOf]; omega
    · have HMM : Hid (l.map (·.2) = sinceW a b) := Lib.hid (by rw [HM.out, List.take_of_length_le (by have := HL.out; omega)]; rfl)
      have lh := hh.lt
      have m0 : wr.cell? ⟨H, 0, none⟩ = some (.int .i64 0) := hh.cell 0
      have m1 : wr.cell? ⟨H, 1, none⟩ = some nilS := hh.cell 1
      have m2 : wr.cell? ⟨H, 2, none⟩ = some nilS := hh.cell 2
      have m3 : wr.cell? ⟨H, 3, none⟩ = some (.slice Av nv cv) := hh.cell 3
      have lg2 := hr2.lt
      have f0 := hr2.frozen 0
      have f1 := hr2.frozen 1
      have f2 := hr2.frozen 2
      have f3 := hr2.frozen 3
      have d0 : wr.cell? ⟨G + 1 + 1, 0, none⟩ = some (.int .i64 0) := hr2.cell 0
      have d1 : wr.cell? ⟨G + 1 + 1, 1, none⟩ = some nilS := hr2.cell 1
      have d2 : wr.cell? ⟨G + 1 + 1, 2, none⟩ = some nilS := hr2.cell 2
      have d3 : wr.cell? ⟨G + 1 + 1, 3, none⟩ = some nilS := hr2.cell 3
      clear hh hr2 hb1 hb0
      go_wp2_with (fail)
      obtain ⟨wz, hwz⟩ : ∃ wz, wz = ((((wr.setCell ⟨G + 1 + 1, 0, none⟩ (.int .i64 0)).setCell ⟨G + 1 + 1, 1, none⟩ nilS).setCell ⟨G + 1 + 1, 2, none⟩ nilS).setCell ⟨G + 1 + 1, 3, none⟩ (.slice Av nv cv)) := ⟨_, rfl⟩
      have hBz : Blk wz (G + 1 + 1) 26 #[.int .i64 0, nilS, nilS, .slice Av nv cv] := by rw [hwz]; exact HR2.out.store4 _ _ _ _
      have hEz : Ext w wz := by rw [hwz]; exact HC.out.ext.store4 (by omega) _ _ _ _
      have hRz : RdE wz (.slice Av nv cv) (sinceW a b) := by
        rw [hwz, ← HMM.out]
        exact HC.out.rd.store4 ⟨_, _, _, _, _, _, _, _, _, _, _, HR2.out⟩ _ _ _ _
      rw [← hwz]
      clear hwz d0 d1 d2 d3
      have d0 : wz.cell? ⟨G + 1 + 1, 0, none⟩ = some (.int .i64 0) := hBz.cell 0
      have d1 : wz.cell? ⟨G + 1 + 1, 1, none⟩ = some nilS := hBz.cell 1
      have d2 : wz.cell? ⟨G + 1 + 1, 2, none⟩ = some nilS := hBz.cell 2
      have d3 : wz.cell? ⟨G + 1 + 1, 3, none⟩ = some (.slice Av nv cv) := hBz.cell 3
      clear hBz
      refine bodyPost_ret (v := .agg #[.int .i64 0, nilS, nilS, .slice Av nv cv]) (by simp [results, Tryz.results24, go_sem, d0, d1, d2, d3]) rfl ?_
      exact ⟨_, rfl, hRz, hEz⟩

def coversW (ws vs : List En) : Bool := decide ((sinceW vs ws).length = 0)

set_option maxRecDepth 100000 in
set_option maxHeartbeats 1000000 in
theorem rcovers13_any (va vb : Value) (Na Nb : Int) (n1 p1 n2 p2 : Nat) (a b : List En) (w : World) (ha : RdV w va Na n1 p1 a) (hb : RdV w vb Nb n2 p2 b) (hlb : b.length ≤ 1048576) :
    Calls Tryz.prog 26 #[va, vb] w fun e w' => e = .returned (.bool (coversW a b)) ∧ Ext w w' := by
  have HCV := Lib.hid (fun W (hW : Ext w W) => rsince13_any vb va Nb Na n2 p2 n1 p1 b a W (hb.ext hW) (ha.ext hW) hlb)
  obtain ⟨A1, c1, A2, c2, ve, rfl, he⟩ := ha
  obtain ⟨B1, k1, B2, k2, vf, rfl, hf⟩ := hb
  obtain ⟨Ae, ne, ce, rfl⟩ := he.slice
  obtain ⟨Af, nf, cf, rfl⟩ := hf.slice
  clear he hf hlb
  have HE2 : Hid (Ext w ((w.alloc (.cells #[.int .i64 Na, .slice A1 n1 c1, .slice A2 p1 c2, .slice Ae ne ce] 26)).alloc (.cells #[.int .i64 Nb, .slice B1 n2 k1, .slice B2 p2 k2, .slice Af nf cf] 26))) := Lib.hid (((Ext.refl w).alloc _).alloc _)
  have hfld : ∀ (a b c d : Value) (w : World), (Instr.field 26 (.agg #[a, b, c, d]) 3).run Tryz.prog w = .ok d w := fun _ _ _ _ _ => by kernel_rfl
  go_enter Tryz.func26, Tryz.ntmps26
  go_wp2_with (go_at_call 24; refine (HCV.out _ HE2.out).mono ?_; rintro e w1 ⟨u, rfl, hu, hE1⟩; obtain ⟨A3, n3, c3, rfl, hln, -⟩ := hu; have HLN := Lib.hid hln; clear hln; have HE1 := Lib.hid (HE2.out.trans hE1); clear hE1)
  go_ret
  refine ⟨ret_bool ?_, HE1.out⟩
  unfold coversW
  rw [HLN.out, Bool.eq_iff_iff]
  simp
end Go.Proofs.YthldgioggjpnpaaGreat
