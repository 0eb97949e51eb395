/-
  Contract: join.copied at a value with entries alone.
-/
import Derived.Test.YthldgioggjpnpaaGreatR14
import Derived.Test.YthldgioggjpnpaaGreatRF
namespace Go.Proofs.YthldgioggjpnpaaGreat
open Go.RowKit

theorem cloneSNil (w : World) : Calls Tryz.prog 109 #[nilS] w fun e w' => e = .returned nilS ∧ w = w' := by
  have heq : ∀ w, (binOp .eql 22 (.slice none 0 0) (.slice none 0 0)).run Tryz.prog w = .ok (.bool (none : Option Addr).isNone) w := fun w => Lib.run_eql_slice_nil w 22 9 none 0 0 0 0 Tryz.underlying22
  go_enter Tryz.func109, Tryz.ntmps109
  go_wp2_with (fail)
  go_ret
  exact ⟨rfl, rfl⟩

theorem OwnN.appendedN {α β : Type} {w w' : World} {base0 : Nat} {t : TypeId} {k0 : Nat} {enc : α → List Value} {v0 : Value} {l : List α} {base : Nat} {e : TypeId} {k : Nat} {enc' : β → List Value} {v : Value} {xs : List β} (h : OwnN w base0 t k0 enc v0 l) (hg : w.grownBy w' v.ownBlock)
    (hown : OwnN w base e k enc' v xs) (hne : e ≠ t) : OwnN w' base0 t k0 enc v0 l := by
  refine World.ownsRow.kept h hg ?_
  rcases h.2 with ⟨rfl, _⟩ | ⟨g, cap, cur, rfl, _, hh, _⟩
  · exact .inl rfl
  · exact .inr fun he => own_blk_ne hown (g := g) (t := t) (cs := cur) hh hne he.symm

/-- the copy so far: entries whose clocks are rows of the call's own -/
structure CopyE (w0 w : World) (v : Value) (l : List QE) : Prop where
  own : OwnN w w0.heap.size 64 2 encQE v l
  cl : ∀ p ∈ l, (∃ A n c, p.1 = .slice A n c) ∧ OwnN w w0.heap.size 40 2 encT p.1 p.2.1 ∧ p.2.2.length ≤ maxLen
theorem CopyE.ext {w0 w w' : World} {v : Value} {l : List QE} (h : CopyE w0 w v l) (he : Ext w w') : CopyE w0 w' v l := ⟨h.own.ext he, fun p hp => ⟨(h.cl p hp).1, (h.cl p hp).2.1.ext he, (h.cl p hp).2.2⟩⟩
theorem CopyE.far {w0 w : World} {v : Value} {l : List QE} (h : CopyE w0 w v l) {g i : Nat} {cs : Array Value} (hb : Blk w g 26 cs) (u : Value) : CopyE w0 (w.setCell ⟨g, i, none⟩ u) v l :=
  ⟨h.own.far hb (by decide) u, fun p hp => ⟨(h.cl p hp).1, (h.cl p hp).2.1.far hb (by decide) u, (h.cl p hp).2.2⟩⟩
theorem CopyE.rd {w0 w : World} {v : Value} {l : List QE} (h : CopyE w0 w v l) : RdE w v (l.map (·.2)) := by
  obtain ⟨A, n, c, hv, hl, h1, h2, h3⟩ := h.own.rd (fun _ => rfl)
  refine ⟨A, n, c, hv, by simpa using hl, h1, h2, fun hn => ?_⟩
  obtain ⟨b, hA, hb, hc⟩ := h3 hn
  refine ⟨b, 0, hA, hb, fun j e hj => ?_⟩
  rw [List.getElem?_map] at hj
  cases hp : l[j]? with
  | none => rw [hp] at hj; cases hj
  | some p =>
    rw [hp] at hj
    cases hj
    have hg := h.cl p (List.mem_of_getElem? hp)
    refine ⟨p.1, ?_, ?_, hg.2.1.rdN (fun _ => rfl), hg.2.2⟩
    · simpa using hc j p hp 0 _ rfl
    · simpa [Nat.add_assoc] using hc j p hp 1 _ rfl

set_option maxRecDepth 100000 in
set_option maxHeartbeats 4000000 in
theorem copied_any (ve : Value) (es : List En) (w : World) (he : RdE w ve es) (hl0 : es.length ≤ 1048576) (hc0 : ∀ x ∈ es, x.1.length ≤ 1048576) :
    Calls Tryz.prog 75 #[.agg #[.int .i64 0, nilS, nilS, ve]] w fun e w' => ∃ v, e = .returned (.agg #[.int .i64 0, nilS, nilS, v]) ∧ RdE w' v es ∧ Ext w w' := by
  obtain ⟨i0, hi0, hz0, hz1, hz2⟩ := info_parts infEn
  have H := Lib.hid he
  obtain ⟨Ae, n, ce, rfl, hl, hnc, hcm, -⟩ := he
  unfold maxLen at hcm
  have hn0 : n ≤ 1048576 := by omega
  have HL := Lib.hid hl; clear hl hl0
  have HC0 := Lib.hid hc0; clear hc0
  go_enter Tryz.func75, Tryz.ntmps75
  go_upto_region 1 with (fail)
  obtain ⟨w2, hw2⟩ : ∃ w2, w2 = (w.alloc (.cells #[.int .i64 0, nilS, nilS, .slice Ae n ce] 26)).alloc (.cells #[.int .i64 0, nilS, nilS, nilS] 26) := ⟨_, rfl⟩
  have hE2 : Ext w w2 := by rw [hw2]; exact ((Ext.refl w).alloc _).alloc _
  have hB1 : Blk w2 w.heap.size 26 #[.int .i64 0, nilS, nilS, .slice Ae n ce] := by rw [hw2]; exact (Blk.new w _ _).alloc _
  have hB2 : Blk w2 (w.heap.size + 1) 26 #[.int .i64 0, nilS, nilS, nilS] := by rw [hw2]; exact Blk.new' _ _ _ _ (by simp)
  have l1 := hB1.lt
  have l2 := hB2.lt
  have a0 : w2.cell? ⟨w.heap.size, 0, none⟩ = some (.int .i64 0) := hB1.cell 0
  have a1 : w2.cell? ⟨w.heap.size, 1, none⟩ = some nilS := hB1.cell 1
  have a2 : w2.cell? ⟨w.heap.size, 2, none⟩ = some nilS := hB1.cell 2
  have a3 : w2.cell? ⟨w.heap.size, 3, none⟩ = some (.slice Ae n ce) := hB1.cell 3
  rw [← hw2]
  clear hw2 hB1
  have HB2 := Lib.hid hB2; clear hB2
  have hgs : w.heap.size ≤ w.heap.size + 1 := by omega
  generalize hG : w.heap.size = G at *
  have HE2 := Lib.hid hE2; clear hE2
  go_cut [3] (fun v3 wx => v3 = .pointer (some ⟨w2.heap.size, 0, none⟩) ∧ wx = (w2.alloc (.cells #[.int .i64 0, nilS, nilS, nilS] 26)).drew)
  case first =>
    go_region_held3 (fun w' => w'.cell? ⟨G, 0, none⟩ = some (.int .i64 0) ∧ w'.cell? ⟨G, 1, none⟩ = some nilS) (first | exact ⟨a0, a1⟩ | go_keep) (first
      | (go_at_call 109; refine (cloneSNil _).mono ?_; rintro e w1 ⟨rfl, rfl⟩))
    all_goals
      go_wp2_with (fail)
      go_meet
      case rel => exact ⟨rfl, rfl⟩
  case rest =>
    obtain ⟨rfl, rfl⟩ := hcut
    obtain ⟨w3, hw3⟩ : ∃ w3, w3 = (w2.alloc (.cells #[.int .i64 0, nilS, nilS, nilS] 26)).drew := ⟨_, rfl⟩
    have hE23 : Ext w2 w3 := by rw [hw3]; exact ((Ext.refl w2).alloc _).drew
    have hB3 : Blk w3 w2.heap.size 26 #[.int .i64 0, nilS, nilS, nilS] := by rw [hw3]; exact (Blk.new w2 _ _).drew
    have hne : w2.heap.size ≠ G + 1 := by have := HB2.out.lt; omega
    have hH3 : G ≤ w2.heap.size := by omega
    rw [← hw3]
    clear hw3
    have a2' := hE23.cell a2
    have a3' := hE23.cell a3
    have lg := Nat.lt_of_lt_of_le l1 hE23.size
    have HB2' := Lib.hid (HB2.out.ext hE23)
    have HB3 := Lib.hid hB3
    have HE3 := Lib.hid (HE2.out.trans hE23)
    clear hE23 hB3 a0 a1 a2 a3
    generalize w2.heap.size = H3 at *
    go_wp2_with (fail)
    go_loopw [17] (fun i wr => i = .int .i64 0 ∧ wr = w3) (fun _ _ => 0)
    case atStart => exact ⟨rfl, rfl⟩
    case round =>
      obtain ⟨rfl, rfl⟩ := hrel
      go_wp2_with (fail)
      go_loopw [32] (fun i wq => ∃ (k : Nat) (v : Value) (l : List QE), k ≤ n ∧ i = .int .i64 k ∧ Blk wq H3 26 #[.int .i64 0, nilS, nilS, v] ∧ Blk wq (G + 1) 26 #[.int .i64 0, nilS, nilS, nilS] ∧ CopyE w wq v l ∧ l.map (·.2) = es.take k ∧ Ext w wq ∧ (∃ A m c, v = .slice A m c)) (fun i _ => n - (intOf i).toNat)
      case atStart => exact ⟨0, nilS, [], Nat.zero_le _, rfl, HB3.out, HB2'.out, ⟨OwnN.nil _ _ _ _ _, by simp⟩, by simp, HE3.out, ⟨_, _, _, rfl⟩⟩
      case round =>
        obtain ⟨k, v, l, hk, rfl, hb3, hb2, hC, hm, hE, hv⟩ := hrel
        obtain ⟨Av, nv, cv, rfl⟩ := hv
        have HM := Lib.hid hm; clear hm
        have HC := Lib.hid hC; clear hC
        have HE := Lib.hid hE; clear hE
        by_cases hlt : k < n
        · obtain ⟨b1, o1, x, q, rfl, hb1, hx, c0, c1, hq, hnl⟩ := RdE.at_ H.out hlt
          have HX := Lib.hid hx
          have hxl := HC0.out x (List.mem_of_getElem? hx)
          clear hx
          obtain ⟨Aq, nq, cq, rfl⟩ := hq.slice
          have HQ := Lib.hid hq; clear hq
          have HNL := Lib.hid hnl; clear hnl
          have c0 := HE.out.cell c0
          have c1 := HE.out.cell c1
          have hbw : b1 < wr.heap.size := World.block_lt_of_cell? _ _ c0
          have hbw2 : b1 < (wr.alloc (.cells #[.slice none 0 0, .string ⟨#[]⟩] 64)).heap.size := by simp; omega
          have hll : l.length = k := by
            have h1 : (l.map (·.2)).length = k := by rw [HM.out]; simp; have := HL.out; omega
            simpa using h1
          have HLL := Lib.hid hll; clear hll
          go_upto_region 10 with (fail)
          obtain ⟨w4, hw4⟩ : ∃ w4, w4 = wr.alloc (.cells #[.slice Aq nq cq, encS x.2] 64) := ⟨_, rfl⟩
          have hE4 : Ext wr w4 := by rw [hw4]; exact (Ext.refl wr).alloc _
          have hBE : Blk w4 wr.heap.size 64 #[.slice Aq nq cq, encS x.2] := by rw [hw4]; exact Blk.new _ _ _
          rw [← hw4]
          clear hw4
          have e0 : w4.cell? ⟨wr.heap.size, 0, none⟩ = some (.slice Aq nq cq) := hBE.cell 0
          have e1 : w4.cell? ⟨wr.heap.size, 1, none⟩ = some (encS x.2) := hBE.cell 1
          have le := hBE.lt
          have HB34 := Lib.hid (hb3.ext hE4)
          have HB24 := Lib.hid (hb2.ext hE4)
          have m3 : w4.cell? ⟨H3, 3, none⟩ = some (.slice Av nv cv) := HB34.out.cell 3
          have lh := HB34.out.lt
          have HC4 := Lib.hid (HC.out.ext hE4)
          have HEW := Lib.hid (HE.out.trans hE4)
          clear hE4 hBE c0 c1 hbw hbw2
          have HNE : Hid (some wr.heap.size ≠ (Value.slice Av nv cv).ownBlock) := Lib.hid (fun h => by have := (World.ownsRow.lt HC.out.own wr.heap.size h.symm).2; omega)
          have hHE : H3 ≠ wr.heap.size := by have := hb3.lt; omega
          clear hb3 hb2
          generalize wr.heap.size = E at *
          have hkn : k + 1 ≤ 1048576 := by omega
          have hrun : ∀ (args : Array Value) (w : World), (callFunc 110 args).run Tryz.prog w = .ok (.enter 110 args) w := fun _ _ => by kernel_rfl
          go_region_law (first
            | (refine step_fn rfl 110 [.tmp 39] #[37] rfl hrun [.slice Aq nq cq] rfl (fun v w' => OwnN w' w4.drew.heap.size 40 2 encT v x.1 ∧ Ext w4.drew w') ((cloneT_any _ x.1 _ (HQ.out.ext HEW.out.drew) hxl).mono fun e w' ⟨v', he, ho, hE⟩ => ⟨v', he, ho, hE⟩) ?_; intro v5 w5 hp5; obtain ⟨A5, c5, rfl⟩ := hp5.1.form; have hE5 : Ext w4 w5 := (Ext.refl w4).drew.trans hp5.2; have e1' := hE5.cell e1; have m3' := hE5.cell m3; have le5 := Nat.lt_of_lt_of_le le hE5.size; have lh5 := Nat.lt_of_lt_of_le lh hE5.size; have HO5 := Lib.hid hp5.1; have HE5 := Lib.hid hE5; clear hp5 hE5)
            | (refine step_append_outN rfl (.tmp 37) (.tmp 44) 24 rfl 64 i0 _ 2 40 Tryz.underlying24 hi0 hz0 hz1 hz2 rfl (by decide) encQE (fun _ => rfl) w ((HEW.out.trans HE5.out).alloc _) (.slice Av nv cv) l rfl (HC4.out.own.ext (HE5.out.alloc _)) w5.heap.size 1 (.slice A5 x.1.length c5, x) rfl (cells_new _ _ _ _ rfl) (by intro u hu; simp only [encQE, List.mem_cons, List.not_mem_nil, or_false] at hu; rcases hu with rfl | rfl <;> rfl) (by rw [HLL.out]; unfold maxLen; omega) (by rw [HLL.out]; omega) (k + 1) (by rw [HLL.out]) ?_; intro g6 cap6 w6 hown6 hE6 hg6; have hB6 : Blk w6 H3 26 #[.int .i64 0, nilS, nilS, .slice Av nv cv] := Blk.appended (HB34.out.ext (HE5.out.alloc _)) hg6 (HC4.out.own.ext (HE5.out.alloc _)) (by decide); have hB26 : Blk w6 (G + 1) 26 #[.int .i64 0, nilS, nilS, nilS] := Blk.appended (HB24.out.ext (HE5.out.alloc _)) hg6 (HC4.out.own.ext (HE5.out.alloc _)) (by decide); have HG6 := Lib.hid hg6; have hb60 := hg6.block E (Nat.lt_of_lt_of_le le5 ((Ext.refl w5).alloc (.cells #[.slice A5 x.1.length c5, encS x.2] 64)).size) HNE.out; clear hg6; have q60 : w6.cell? ⟨E, 0, none⟩ = some (.slice Aq nq cq) := (World.cell?_of_block hb60).trans ((HE5.out.alloc _).cell e0); have q61 : w6.cell? ⟨E, 1, none⟩ = some (encS x.2) := (World.cell?_of_block hb60).trans ((HE5.out.alloc _).cell e1); clear hb60; have l6 := hB6.lt; have f6 := hB6.frozen 3; have m6 : w6.cell? ⟨H3, 3, none⟩ = some (.slice Av nv cv) := hB6.cell 3; have HB6 := Lib.hid hB6; have HB26 := Lib.hid hB26; clear hB6 hB26; have HOWN6 := Lib.hid hown6; clear hown6; have HE6 := Lib.hid hE6; clear hE6))
          all_goals
            go_wp2_with (fail)
            go_roundw
            case rel =>
              have hro := HC4.out.own.ext (HE5.out.alloc (.cells #[.slice A5 x.1.length c5, encS x.2] 64))
              have hC6 : CopyE w w6 (.slice (some ⟨g6, 0, none⟩) (k + 1) cap6) (l ++ [(.slice A5 x.1.length c5, x)]) := ⟨HOWN6.out, fun p hp => by
                rcases List.mem_append.1 hp with hp | hp
                · have hcl := HC4.out.cl p hp
                  exact ⟨hcl.1, OwnN.appendedN (hcl.2.1.ext (HE5.out.alloc _)) HG6.out hro (by decide), hcl.2.2⟩
                · rw [List.mem_singleton] at hp
                  rw [hp]
                  exact ⟨⟨_, _, _, rfl⟩, OwnN.appendedN ((HO5.out.up HEW.out.size).ext ((Ext.refl w5).alloc _)) HG6.out hro (by decide), HNL.out⟩⟩
              refine ⟨k + 1, _, _, by omega, by go_num, HB6.out.set_ 3 _, HB26.out.far (p := ⟨H3, 3, none⟩) (by intro e; exact hne e.symm) _, hC6.far (i := 3) HB6.out _, ?_, HE6.out.setCell (p := ⟨H3, 3, none⟩) (by show w.heap.size ≤ H3; omega) _, ⟨_, _, _, rfl⟩⟩
              obtain ⟨hkl, hke⟩ := List.getElem?_eq_some_iff.1 HX.out
              rw [List.map_append, HM.out, List.take_succ_eq_append_getElem hkl, hke]
              rfl
            case measure => simp [intOf]; omega
        · have hll : l.length = n := by
            have h1 : (l.map (·.2)).length = n := by rw [HM.out]; simp; have := HL.out; omega
            simpa using h1
          have HMM : Hid (l.map (·.2) = es) := Lib.hid (by rw [HM.out, List.take_of_length_le (by have := HL.out; omega)])
          have HB3r := Lib.hid hb3
          have HB2r := Lib.hid hb2
          have lh := hb3.lt
          have m0 : wr.cell? ⟨H3, 0, none⟩ = some (.int .i64 0) := hb3.cell 0
          have m1 : wr.cell? ⟨H3, 1, none⟩ = some nilS := hb3.cell 1
          have m2 : wr.cell? ⟨H3, 2, none⟩ = some nilS := hb3.cell 2
          have m3 : wr.cell? ⟨H3, 3, none⟩ = some (.slice Av nv cv) := hb3.cell 3
          have lg2 := hb2.lt
          have f0 := hb2.frozen 0
          have f1 := hb2.frozen 1
          have f2 := hb2.frozen 2
          have f3 := hb2.frozen 3
          have p0 : wr.cell? ⟨G + 1, 0, none⟩ = some (.int .i64 0) := hb2.cell 0
          have p1 : wr.cell? ⟨G + 1, 1, none⟩ = some nilS := hb2.cell 1
          have p2 : wr.cell? ⟨G + 1, 2, none⟩ = some nilS := hb2.cell 2
          have p3 : wr.cell? ⟨G + 1, 3, none⟩ = some nilS := hb2.cell 3
          clear hb3 hb2
          go_wp2_with (fail)
          obtain ⟨wz, hwz⟩ : ∃ wz, wz = ((((wr.setCell ⟨G + 1, 0, none⟩ (.int .i64 0)).setCell ⟨G + 1, 1, none⟩ nilS).setCell ⟨G + 1, 2, none⟩ nilS).setCell ⟨G + 1, 3, none⟩ (.slice Av nv cv)) := ⟨_, rfl⟩
          have hBz : Blk wz (G + 1) 26 #[.int .i64 0, nilS, nilS, .slice Av nv cv] := by rw [hwz]; exact HB2r.out.store4 _ _ _ _
          have hEz : Ext w wz := by rw [hwz]; exact HE.out.store4 (by omega) _ _ _ _
          have hRz : RdE wz (.slice Av nv cv) es := by
            rw [hwz, ← HMM.out]
            exact HC.out.rd.store4 ⟨_, _, _, _, _, _, _, _, _, _, _, HB2r.out⟩ _ _ _ _
          rw [← hwz]
          clear hwz p0 p1 p2 p3
          have d0 : wz.cell? ⟨G + 1, 0, none⟩ = some (.int .i64 0) := hBz.cell 0
          have d1 : wz.cell? ⟨G + 1, 1, none⟩ = some nilS := hBz.cell 1
          have d2 : wz.cell? ⟨G + 1, 2, none⟩ = some nilS := hBz.cell 2
          have d3 : wz.cell? ⟨G + 1, 3, none⟩ = some (.slice Av nv cv) := hBz.cell 3
          clear hBz
          refine bodyPost_ret (v := .agg #[.int .i64 0, nilS, nilS, .slice Av nv cv]) (by simp [results, Tryz.results75, go_sem, d0, d1, d2, d3]) rfl ?_
          exact ⟨_, rfl, hRz, hEz⟩
end Go.Proofs.YthldgioggjpnpaaGreat
