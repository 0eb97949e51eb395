/-
  Contracts: register.Conflict, covered, Covers; join.Join.
-/
import Derived.Test.YthldgioggjpnpaaGreatR19
namespace Go.Proofs.YthldgioggjpnpaaGreat
open Go.RowKit

set_option maxRecDepth 100000 in
set_option maxHeartbeats 1000000 in
theorem conflict_any (v : Value) (N : Int) (nn np : Nat) (es : List En) (w : World) (h : RdV w v N nn np es) (hl0 : es.length ≤ 1048576) :
    Calls Tryz.prog 22 #[v] w fun e w' => ∃ l, e = .returned (.bool (decide (1 < l.length))) ∧ NamesOf es l ∧ Ext w w' := by
  have H := Lib.hid (fun W (hW : Ext w W) => rnames_any v N nn np es W (h.ext hW) hl0)
  obtain ⟨An, cn, Ap, cp, ve, rfl, he⟩ := h
  obtain ⟨Ae, ne, ce, rfl⟩ := he.slice
  clear he
  go_enter Tryz.func22, Tryz.ntmps22
  go_wp2_with (go_at_call 18; refine (H.out _ ((Ext.refl w).alloc _)).mono ?_; rintro e w1 ⟨u, l, rfl, hn, hr, hE1⟩; have HN := Lib.hid hn; clear hn; obtain ⟨A, n, c, rfl, hl, -⟩ := hr; have HL := Lib.hid hl; clear hl; have HE1 := Lib.hid (((Ext.refl w).alloc _).trans hE1); clear hE1)
  go_ret
  refine ⟨l, ?_, HN.out, HE1.out⟩
  rw [HL.out]
  exact ret_bool (by rw [Bool.eq_iff_iff]; simp; omega)

set_option maxRecDepth 100000 in
set_option maxHeartbeats 1000000 in
theorem rcov1_any (qx qy : Value) (x y : En) (B : Nat) (w : World) (c0 : w.cell? ⟨B, 0, none⟩ = some qx) (c1 : w.cell? ⟨B, 1, none⟩ = some (encS x.2)) (hx : RdT w qx x.1) (hy : RdT w qy y.1) (gx : validT x.1 = true) (gy : validT y.1 = true) :
    Calls Tryz.prog 69 #[.agg #[qy, encS y.2], .pointer (some ⟨B, 0, none⟩)] w fun e w' => e = .returned (.bool (underE x y)) ∧ Ext w w' := by
  have hB : B < w.heap.size := World.block_lt_of_cell? _ _ c0
  have HU := Lib.hid (fun W (hW : Ext w W) => ccompare_any qx qy x.1 y.1 W (hx.ext hW) (hy.ext hW) gx gy)
  obtain ⟨Ax, nx, cx, rfl⟩ := hx.slice
  obtain ⟨Ay, ny, cy, rfl⟩ := hy.slice
  clear hx hy gx gy
  obtain ⟨r, hr⟩ : ∃ r, cmpT x.1 y.1 = r := ⟨_, rfl⟩
  have HUE : Hid (underE x y = if r = 1 then true else if r = 0 then x.2 == y.2 else false) := Lib.hid (by rw [underE, hr])
  rw [hr] at HU
  clear hr
  have hb0 : Blk (w.alloc (.cells #[.slice Ay ny cy, encS y.2] 64)) w.heap.size 64 #[.slice Ay ny cy, encS y.2] := Blk.new _ _ _
  have HB0 := Lib.hid hb0; clear hb0
  have HC1 := Lib.hid c1
  go_enter Tryz.func69, Tryz.ntmps69
  go_wp2_with (go_at_call 70; refine (HU.out _ ((Ext.refl w).alloc _)).mono ?_; rintro e w1 ⟨rfl, hE1⟩; have b1 := HB0.out.ext hE1; have d1 : w1.cell? ⟨w.heap.size, 1, none⟩ = some (encS y.2) := b1.cell 1; have l1 := b1.lt; have e1 := (((Ext.refl w).alloc (.cells #[.slice Ay ny cy, encS y.2] 64)).trans hE1).cell HC1.out; have l2 := World.block_lt_of_cell? _ _ e1; clear b1; have HE1 := Lib.hid (((Ext.refl w).alloc (.cells #[.slice Ay ny cy, encS y.2] 64)).trans hE1); clear hE1)
  all_goals (go_ret; refine ⟨ret_bool ?_, HE1.out⟩; rw [HUE.out])
  all_goals (by_cases r1 : r = 1 <;> by_cases r0 : r = 0 <;> simp_all)

set_option maxRecDepth 100000 in
set_option maxHeartbeats 1000000 in
theorem rcovered_any (v qx : Value) (N : Int) (nn np : Nat) (es : List En) (x : En) (w : World) (h : RdV w v N nn np es) (hx : RdT w qx x.1) (gx : validT x.1 = true) (gs : ∀ y ∈ es, validT y.1 = true) :
    Calls Tryz.prog 46 #[v, .agg #[qx, encS x.2]] w fun e w' => e = .returned (.bool (es.any (underE x))) ∧ Ext w w' := by
  obtain ⟨An, cn, Ap, cp, ve, rfl, he⟩ := h
  obtain ⟨w2, hw2⟩ : ∃ w2, w2 = (w.alloc (.cells #[.int .i64 N, .slice An nn cn, .slice Ap np cp, ve] 26)).alloc (.cells #[qx, encS x.2] 64) := ⟨_, rfl⟩
  have hE2 : Ext w w2 := by rw [hw2]; exact ((Ext.refl w).alloc _).alloc _
  have hB1 : Blk w2 w.heap.size 26 #[.int .i64 N, .slice An nn cn, .slice Ap np cp, ve] := by rw [hw2]; exact (Blk.new _ _ _).alloc _
  have hB2 : Blk w2 (w.heap.size + 1) 64 #[qx, encS x.2] := by rw [hw2]; exact Blk.new' _ _ _ _ (by simp)
  have l1 := hB1.lt
  have l2 := hB2.lt
  have a3 : w2.cell? ⟨w.heap.size, 3, none⟩ = some ve := hB1.cell 3
  have b0 : w2.cell? ⟨w.heap.size + 1, 0, none⟩ = some qx := hB2.cell 0
  have b1 : w2.cell? ⟨w.heap.size + 1, 1, none⟩ = some (encS x.2) := hB2.cell 1
  clear hB1 hB2
  have hP : PredE 69 #[.pointer (some ⟨w.heap.size + 1, 0, none⟩)] (underE x) es w2 :=
    ⟨fun _ _ => by kernel_rfl, fun W y q hE hm hq => rcov1_any qx q x y (w.heap.size + 1) W (hE.cell b0) (hE.cell b1) (hx.ext (hE2.trans hE)) hq gx (gs y hm)⟩
  have HC := Lib.hid (containsE_any ve es _ _ (underE x) w2 (he.ext hE2) hP)
  have HW2 := Lib.hid hw2; clear hw2
  obtain ⟨Ax, nx, cx, rfl⟩ := hx.slice
  obtain ⟨Ae, ne, ce, rfl⟩ := he.slice
  clear hx gx gs hP he b0 b1
  have HE2 := Lib.hid hE2; clear hE2
  generalize es.any (underE x) = r at *
  go_enter Tryz.func46, Tryz.ntmps46
  go_upto_region 1 with (fail)
  rw [← HW2.out]
  go_wp2_with (go_at_call 68; refine HC.out.mono ?_; rintro e w1 ⟨rfl, hE1⟩; have HE1 := Lib.hid (HE2.out.trans hE1); clear hE1)
  go_ret
  exact ⟨rfl, HE1.out⟩

def coversB (ws vs : List En) : Bool := vs.all (fun x => ws.any (underE x))

set_option maxRecDepth 100000 in
set_option maxHeartbeats 2000000 in
theorem covers_any (va vb : Value) (Na Nb : Int) (n1 p1 n2 p2 : Nat) (a b : List En) (w : World) (ha : RdV w va Na n1 p1 a) (hb : RdV w vb Nb n2 p2 b) (ga : ∀ x ∈ a, validT x.1 = true) (gb : ∀ x ∈ b, validT x.1 = true) :
    Calls Tryz.prog 25 #[va, vb] w fun e w' => e = .returned (.bool (coversB a b)) ∧ Ext w w' := by
  have HCV := Lib.hid (fun W (hW : Ext w W) (x : En) (q : Value) (hq : RdT W q x.1) (gx : validT x.1 = true) => rcovered_any va q Na n1 p1 a x W (ha.ext hW) hq gx ga)
  obtain ⟨A1, c1, A2, c2, ve, rfl, he⟩ := ha
  obtain ⟨B1, k1, B2, k2, vf, rfl, hf⟩ := hb
  obtain ⟨Ae, ne, ce, rfl⟩ := he.slice
  have HF := Lib.hid hf
  obtain ⟨Af, n, cf, rfl, hl, hnc, hcm, -⟩ := hf
  unfold maxLen at hcm
  have HL := Lib.hid hl; clear hl
  have HGB := Lib.hid gb; clear gb ga he
  go_enter Tryz.func25, Tryz.ntmps25
  go_upto_region 1 with (fail)
  obtain ⟨w2, hw2⟩ : ∃ w2, w2 = (w.alloc (.cells #[.int .i64 Na, .slice A1 n1 c1, .slice A2 p1 c2, .slice Ae ne ce] 26)).alloc (.cells #[.int .i64 Nb, .slice B1 n2 k1, .slice B2 p2 k2, .slice Af n cf] 26) := ⟨_, rfl⟩
  have hE2 : Ext w w2 := by rw [hw2]; exact ((Ext.refl w).alloc _).alloc _
  have hB1 : Blk w2 w.heap.size 26 #[.int .i64 Na, .slice A1 n1 c1, .slice A2 p1 c2, .slice Ae ne ce] := by rw [hw2]; exact (Blk.new _ _ _).alloc _
  have hB2 : Blk w2 (w.heap.size + 1) 26 #[.int .i64 Nb, .slice B1 n2 k1, .slice B2 p2 k2, .slice Af n cf] := by rw [hw2]; exact Blk.new' _ _ _ _ (by simp)
  have l2 := hB2.lt
  have b3 : w2.cell? ⟨w.heap.size + 1, 3, none⟩ = some (.slice Af n cf) := hB2.cell 3
  rw [← hw2]
  clear hw2
  have HB1 := Lib.hid hB1; clear hB1 hB2
  generalize w.heap.size = G at *
  have HE2 := Lib.hid hE2; clear hE2
  go_wp2_with (fail)
  go_loopw [10] (fun i wr => ∃ k : Nat, k ≤ n ∧ i = .int .i64 k ∧ (b.take k).all (fun x => a.any (underE x)) = true ∧ Ext w2 wr) (fun i _ => n - (intOf i).toNat)
  case atStart => exact ⟨0, Nat.zero_le _, rfl, by simp, Ext.refl _⟩
  case round =>
    obtain ⟨k, hk, rfl, hall, hE⟩ := hrel
    have HALL := Lib.hid hall; clear hall
    have HE := Lib.hid hE; clear hE
    by_cases hlt : k < n
    · obtain ⟨b1, o1, x, q, rfl, hb1, hx, d0, d1, hq, hnl⟩ := RdE.at_ (HF.out.ext (HE2.out.trans HE.out)) hlt
      have HX := Lib.hid hx
      have hgx := HGB.out x (List.mem_of_getElem? hx)
      clear hx hnl
      have hal := (Ext.refl wr).alloc (.cells #[q, encS x.2] 64)
      have HCC := Lib.hid (HCV.out _ ((HE2.out.trans HE.out).trans hal) x q (hq.ext hal) hgx)
      have HE4 := Lib.hid (HE.out.trans hal)
      obtain ⟨Aq, nq, cq, rfl⟩ := hq.slice
      have hBr := HB1.out.ext HE.out
      have g0 : wr.cell? ⟨G, 0, none⟩ = some (.int .i64 Na) := hBr.cell 0
      have g1 : wr.cell? ⟨G, 1, none⟩ = some (.slice A1 n1 c1) := hBr.cell 1
      have g2 : wr.cell? ⟨G, 2, none⟩ = some (.slice A2 p1 c2) := hBr.cell 2
      have g3 : wr.cell? ⟨G, 3, none⟩ = some (.slice Ae ne ce) := hBr.cell 3
      have lg := hBr.lt
      clear hal hq hgx hBr
      have hbw2 : b1 < (wr.alloc (.cells #[.slice none 0 0, .string ⟨#[]⟩] 64)).heap.size := by simp; omega
      cases hr : a.any (underE x) with
      | true =>
        rw [hr] at HCC
        have HR := Lib.hid hr; clear hr
        go_wp2_with (go_at_call 46; refine HCC.out.mono ?_; rintro e w5 ⟨rfl, hE5⟩; have HE5 := Lib.hid (HE4.out.trans hE5); clear hE5)
        go_roundw
        case rel =>
          refine ⟨k + 1, by omega, by go_num, ?_, HE5.out⟩
          obtain ⟨hkl, hke⟩ := List.getElem?_eq_some_iff.1 HX.out
          rw [List.take_succ_eq_append_getElem hkl, hke, List.all_append, HALL.out]
          simp [HR.out]
        case measure => simp [intOf]; omega
      | false =>
        rw [hr] at HCC
        have HR := Lib.hid hr; clear hr
        go_wp2_with (go_at_call 46; refine HCC.out.mono ?_; rintro e w5 ⟨rfl, hE5⟩; have HE5 := Lib.hid (HE4.out.trans hE5); clear hE5)
        go_ret
        refine ⟨ret_bool ?_, HE2.out.trans HE5.out⟩
        symm
        unfold coversB
        rw [List.all_eq_false]
        exact ⟨x, List.mem_of_getElem? HX.out, by rw [HR.out]; simp⟩
    · go_wp2_with (fail)
      go_ret
      refine ⟨ret_bool ?_, HE2.out.trans HE.out⟩
      have := HALL.out
      rw [List.take_of_length_le (by have := HL.out; omega)] at this
      exact this.symm
end Go.Proofs.YthldgioggjpnpaaGreat
