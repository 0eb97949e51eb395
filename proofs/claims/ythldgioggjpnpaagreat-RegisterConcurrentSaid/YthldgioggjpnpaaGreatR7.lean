/-
  Contracts: the description of registers is valid: lattice.Check.
-/
import Derived.Test.YthldgioggjpnpaaGreatR6
namespace Go.Proofs.YthldgioggjpnpaaGreat
open Go.RowKit

abbrev nilS : Value := .slice none 0 0
/-- the description of registers -/
abbrev latR : Value := .agg #[.int .i64 9, .int .i64 0, .int .i64 0, nilS, nilS, nilS]

set_option maxRecDepth 100000 in
set_option maxHeartbeats 1000000 in
theorem shapeR (w : World) : Calls Tryz.prog 115 #[latR] w fun e w' => e = .returned (.int .i64 0) ∧ Ext w w' := by
  go_enter Tryz.func115, Tryz.ntmps115
  go_wp2
  go_ret
  exact ⟨rfl, by first | exact (Ext.refl w).alloc _ | exact ((Ext.refl w).alloc _).drewN _⟩
set_option maxRecDepth 100000 in
set_option maxHeartbeats 1000000 in
theorem limitsR (w : World) : Calls Tryz.prog 117 #[latR] w fun e w' => e = .returned (.int .i64 0) ∧ Ext w w' := by
  go_enter Tryz.func117, Tryz.ntmps117
  go_wp2
  go_ret
  exact ⟨rfl, by first | exact (Ext.refl w).alloc _ | exact ((Ext.refl w).alloc _).drewN _⟩
set_option maxRecDepth 100000 in
set_option maxHeartbeats 1000000 in
theorem sortedNil (w : World) : Calls Tryz.prog 121 #[nilS] w fun e w' => e = .returned (.bool true) ∧ w = w' := by
  go_enter Tryz.func121, Tryz.ntmps121
  go_wp2
  go_loop [3] (fun i => i = .int .i64 1) (fun _ => 0)
  case atStart => exact rfl
  case round =>
    obtain rfl := hrel
    go_wp2
    go_ret
    exact ⟨rfl, rfl⟩
set_option maxRecDepth 100000 in
set_option maxHeartbeats 1000000 in
theorem spellingR (w : World) : Calls Tryz.prog 118 #[latR] w fun e w' => e = .returned (.int .i64 0) ∧ Ext w w' := by
  go_enter Tryz.func118, Tryz.ntmps118
  go_wp2
  obtain ⟨wa, hwa⟩ : ∃ wa, wa = w.alloc (.cells #[.int .i64 9, .int .i64 0, .int .i64 0, nilS, nilS, nilS] 46) := ⟨_, rfl⟩
  have hE : Ext w wa := by rw [hwa]; exact (Ext.refl w).alloc _
  have hB : Blk wa w.heap.size 46 #[.int .i64 9, .int .i64 0, .int .i64 0, nilS, nilS, nilS] := by rw [hwa]; exact Blk.new _ _ _
  have hlt := hB.lt
  have c0 := hB.cell 0
  have c3 := hB.cell 3
  have c5 := hB.cell 5
  simp at c0 c3 c5
  rw [← hwa]
  clear hB hwa
  generalize w.heap.size = B at *
  go_loopw [10] (fun i wr => i = .int .i64 0 ∧ wr = wa) (fun _ _ => 0)
  case atStart => exact ⟨rfl, rfl⟩
  case round =>
    obtain ⟨rfl, rfl⟩ := hrel
    go_wp2_with (go_at_call 121; refine (sortedNil _).mono ?_; rintro e w' ⟨rfl, rfl⟩)
    go_loopw [44] (fun i wq => i = .int .i64 0 ∧ wq = wr) (fun _ _ => 0)
    case atStart => exact ⟨rfl, rfl⟩
    case round =>
      obtain ⟨rfl, rfl⟩ := hrel
      go_wp2
      go_ret
      exact ⟨rfl, hE⟩
set_option maxRecDepth 100000 in
set_option maxHeartbeats 1000000 in
theorem rangesR (w : World) : Calls Tryz.prog 119 #[latR] w fun e w' => e = .returned (.int .i64 0) ∧ Ext w w' := by
  go_enter Tryz.func119, Tryz.ntmps119
  go_wp2
  go_ret
  exact ⟨rfl, by first | exact (Ext.refl w).alloc _ | exact ((Ext.refl w).alloc _).drewN _⟩
set_option maxRecDepth 100000 in
set_option maxHeartbeats 1000000 in
theorem chainsR (w : World) : Calls Tryz.prog 120 #[latR] w fun e w' => e = .returned (.int .i64 0) ∧ Ext w w' := by
  go_enter Tryz.func120, Tryz.ntmps120
  go_wp2
  go_ret
  exact ⟨rfl, by first | exact (Ext.refl w).alloc _ | exact ((Ext.refl w).alloc _).drewN _⟩

set_option maxRecDepth 100000 in
set_option maxHeartbeats 1000000 in
theorem orErr_any (v : Value) (l : List Int) (w : World) (h : Rd1 w encZ v l) (h0 : ∀ x ∈ l, x = 0) :
    Calls Tryz.prog 116 #[v] w fun e w' => e = .returned (.int .i64 0) ∧ w = w' := by
  obtain ⟨A, n, c, rfl, hl, hnc, hcm, hcell⟩ := h
  unfold maxLen at hcm
  have HL := Lib.hid hl; clear hl
  have HC := Lib.hid hcell; clear hcell
  have H0 := Lib.hid h0; clear h0
  go_enter Tryz.func116, Tryz.ntmps116
  go_wp2_with (fail)
  go_loop [8] (fun i => ∃ k : Nat, k ≤ n ∧ i = .int .i64 k) (fun i => n - (intOf i).toNat)
  case atStart => exact ⟨0, Nat.zero_le _, rfl⟩
  case round =>
    obtain ⟨k, hk, rfl⟩ := hrel
    by_cases hlt : k < n
    · obtain ⟨b, off, rfl, hb, hcc⟩ := HC.out (by omega)
      have hkl : k < l.length := by rw [HL.out]; exact hlt
      have hc1 := hcc k _ (List.getElem?_eq_getElem hkl)
      have hx := H0.out _ (List.getElem_mem hkl)
      rw [hx] at hc1
      clear hcc hx
      go_wp2_with (fail)
      go_round
      case rel => exact ⟨k + 1, by omega, by go_num⟩
      case measure => simp [intOf]; omega
    · go_wp2_with (fail)
      go_ret
      exact ⟨rfl, rfl⟩

theorem Rd1.new4 (w : World) (a b c d : Int) (t : TypeId) : Rd1 (w.alloc (.cells #[.int .i64 a, .int .i64 b, .int .i64 c, .int .i64 d] t)) encZ (.slice (some ⟨w.heap.size, 0, none⟩) 4 4) [a, b, c, d] :=
  ⟨_, _, _, rfl, rfl, Nat.le_refl _, by unfold maxLen; omega, fun _ => ⟨w.heap.size, 0, rfl, by simp, fun j y' hj => by
    rw [Nat.zero_add]
    have := cells_new w [.int .i64 a, .int .i64 b, .int .i64 c, .int .i64 d] t w.heap.size rfl j (encZ y') (by
      match j, hj with
      | 0, hj => simp at hj; simp [hj]
      | 1, hj => simp at hj; simp [hj]
      | 2, hj => simp at hj; simp [hj]
      | 3, hj => simp at hj; simp [hj]
      | j + 4, hj => simp at hj)
    exact this⟩⟩

set_option maxRecDepth 100000 in
set_option maxHeartbeats 2000000 in
theorem visitR (g : Nat) (w wB : World) (hEB : Ext wB w) (hgB : wB.heap.size ≤ g) (hc : w.cell? ⟨g, 0, none⟩ = some (.int .i64 0)) (hf : w.frozen? ⟨g, 0, none⟩ = false) :
    Calls Tryz.prog 81 #[.pointer (some ⟨g, 0, none⟩), latR, .int .i64 1] w fun e w' => e = .returned (.int .i64 0) ∧ Ext wB w' := by
  have hg : g < w.heap.size := World.block_lt_of_cell? _ _ hc
  have hne : g ≠ w.heap.size := by omega
  have HEB := Lib.hid hEB; clear hEB
  go_enter Tryz.func81, Tryz.ntmps81
  go_upto_region 4 with (fail)
  obtain ⟨wa, hwa⟩ : ∃ wa, wa = ((w.setCell ⟨g, 0, none⟩ (.int .i64 1)).alloc (.cells #[.int .i64 9, .int .i64 0, .int .i64 0, nilS, nilS, nilS] 46)) := ⟨_, rfl⟩
  have hE : Ext wB wa := by rw [hwa]; exact (HEB.out.setCell hgB _).alloc _
  have hB : Blk wa w.heap.size 46 #[.int .i64 9, .int .i64 0, .int .i64 0, nilS, nilS, nilS] := by rw [hwa]; exact Blk.new' _ _ _ _ (by simp)
  have hlt := hB.lt
  have c0 := hB.cell 0
  have c1 := hB.cell 1
  have c2 := hB.cell 2
  have c3 := hB.cell 3
  have c4 := hB.cell 4
  have c5 := hB.cell 5
  simp at c0 c1 c2 c3 c4 c5
  rw [← hwa]
  clear hB hwa hg hne hc hf HEB
  have HE := Lib.hid hE; clear hE
  generalize w.heap.size = B at *
  go_upto_region 7 with (go_at_call 115; refine (shapeR _).mono ?_; rintro e w1 ⟨rfl, hE1⟩; have d0 := hE1.cell c0; have d1 := hE1.cell c1; have d2 := hE1.cell c2; have d3 := hE1.cell c3; have d4 := hE1.cell c4; have d5 := hE1.cell c5; have HE1 := Lib.hid (HE.out.trans hE1); clear hE1 c0 c1 c2 c3 c4 c5 hlt)
  go_region_held3 (fun w' => w'.cell? ⟨B, 0, none⟩ = some (.int .i64 9) ∧ w'.cell? ⟨B, 1, none⟩ = some (.int .i64 0) ∧ w'.cell? ⟨B, 2, none⟩ = some (.int .i64 0) ∧ w'.cell? ⟨B, 3, none⟩ = some (nilS) ∧ w'.cell? ⟨B, 4, none⟩ = some (nilS) ∧ w'.cell? ⟨B, 5, none⟩ = some (nilS)) (first | exact ⟨d0, d1, d2, d3, d4, d5⟩ | exact ⟨HE5.out.cell d0, HE5.out.cell d1, HE5.out.cell d2, HE5.out.cell d3, HE5.out.cell d4, HE5.out.cell d5⟩ | exact ⟨HE4.out.cell d0, HE4.out.cell d1, HE4.out.cell d2, HE4.out.cell d3, HE4.out.cell d4, HE4.out.cell d5⟩ | exact ⟨HE3.out.cell d0, HE3.out.cell d1, HE3.out.cell d2, HE3.out.cell d3, HE3.out.cell d4, HE3.out.cell d5⟩ | exact ⟨HE2.out.cell d0, HE2.out.cell d1, HE2.out.cell d2, HE2.out.cell d3, HE2.out.cell d4, HE2.out.cell d5⟩ | go_keep) (first
    | (go_at_call 117; refine (limitsR _).mono ?_; rintro e w2 ⟨rfl, hE2⟩; have HE2 : Hid (Ext w1 w2) := Lib.hid ((Ext.refl w1).drew.trans hE2); clear hE2)
    | (go_at_call 118; refine (spellingR _).mono ?_; rintro e w3 ⟨rfl, hE3⟩; have HE3 : Hid (Ext w1 w3) := Lib.hid (HE2.out.trans hE3); clear hE3)
    | (go_at_call 119; refine (rangesR _).mono ?_; rintro e w4 ⟨rfl, hE4⟩; have HE4 : Hid (Ext w1 w4) := Lib.hid (HE3.out.trans hE4); clear hE4)
    | (go_at_call 120; refine (chainsR _).mono ?_; rintro e w5 ⟨rfl, hE5⟩; have HE5 : Hid (Ext w1 w5) := Lib.hid (HE4.out.trans hE5); clear hE5)
    | (go_at_call 116; refine (orErr_any _ [0, 0, 0, 0] _ (Rd1.new4 w5 0 0 0 0 29) (by simp)).mono ?_; rintro e w6 ⟨rfl, rfl⟩))
  all_goals
    have f4 := ((HE5.out.alloc (.cells #[.int .i64 0, .int .i64 0, .int .i64 0, .int .i64 0] 29))).cell d4
    have hlt5 : B < (w5.alloc (.cells #[.int .i64 0, .int .i64 0, .int .i64 0, .int .i64 0] 29)).heap.size := World.block_lt_of_cell? _ _ f4
    have HF := Lib.hid ((HE1.out.trans HE5.out).alloc (.cells #[.int .i64 0, .int .i64 0, .int .i64 0, .int .i64 0] 29))
    obtain ⟨w7, hw7⟩ : ∃ w7, w7 = w5.alloc (.cells #[.int .i64 0, .int .i64 0, .int .i64 0, .int .i64 0] 29) := ⟨_, rfl⟩
    rw [← hw7] at HF hlt5 f4 ⊢
    clear hw7
    go_wp2
    go_loopw [49] (fun i wr => i = .int .i64 0 ∧ wr = w7) (fun _ _ => 0)
    case atStart => exact ⟨rfl, rfl⟩
    case round =>
      obtain ⟨rfl, rfl⟩ := hrel
      go_wp2
      go_ret
      exact ⟨rfl, HF.out⟩

set_option maxRecDepth 100000 in
set_option maxHeartbeats 1000000 in
theorem checkR (w : World) : Calls Tryz.prog 52 #[latR] w fun e w' => e = .returned (.int .i64 0) ∧ Ext w w' := by
  go_enter Tryz.func52, Tryz.ntmps52
  go_wp2_with (fail)
  have hV := visitR (w.heap.size + 1) ((w.alloc (.cells #[.int .i64 9, .int .i64 0, .int .i64 0, nilS, nilS, nilS] 46)).alloc (.cells #[.int .i64 0] 106)) w (((Ext.refl w).alloc _).alloc _) (by omega) (by simp) ((Blk.new' (w.alloc (.cells #[.int .i64 9, .int .i64 0, .int .i64 0, nilS, nilS, nilS] 46)) 106 #[.int .i64 0] (w.heap.size + 1) (by simp)).frozen 0)
  refine hV.mono ?_
  rintro e w1 ⟨rfl, hE1⟩
  go_wp2_with (fail)
  go_ret
  exact ⟨rfl, hE1⟩
end Go.Proofs.YthldgioggjpnpaaGreat
