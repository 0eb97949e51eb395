/-
  Contracts: the reference's Check at the description of registers.
-/
import Derived.Test.YthldgioggjpnpaaGreatS2
namespace Go.Proofs.YthldgioggjpnpaaGreat
open Go.RowKit

set_option maxRecDepth 100000 in
set_option maxHeartbeats 1000000 in
theorem risingNil (w : World) : Calls Tryz.prog 189 #[nilS] w fun e w' => e = .returned (.bool true) ∧ w = w' := by
  go_enter Tryz.func189, Tryz.ntmps189
  go_wp2
  go_loop [3] (fun i => i = .int .i64 0) (fun _ => 0)
  case atStart => exact rfl
  case round =>
    obtain rfl := hrel
    go_wp2
    go_ret
    exact ⟨rfl, rfl⟩
set_option maxRecDepth 100000 in
set_option maxHeartbeats 1000000 in
theorem rshapeR (w : World) : Calls Tryz.prog 170 #[latR] w fun e w' => e = .returned (.bool true) ∧ Ext w w' := by
  go_enter Tryz.func170, Tryz.ntmps170
  go_wp2
  go_ret
  exact ⟨rfl, by first | exact (Ext.refl w).alloc _ | exact ((Ext.refl w).alloc _).drewN _⟩
set_option maxRecDepth 100000 in
set_option maxHeartbeats 1000000 in
theorem namedR (w : World) : Calls Tryz.prog 171 #[latR] w fun e w' => e = .returned (.bool true) ∧ Ext w w' := by
  go_enter Tryz.func171, Tryz.ntmps171
  go_wp2_with (go_at_call 189; refine (risingNil _).mono ?_; rintro e w' ⟨rfl, rfl⟩)
  obtain ⟨wa, hwa⟩ : ∃ wa, wa = w.alloc (.cells #[.int .i64 9, .int .i64 0, .int .i64 0, nilS, nilS, nilS] 46) := ⟨_, rfl⟩
  have hE : Ext w wa := by rw [hwa]; exact (Ext.refl w).alloc _
  have hB : Blk wa w.heap.size 46 #[.int .i64 9, .int .i64 0, .int .i64 0, nilS, nilS, nilS] := by rw [hwa]; exact Blk.new _ _ _
  have hlt := hB.lt
  have c5 := hB.cell 5
  simp at c5
  rw [← hwa]
  clear hB hwa
  generalize w.heap.size = B at *
  go_loopw [4] (fun i wr => i = .int .i64 0 ∧ wr = wa) (fun _ _ => 0)
  case atStart => exact ⟨rfl, rfl⟩
  case round =>
    obtain ⟨rfl, rfl⟩ := hrel
    go_wp2
    go_ret
    exact ⟨rfl, hE⟩
set_option maxRecDepth 100000 in
set_option maxHeartbeats 1000000 in
theorem rnodeR (w : World) : Calls Tryz.prog 154 #[latR, .int .i64 1, .int .i64 0] w fun e w' => e = .returned (.int .i64 0) ∧ Ext w w' := by
  have hB1 : Blk (w.alloc (.cells #[.int .i64 9, .int .i64 0, .int .i64 0, nilS, nilS, nilS] 46)) w.heap.size 46 #[.int .i64 9, .int .i64 0, .int .i64 0, nilS, nilS, nilS] := Blk.new _ _ _
  have HB1 := Lib.hid hB1; clear hB1
  go_enter Tryz.func154, Tryz.ntmps154
  go_wp2_with (first
    | (go_at_call 170; refine (rshapeR _).mono ?_; rintro e w1 ⟨rfl, hE1⟩; have g1 := HB1.out.ext hE1; have HG1 := Lib.hid g1; have c0 := g1.cell 0; have c1 := g1.cell 1; have c2 := g1.cell 2; have c3 := g1.cell 3; have c4 := g1.cell 4; have c5 := g1.cell 5; have l1 := g1.lt; clear g1; simp at c0 c1 c2 c3 c4 c5; have HE1 := Lib.hid (((Ext.refl w).alloc _).trans hE1); clear hE1)
    | (go_at_call 171; refine (namedR _).mono ?_; rintro e w2 ⟨rfl, hE2⟩; have g1 := HG1.out.ext hE2; have d0 := g1.cell 0; have d1 := g1.cell 1; have d2 := g1.cell 2; have d3 := g1.cell 3; have d4 := g1.cell 4; have d5 := g1.cell 5; have l2 := g1.lt; clear g1; simp at d0 d1 d2 d3 d4 d5; have HE2 := Lib.hid (HE1.out.trans hE2); clear hE2))
  go_ret
  exact ⟨rfl, HE2.out⟩
set_option maxRecDepth 100000 in
set_option maxHeartbeats 1000000 in
theorem rwalkR (w : World) : Calls Tryz.prog 123 #[latR, .int .i64 1, .int .i64 0] w fun e w' => e = .returned (.tuple #[.int .i64 1, .int .i64 0]) ∧ Ext w w' := by
  have hB1 : Blk (w.alloc (.cells #[.int .i64 9, .int .i64 0, .int .i64 0, nilS, nilS, nilS] 46)) w.heap.size 46 #[.int .i64 9, .int .i64 0, .int .i64 0, nilS, nilS, nilS] := Blk.new _ _ _
  have HB1 := Lib.hid hB1; clear hB1
  go_enter Tryz.func123, Tryz.ntmps123
  go_wp2_with (go_at_call 154; refine (rnodeR _).mono ?_; rintro e w1 ⟨rfl, hE1⟩; have g1 := HB1.out.ext hE1; have HG1 := Lib.hid g1; have c4 := g1.cell 4; have l1 := g1.lt; clear g1; simp at c4; have HE1 := Lib.hid (((Ext.refl w).alloc _).trans hE1); clear hE1)
  go_loopw [9, 10] (fun n i wr => n = .int .i64 1 ∧ i = .int .i64 0 ∧ wr = w1) (fun _ _ _ => 0)
  case atStart => exact ⟨rfl, rfl, rfl⟩
  case round =>
    obtain ⟨rfl, rfl, rfl⟩ := hrel
    go_wp2
    go_ret2
    exact ⟨rfl, HE1.out⟩
set_option maxRecDepth 100000 in
set_option maxHeartbeats 1000000 in
theorem rcheckR (w : World) : Calls Tryz.prog 87 #[latR] w fun e w' => e = .returned (.int .i64 0) ∧ Ext w w' := by
  go_enter Tryz.func87, Tryz.ntmps87
  go_wp2_with (go_at_call 123; refine (rwalkR _).mono ?_; rintro e w1 ⟨rfl, hE1⟩)
  go_ret
  exact ⟨rfl, ((Ext.refl w).alloc _).trans hE1⟩
end Go.Proofs.YthldgioggjpnpaaGreat
