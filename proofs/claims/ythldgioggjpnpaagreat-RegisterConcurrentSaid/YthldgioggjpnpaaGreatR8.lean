/-
  Contracts: value.used, element, Valid at registers; Bottom, least.
-/
import Derived.Test.YthldgioggjpnpaaGreatR7
import Derived.Handy
namespace Go.Proofs.YthldgioggjpnpaaGreat
open Go.RowKit

/-- a value in memory, read down to its entries -/
def RdV (w : World) (v : Value) (N : Int) (nn np : Nat) (es : List En) : Prop :=
  ∃ An cn Ap cp ve, v = .agg #[.int .i64 N, .slice An nn cn, .slice Ap np cp, ve] ∧ RdE w ve es
theorem RdV.ext {w w' : World} {v : Value} {N : Int} {nn np : Nat} {es : List En} (h : RdV w v N nn np es) (he : Ext w w') : RdV w' v N nn np es := by
  obtain ⟨An, cn, Ap, cp, ve, rfl, h⟩ := h
  exact ⟨An, cn, Ap, cp, ve, rfl, h.ext he⟩
def usedB (N : Int) (nn np : Nat) : Bool := decide (N = 0) && (decide (nn = 0) && decide (np = 0))
def isReg (N : Int) (nn np : Nat) (es : List En) : Bool := usedB N nn np && regB es

set_option maxRecDepth 100000 in
set_option maxHeartbeats 1000000 in
theorem used_any (N : Int) (An Ap : Option Addr) (nn cn np cp : Nat) (ve : Value) (w : World) (hve : ∃ A n c, ve = .slice A n c) :
    Calls Tryz.prog 82 #[.agg #[.int .i64 N, .slice An nn cn, .slice Ap np cp, ve], .bool false, .bool false, .bool false, .bool true] w fun e w' => e = .returned (.bool (usedB N nn np)) ∧ Ext w w' := by
  obtain ⟨A, n, c, rfl⟩ := hve
  by_cases h1 : N = 0
  · by_cases h2 : nn = 0
    · by_cases h3 : np = 0
      · have HU : Hid (usedB N nn np = true) := Lib.hid (by simp [usedB, h1, h2, h3])
        have e1 : (N == 0) = true := by simpa using h1
        have e2 : ((nn : Int) == 0) = true := by rw [h2]; rfl
        have e3 : ((np : Int) == 0) = true := by rw [h3]; rfl
        clear h1 h2 h3
        go_enter Tryz.func82, Tryz.ntmps82
        go_wp2
        all_goals first | (go_ret; exact ⟨ret_bool HU.out.symm, (Ext.refl w).alloc _⟩) | (exfalso; simp_all)
      · have HU : Hid (usedB N nn np = false) := Lib.hid (by simp [usedB, h3])
        have e1 : (N == 0) = true := by simpa using h1
        have e2 : ((nn : Int) == 0) = true := by rw [h2]; rfl
        have e3 : ((np : Int) == 0) = false := by simp; exact h3
        clear h1 h2 h3
        go_enter Tryz.func82, Tryz.ntmps82
        go_wp2
        all_goals first | (go_ret; exact ⟨ret_bool HU.out.symm, (Ext.refl w).alloc _⟩) | (exfalso; simp_all)
    · have HU : Hid (usedB N nn np = false) := Lib.hid (by simp [usedB, h2])
      have e1 : (N == 0) = true := by simpa using h1
      have e2 : ((nn : Int) == 0) = false := by simp; exact h2
      clear h1 h2
      go_enter Tryz.func82, Tryz.ntmps82
      go_wp2
      all_goals first | (go_ret; exact ⟨ret_bool HU.out.symm, (Ext.refl w).alloc _⟩) | (exfalso; simp_all)
  · have HU : Hid (usedB N nn np = false) := Lib.hid (by simp [usedB, h1])
    have e1 : (N == 0) = false := by simpa using h1
    clear h1
    go_enter Tryz.func82, Tryz.ntmps82
    go_wp2
    all_goals first | (go_ret; exact ⟨ret_bool HU.out.symm, (Ext.refl w).alloc _⟩) | (exfalso; simp_all)

set_option maxRecDepth 100000 in
set_option maxHeartbeats 1000000 in
theorem elementR (v : Value) (N : Int) (nn np : Nat) (es : List En) (w : World) (h : RdV w v N nn np es) :
    Calls Tryz.prog 53 #[latR, v] w fun e w' => e = .returned (.bool (isReg N nn np es)) ∧ Ext w w' := by
  obtain ⟨An, cn, Ap, cp, ve, rfl, he⟩ := h
  have HE := Lib.hid he
  have hve : ∃ A n c, ve = .slice A n c := by obtain ⟨A, n, c, hv, -⟩ := he; exact ⟨A, n, c, hv⟩
  clear he
  have HUS := Lib.hid (fun W => used_any N An Ap nn cn np cp ve W hve)
  obtain ⟨A, n, c, rfl⟩ := hve
  cases hu : usedB N nn np with
  | false =>
    have HU := Lib.hid hu; clear hu
    rw [HU.out] at HUS
    have HR : Hid (isReg N nn np es = false) := Lib.hid (by rw [isReg, HU.out]; rfl)
    go_enter Tryz.func53, Tryz.ntmps53
    go_wp2_with (go_at_call 82; refine (HUS.out _).mono ?_; rintro e w1 ⟨rfl, hE1⟩; have HE1 := Lib.hid (((Ext.refl w).alloc _ |>.alloc _).trans hE1); clear hE1)
    go_ret
    exact ⟨ret_bool HR.out.symm, HE1.out⟩
  | true =>
    have HU := Lib.hid hu; clear hu
    rw [HU.out] at HUS
    have HR : Hid (isReg N nn np es = regB es) := Lib.hid (by rw [isReg, HU.out]; rfl)
    have HRG := Lib.hid (fun W (hW : Ext w W) => reg_any _ es W (HE.out.ext hW))
    generalize regB es = r at *
    have c3 : ((w.alloc (.cells #[.int .i64 9, .int .i64 0, .int .i64 0, nilS, nilS, nilS] 46)).alloc (.cells #[.int .i64 N, .slice An nn cn, .slice Ap np cp, .slice A n c] 26)).cell? ⟨w.heap.size + 1, 3, none⟩ = some (.slice A n c) := by
      simp
    have HC3 := Lib.hid c3; clear c3
    go_enter Tryz.func53, Tryz.ntmps53
    go_wp2_with (first
      | (go_at_call 82; refine (HUS.out _).mono ?_; rintro e w1 ⟨rfl, hE1⟩; have c3 := hE1.cell HC3.out; have hb3 := World.block_lt_of_cell? _ _ c3; have HE1 := Lib.hid (((Ext.refl w).alloc _ |>.alloc _).trans hE1); clear hE1)
      | (go_at_call 85; refine (HRG.out _ HE1.out).mono ?_; rintro e w2 ⟨rfl, hE2⟩; have HE2 := Lib.hid (HE1.out.trans hE2); clear hE2))
    go_ret
    exact ⟨ret_bool HR.out.symm, HE2.out⟩

set_option maxRecDepth 100000 in
set_option maxHeartbeats 1000000 in
theorem vvalid_any (v : Value) (N : Int) (nn np : Nat) (es : List En) (w : World) (h : RdV w v N nn np es) :
    Calls Tryz.prog 34 #[latR, v] w fun e w' => e = .returned (.bool (isReg N nn np es)) ∧ Ext w w' := by
  have H := Lib.hid h
  obtain ⟨An, cn, Ap, cp, ve, rfl, he⟩ := h
  clear he
  have hB1 : Blk ((w.alloc (.cells #[.int .i64 9, .int .i64 0, .int .i64 0, nilS, nilS, nilS] 46)).alloc (.cells #[.int .i64 N, .slice An nn cn, .slice Ap np cp, ve] 26)) w.heap.size 46 #[.int .i64 9, .int .i64 0, .int .i64 0, nilS, nilS, nilS] := (Blk.new _ _ _).alloc _
  have hB2 : Blk ((w.alloc (.cells #[.int .i64 9, .int .i64 0, .int .i64 0, nilS, nilS, nilS] 46)).alloc (.cells #[.int .i64 N, .slice An nn cn, .slice Ap np cp, ve] 26)) (w.heap.size + 1) 26 #[.int .i64 N, .slice An nn cn, .slice Ap np cp, ve] := Blk.new' _ _ _ _ (by simp)
  have HB1 := Lib.hid hB1; clear hB1
  have HB2 := Lib.hid hB2; clear hB2
  have HEL := Lib.hid (fun W (hW : Ext w W) => elementR _ N nn np es W (H.out.ext hW))
  generalize isReg N nn np es = r at *
  go_enter Tryz.func34, Tryz.ntmps34
  go_wp2_with (first
    | (go_at_call 52; refine (checkR _).mono ?_; rintro e w1 ⟨rfl, hE1⟩; have g1 := HB1.out.ext hE1; have g2 := HB2.out.ext hE1; have c0 := g1.cell 0; have c1 := g1.cell 1; have c2 := g1.cell 2; have c3 := g1.cell 3; have c4 := g1.cell 4; have c5 := g1.cell 5; have d0 := g2.cell 0; have d1 := g2.cell 1; have d2 := g2.cell 2; have d3 := g2.cell 3; have l1 := g1.lt; have l2 := g2.lt; clear g1 g2; simp at c0 c1 c2 c3 c4 c5 d0 d1 d2 d3; have HE1 := Lib.hid (((Ext.refl w).alloc _ |>.alloc _).trans hE1); clear hE1)
    | (go_at_call 53; refine (HEL.out _ HE1.out).mono ?_; rintro e w2 ⟨rfl, hE2⟩; have HE2 := Lib.hid (HE1.out.trans hE2); clear hE2))
  go_ret
  exact ⟨rfl, HE2.out⟩

abbrev zeroV : Value := .agg #[.int .i64 0, nilS, nilS, nilS]
set_option maxRecDepth 100000 in
set_option maxHeartbeats 1000000 in
theorem bottomR (w : World) : Calls Tryz.prog 86 #[latR] w fun e w' => e = .returned zeroV ∧ Ext w w' := by
  go_enter Tryz.func86, Tryz.ntmps86
  go_wp2
  go_returns
  exact ⟨by first | rfl | trivial | simp, (((Ext.refl w).alloc _).alloc _).alloc _⟩
set_option maxRecDepth 100000 in
set_option maxHeartbeats 1000000 in
theorem BottomR_any (w : World) : Calls Tryz.prog 105 #[latR] w fun e w' => e = .returned (.tuple #[zeroV, .int .i64 0]) ∧ Ext w w' := by
  have hB1 : Blk ((w.alloc (.cells #[.int .i64 9, .int .i64 0, .int .i64 0, nilS, nilS, nilS] 46)).alloc (.cells #[.int .i64 0, nilS, nilS, nilS] 26)) w.heap.size 46 #[.int .i64 9, .int .i64 0, .int .i64 0, nilS, nilS, nilS] := (Blk.new _ _ _).alloc _
  have hB2 : Blk ((w.alloc (.cells #[.int .i64 9, .int .i64 0, .int .i64 0, nilS, nilS, nilS] 46)).alloc (.cells #[.int .i64 0, nilS, nilS, nilS] 26)) (w.heap.size + 1) 26 #[.int .i64 0, nilS, nilS, nilS] := Blk.new' _ _ _ _ (by simp)
  have HB1 := Lib.hid hB1; clear hB1
  have HB2 := Lib.hid hB2; clear hB2
  go_enter Tryz.func105, Tryz.ntmps105
  go_wp2_with (first
    | (go_at_call 52; refine (checkR _).mono ?_; rintro e w1 ⟨rfl, hE1⟩; have g1 := HB1.out.ext hE1; have g2 := HB2.out.ext hE1; have c0 := g1.cell 0; have c1 := g1.cell 1; have c2 := g1.cell 2; have c3 := g1.cell 3; have c4 := g1.cell 4; have c5 := g1.cell 5; have l1 := g1.lt; have G2 := Lib.hid g2; clear g1 g2; simp at c0 c1 c2 c3 c4 c5; have HE1 := Lib.hid (((Ext.refl w).alloc _ |>.alloc _).trans hE1); clear hE1)
    | (go_at_call 86; refine (bottomR _).mono ?_; rintro e w2 ⟨rfl, hE2⟩; have g2 := G2.out.ext hE2; have l2 := g2.lt; have f0 := g2.frozen 0; have f1 := g2.frozen 1; have f2 := g2.frozen 2; have f3 := g2.frozen 3; have d0 := g2.cell 0; have d1 := g2.cell 1; have d2 := g2.cell 2; have d3 := g2.cell 3; simp at d0 d1 d2 d3; have G3 := Lib.hid g2; clear g2; have HE2 := Lib.hid (HE1.out.trans hE2); clear hE2))
  obtain ⟨wz, hwz⟩ : ∃ wz, wz = ((((w2.setCell ⟨w.heap.size + 1, 0, none⟩ (.int .i64 0)).setCell ⟨w.heap.size + 1, 1, none⟩ nilS).setCell ⟨w.heap.size + 1, 2, none⟩ nilS).setCell ⟨w.heap.size + 1, 3, none⟩ nilS) := ⟨_, rfl⟩
  have hBz : Blk wz (w.heap.size + 1) 26 #[.int .i64 0, nilS, nilS, nilS] := by rw [hwz]; exact (((G3.out.set_ 0 _).set_ 1 _).set_ 2 _).set_ 3 _
  have hEz : Ext w wz := by
    rw [hwz]
    have hb : w.heap.size ≤ w.heap.size + 1 := by omega
    exact (((HE2.out.setCell hb _).setCell hb _).setCell hb _).setCell hb _
  rw [← hwz]
  clear hwz d0 d1 d2 d3
  have d0 := hBz.cell 0
  have d1 := hBz.cell 1
  have d2 := hBz.cell 2
  have d3 := hBz.cell 3
  have l3 := hBz.lt
  simp at d0 d1 d2 d3
  clear hBz
  refine bodyPost_ret (v := .tuple #[zeroV, .int .i64 0]) (by simp [results, Tryz.results105, go_sem, d0, d1, d2, d3]) rfl ?_
  exact ⟨rfl, hEz⟩

/-- four stores of a whole value into a block of the call's own -/
theorem Blk.store4 {w : World} {B : Nat} {t : TypeId} {a b c d : Value} (h : Blk w B t #[a, b, c, d]) (a' b' c' d' : Value) :
    Blk ((((w.setCell ⟨B, 0, none⟩ a').setCell ⟨B, 1, none⟩ b').setCell ⟨B, 2, none⟩ c').setCell ⟨B, 3, none⟩ d') B t #[a', b', c', d'] := (((h.set_ 0 a').set_ 1 b').set_ 2 c').set_ 3 d'
theorem Ext.store4 {w0 w : World} (h : Ext w0 w) {B : Nat} (hb : w0.heap.size ≤ B) (a b c d : Value) :
    Ext w0 ((((w.setCell ⟨B, 0, none⟩ a).setCell ⟨B, 1, none⟩ b).setCell ⟨B, 2, none⟩ c).setCell ⟨B, 3, none⟩ d) := (((h.setCell hb _).setCell hb _).setCell hb _).setCell hb _
set_option maxRecDepth 100000 in
set_option maxHeartbeats 1000000 in
theorem leastR (w : World) : Calls Tryz.prog 73 #[latR] w fun e w' => e = .returned zeroV ∧ Ext w w' := by
  have hB2 : Blk ((w.alloc (.cells #[.int .i64 9, .int .i64 0, .int .i64 0, nilS, nilS, nilS] 46)).alloc (.cells #[.int .i64 0, nilS, nilS, nilS] 26)) (w.heap.size + 1) 26 #[.int .i64 0, nilS, nilS, nilS] := Blk.new' _ _ _ _ (by simp)
  have HB2 := Lib.hid hB2; clear hB2
  go_enter Tryz.func73, Tryz.ntmps73
  go_wp2_with (go_at_call 105; refine (BottomR_any _).mono ?_; rintro e w1 ⟨rfl, hE1⟩; have g2 := HB2.out.ext hE1; have G2 := Lib.hid g2; have HE1 := Lib.hid (((Ext.refl w).alloc _ |>.alloc _).trans hE1); clear hE1; have l2 := g2.lt; have l3 : w.heap.size + 1 ≠ w1.heap.size := (by omega); have f0 := g2.frozen 0; have f1 := g2.frozen 1; have f2 := g2.frozen 2; have f3 := g2.frozen 3; have d0 := g2.cell 0; have d1 := g2.cell 1; have d2 := g2.cell 2; have d3 := g2.cell 3; clear g2; simp at d0 d1 d2 d3)
  obtain ⟨wz, hwz⟩ : ∃ wz, wz = (((((w1.setCell ⟨w.heap.size + 1, 0, none⟩ (.int .i64 0)).setCell ⟨w.heap.size + 1, 1, none⟩ nilS).setCell ⟨w.heap.size + 1, 2, none⟩ nilS).setCell ⟨w.heap.size + 1, 3, none⟩ nilS).alloc (.cells #[.int .i64 0, nilS, nilS, nilS] 26)) := ⟨_, rfl⟩
  have hBz : Blk wz (w.heap.size + 1) 26 #[.int .i64 0, nilS, nilS, nilS] := by rw [hwz]; exact (G2.out.store4 _ _ _ _).alloc _
  have hEz : Ext w wz := by rw [hwz]; exact (HE1.out.store4 (by omega) _ _ _ _).alloc _
  rw [← hwz]
  clear hwz d0 d1 d2 d3
  have d0 := hBz.cell 0
  have d1 := hBz.cell 1
  have d2 := hBz.cell 2
  have d3 := hBz.cell 3
  simp at d0 d1 d2 d3
  clear hBz
  refine bodyPost_ret (v := zeroV) (by simp [results, Tryz.results73, go_sem, d0, d1, d2, d3]) rfl ?_
  exact ⟨rfl, hEz⟩
end Go.Proofs.YthldgioggjpnpaaGreat
