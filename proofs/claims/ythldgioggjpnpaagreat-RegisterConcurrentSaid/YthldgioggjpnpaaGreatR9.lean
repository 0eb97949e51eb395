/-
  Contracts: slices.IndexFunc, ContainsFunc at entries; join.under, covered.
-/
import Derived.Test.YthldgioggjpnpaaGreatR8
namespace Go.Proofs.YthldgioggjpnpaaGreat
open Go.RowKit

/-- what is asked of a predicate on entries -/
def PredE (g : Nat) (lb : Array Value) (p : En → Bool) (es : List En) (w : World) : Prop :=
  (∀ (args : Array Value) (w : World), (callFunc g args).run Tryz.prog w = .ok (.enter g args) w) ∧
  ∀ W (x : En) (q : Value), Ext w W → x ∈ es → RdT W q x.1 → Calls Tryz.prog g (#[.agg #[q, encS x.2]] ++ lb) W fun e w' => e = .returned (.bool (p x)) ∧ Ext W w'

set_option maxRecDepth 100000 in
set_option maxHeartbeats 1000000 in
theorem indexE_any (v : Value) (es : List En) (g : Nat) (lb : Array Value) (p : En → Bool) (w : World) (h : RdE w v es) (hp : PredE g lb p es w) :
    Calls Tryz.prog 102 #[v, .func (.func g) #[] lb] w fun e w' => ∃ r : Int, e = .returned (.int .i64 r) ∧ decide (0 ≤ r) = es.any p ∧ Ext w w' := by
  have H := Lib.hid h
  obtain ⟨A, n, c, rfl, hl, hnc, hcm, -⟩ := h
  unfold maxLen at hcm
  have HL := Lib.hid hl; clear hl
  obtain ⟨hen, hp⟩ := hp
  have HP := Lib.hid hp; clear hp
  go_enter Tryz.func102, Tryz.ntmps102
  go_wp2_with (fail)
  go_loopw [8] (fun i wr => ∃ k : Nat, k ≤ n ∧ i = .int .i64 k ∧ (∀ x ∈ es.take k, p x = false) ∧ Ext w wr) (fun i _ => n - (intOf i).toNat)
  case atStart => exact ⟨0, Nat.zero_le _, rfl, by simp, Ext.refl _⟩
  case round =>
    obtain ⟨k, hk, rfl, hno, hE⟩ := hrel
    have HNO := Lib.hid hno; clear hno
    have HE := Lib.hid hE; clear hE
    by_cases hlt : k < n
    · obtain ⟨b, off, x, q, rfl, hb, hx, c0, c1, hq, hnl⟩ := RdE.at_ (H.out.ext HE.out) hlt
      have HX := Lib.hid hx
      have hm : x ∈ es := List.mem_of_getElem? hx
      have HC := Lib.hid (HP.out wr x q HE.out hm hq)
      have HM := Lib.hid hm
      clear hx hm hnl
      have hqo : ∃ A n c, q = .slice A n c := by obtain ⟨A, n, c, hv, -⟩ := hq; exact ⟨A, n, c, hv⟩
      clear hq
      obtain ⟨Aq, nq, cq, rfl⟩ := hqo
      cases hpx : p x with
      | true =>
        rw [hpx] at HC
        have HPX := Lib.hid hpx; clear hpx
        go_wp2_with (fail)
        refine HC.out.mono ?_
        rintro e w1 ⟨rfl, hE1⟩
        have HE1 := Lib.hid (HE.out.trans hE1); clear hE1
        go_wp2_with (fail)
        go_ret
        refine ⟨(k : Int), rfl, ?_, HE1.out⟩
        rw [List.any_eq_true.2 ⟨x, HM.out, HPX.out⟩]
        exact decide_eq_true (by omega)
      | false =>
        rw [hpx] at HC
        have HPX := Lib.hid hpx; clear hpx
        go_wp2_with (fail)
        refine HC.out.mono ?_
        rintro e w1 ⟨rfl, hE1⟩
        have HE1 := Lib.hid (HE.out.trans hE1); clear hE1
        go_wp2_with (fail)
        go_roundw
        case rel =>
          refine ⟨k + 1, by omega, by go_num, ?_, HE1.out⟩
          obtain ⟨hkl, hke⟩ := List.getElem?_eq_some_iff.1 HX.out
          intro y hy
          rw [List.take_succ_eq_append_getElem hkl, hke] at hy
          rcases List.mem_append.1 hy with hy | hy
          · exact HNO.out y hy
          · rw [List.mem_singleton] at hy; rw [hy]; exact HPX.out
        case measure => simp [intOf]; omega
    · go_wp2_with (fail)
      go_ret
      refine ⟨-1, rfl, ?_, HE.out⟩
      have := HNO.out
      rw [List.take_of_length_le (by have := HL.out; omega)] at this
      have h2 : es.any p = false := by rw [List.any_eq_false]; intro y hy; rw [this y hy]; simp
      rw [h2]; rfl

set_option maxRecDepth 100000 in
set_option maxHeartbeats 1000000 in
theorem containsE_any (v : Value) (es : List En) (g : Nat) (lb : Array Value) (p : En → Bool) (w : World) (h : RdE w v es) (hp : PredE g lb p es w) :
    Calls Tryz.prog 68 #[v, .func (.func g) #[] lb] w fun e w' => e = .returned (.bool (es.any p)) ∧ Ext w w' := by
  have H := indexE_any v es g lb p w h hp
  clear h hp
  go_enter Tryz.func68, Tryz.ntmps68
  go_wp2_with (go_at_call 102; refine H.mono ?_; rintro e w1 ⟨r, rfl, hr, hE⟩; have HR := Lib.hid hr; clear hr)
  go_ret
  exact ⟨ret_bool HR.out, hE⟩

def underE (a b : En) : Bool := if cmpT a.1 b.1 = 1 then true else if cmpT a.1 b.1 = 0 then a.2 == b.2 else false

set_option maxRecDepth 100000 in
set_option maxHeartbeats 1000000 in
theorem under_any (qa qb : Value) (a b : En) (w : World) (ha : RdT w qa a.1) (hb : RdT w qb b.1) (ga : validT a.1 = true) (gb : validT b.1 = true) :
    Calls Tryz.prog 114 #[.agg #[qa, encS a.2], .agg #[qb, encS b.2]] w fun e w' => e = .returned (.bool (underE a b)) ∧ Ext w w' := by
  have HA := Lib.hid ha
  have HB := Lib.hid hb
  have hqa : ∃ A n c, qa = .slice A n c := by obtain ⟨A, n, c, hv, -⟩ := ha; exact ⟨A, n, c, hv⟩
  have hqb : ∃ A n c, qb = .slice A n c := by obtain ⟨A, n, c, hv, -⟩ := hb; exact ⟨A, n, c, hv⟩
  clear ha hb
  obtain ⟨Aa, na, ca, rfl⟩ := hqa
  obtain ⟨Ab, nb, cb, rfl⟩ := hqb
  have GA := Lib.hid ga; clear ga
  have GB := Lib.hid gb; clear gb
  obtain ⟨ta, xa⟩ := a
  obtain ⟨tb, xb⟩ := b
  dsimp only at HA HB GA GB ⊢
  obtain ⟨r, hr⟩ : ∃ r, cmpT ta tb = r := ⟨_, rfl⟩
  have HU : Hid (underE (ta, xa) (tb, xb) = if r = 1 then true else if r = 0 then xa == xb else false) := Lib.hid (by rw [underE, hr])
  have HR := Lib.hid hr; clear hr
  have hB1 : Blk ((w.alloc (.cells #[.slice Aa na ca, encS xa] 64)).alloc (.cells #[.slice Ab nb cb, encS xb] 64)) w.heap.size 64 #[.slice Aa na ca, encS xa] := (Blk.new _ _ _).alloc _
  have hB2 : Blk ((w.alloc (.cells #[.slice Aa na ca, encS xa] 64)).alloc (.cells #[.slice Ab nb cb, encS xb] 64)) (w.heap.size + 1) 64 #[.slice Ab nb cb, encS xb] := Blk.new' _ _ _ _ (by simp)
  have HB1 := Lib.hid hB1; clear hB1
  have HB2 := Lib.hid hB2; clear hB2
  go_enter Tryz.func114, Tryz.ntmps114
  go_wp2_with (go_at_call 70; refine (ccompare_any _ _ ta tb _ (HA.out.ext (((Ext.refl w).alloc _).alloc _)) (HB.out.ext (((Ext.refl w).alloc _).alloc _)) GA.out GB.out).mono ?_; rintro e w1 ⟨rfl, hE1⟩; rw [HR.out]; have g1 := HB1.out.ext hE1; have g2 := HB2.out.ext hE1; have c1 := g1.cell 1; have d1 := g2.cell 1; have l1 := g1.lt; have l2 := g2.lt; clear g1 g2; simp at c1 d1; have HE1 := Lib.hid ((((Ext.refl w).alloc _).alloc _).trans hE1); clear hE1)
  all_goals (go_ret; refine ⟨ret_bool ?_, HE1.out⟩; rw [HU.out])
  all_goals simp_all

theorem RdT.slice {w : World} {q : Value} {ts : List Tk} (h : RdT w q ts) : ∃ A n c, q = .slice A n c := by
  obtain ⟨A, n, c, hv, -⟩ := h
  exact ⟨A, n, c, hv⟩

set_option maxRecDepth 100000 in
set_option maxHeartbeats 1000000 in
theorem jcov1_any (qx qy : Value) (x y : En) (B : Nat) (w : World) (c0 : w.cell? ⟨B, 0, none⟩ = some qx) (c1 : w.cell? ⟨B, 1, none⟩ = some (encS x.2)) (hx : RdT w qx x.1) (hy : RdT w qy y.1) (gx : validT x.1 = true) (gy : validT y.1 = true) :
    Calls Tryz.prog 113 #[.agg #[qy, encS y.2], .pointer (some ⟨B, 0, none⟩)] w fun e w' => e = .returned (.bool (underE x y)) ∧ Ext w w' := by
  have hB : B < w.heap.size := World.block_lt_of_cell? _ _ c0
  have HU := Lib.hid (fun W (hW : Ext w W) => under_any qx qy x y W (hx.ext hW) (hy.ext hW) gx gy)
  obtain ⟨Ax, nx, cx, rfl⟩ := hx.slice
  obtain ⟨Ay, ny, cy, rfl⟩ := hy.slice
  clear hx hy gx gy
  generalize underE x y = r at *
  go_enter Tryz.func113, Tryz.ntmps113
  go_wp2_with (go_at_call 114; refine (HU.out _ ((Ext.refl w).alloc _)).mono ?_; rintro e w1 ⟨rfl, hE1⟩; have HE1 := Lib.hid (((Ext.refl w).alloc _).trans hE1); clear hE1)
  go_ret
  exact ⟨rfl, HE1.out⟩

set_option maxRecDepth 100000 in
set_option maxHeartbeats 1000000 in
theorem jcovered_any (qx v : Value) (x : En) (es : List En) (w : World) (hx : RdT w qx x.1) (h : RdE w v es) (gx : validT x.1 = true) (gs : ∀ y ∈ es, validT y.1 = true) :
    Calls Tryz.prog 80 #[.agg #[qx, encS x.2], v] w fun e w' => e = .returned (.bool (es.any (underE x))) ∧ Ext w w' := by
  have hB : Blk (w.alloc (.cells #[qx, encS x.2] 64)) w.heap.size 64 #[qx, encS x.2] := Blk.new _ _ _
  have c0 : (w.alloc (.cells #[qx, encS x.2] 64)).cell? ⟨w.heap.size, 0, none⟩ = some qx := hB.cell 0
  have c1 : (w.alloc (.cells #[qx, encS x.2] 64)).cell? ⟨w.heap.size, 1, none⟩ = some (encS x.2) := hB.cell 1
  have hP : PredE 113 #[.pointer (some ⟨w.heap.size, 0, none⟩)] (underE x) es (w.alloc (.cells #[qx, encS x.2] 64)) :=
    ⟨fun _ _ => by kernel_rfl, fun W y q hE hm hq => jcov1_any qx q x y w.heap.size W (hE.cell c0) (hE.cell c1) (hx.ext (((Ext.refl w).alloc _).trans hE)) hq gx (gs y hm)⟩
  have HC := Lib.hid (containsE_any v es _ _ (underE x) _ (h.ext ((Ext.refl w).alloc (.cells #[qx, encS x.2] 64))) hP)
  obtain ⟨Ax, nx, cx, rfl⟩ := hx.slice
  clear hx gx gs hP hB c0 c1
  obtain ⟨A, n, c, rfl, -⟩ := h
  generalize es.any (underE x) = r at *
  go_enter Tryz.func80, Tryz.ntmps80
  go_wp2_with (go_at_call 68; refine HC.out.mono ?_; rintro e w1 ⟨rfl, hE1⟩; have HE1 := Lib.hid (((Ext.refl w).alloc _).trans hE1); clear hE1)
  go_ret
  exact ⟨rfl, HE1.out⟩

def isBefore (q p : En) : Bool := cmpT q.1 p.1 == 1
set_option maxRecDepth 100000 in
set_option maxHeartbeats 1000000 in
theorem mer1_any (qx qy : Value) (x y : En) (B : Nat) (w : World) (c0 : w.cell? ⟨B, 0, none⟩ = some qx) (hx : RdT w qx x.1) (hy : RdT w qy y.1) (gx : validT x.1 = true) (gy : validT y.1 = true) :
    Calls Tryz.prog 140 #[.agg #[qy, encS y.2], .pointer (some ⟨B, 0, none⟩)] w fun e w' => e = .returned (.bool (isBefore x y)) ∧ Ext w w' := by
  have hB : B < w.heap.size := World.block_lt_of_cell? _ _ c0
  have HU := Lib.hid (fun W (hW : Ext w W) => ccompare_any qx qy x.1 y.1 W (hx.ext hW) (hy.ext hW) gx gy)
  obtain ⟨Ax, nx, cx, rfl⟩ := hx.slice
  obtain ⟨Ay, ny, cy, rfl⟩ := hy.slice
  clear hx hy gx gy
  have HI : Hid (isBefore x y = (cmpT x.1 y.1 == 1)) := Lib.hid rfl
  generalize cmpT x.1 y.1 = r at *
  go_enter Tryz.func140, Tryz.ntmps140
  go_wp2_with (go_at_call 70; refine (HU.out _ ((Ext.refl w).alloc _)).mono ?_; rintro e w1 ⟨rfl, hE1⟩; have HE1 := Lib.hid (((Ext.refl w).alloc _).trans hE1); clear hE1)
  go_ret
  exact ⟨ret_bool HI.out.symm, HE1.out⟩
end Go.Proofs.YthldgioggjpnpaaGreat
