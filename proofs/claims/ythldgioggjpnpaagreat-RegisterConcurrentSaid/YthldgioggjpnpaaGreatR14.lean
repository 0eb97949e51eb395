/-
  Contracts: join.join at registers; slices.Clone at ticks; join.copied.
-/
import Derived.Test.YthldgioggjpnpaaGreatR13
import Derived.Lib.SliceRun
import Derived.StillTailTactics
namespace Go.Proofs.YthldgioggjpnpaaGreat
open Go.RowKit

theorem cell_store4 {w : World} {B : Nat} (a b c d : Value) {q : Addr} (h : q.block ≠ B) : ((((w.setCell ⟨B, 0, none⟩ a).setCell ⟨B, 1, none⟩ b).setCell ⟨B, 2, none⟩ c).setCell ⟨B, 3, none⟩ d).cell? q = w.cell? q := by
  have hne : ∀ i, (⟨B, i, none⟩ : Addr) ≠ q := fun i e => h (by rw [← e])
  rw [World.cell?_setCell_other _ _ _ _ (hne 3), World.cell?_setCell_other _ _ _ _ (hne 2), World.cell?_setCell_other _ _ _ _ (hne 1), World.cell?_setCell_other _ _ _ _ (hne 0)]
theorem size_store4 {w : World} {B : Nat} (a b c d : Value) : ((((w.setCell ⟨B, 0, none⟩ a).setCell ⟨B, 1, none⟩ b).setCell ⟨B, 2, none⟩ c).setCell ⟨B, 3, none⟩ d).heap.size = w.heap.size := by simp
/-- a block of a value (an int, three slices) holds no entries and no ticks -/
def ValBlk (w : World) (B : Nat) : Prop := ∃ t n A1 n1 c1 A2 n2 c2 A3 n3 c3, Blk w B t #[.int .i64 n, .slice A1 n1 c1, .slice A2 n2 c2, .slice A3 n3 c3]
theorem ValBlk.noStr {w : World} {B i : Nat} (h : ValBlk w B) {s : ByteArray} : w.cell? ⟨B, i, none⟩ ≠ some (.string s) := by
  obtain ⟨t, n, A1, n1, c1, A2, n2, c2, A3, n3, c3, h⟩ := h
  rw [h.cell i]
  match i with
  | 0 => simp
  | 1 => simp
  | 2 => simp
  | 3 => simp
  | i + 4 => simp
theorem ValBlk.noInts {w : World} {B i : Nat} (h : ValBlk w B) {k : IntKind} {x : Int} : w.cell? ⟨B, i + 1, none⟩ ≠ some (.int k x) := by
  obtain ⟨t, n, A1, n1, c1, A2, n2, c2, A3, n3, c3, h⟩ := h
  rw [h.cell (i + 1)]
  match i with
  | 0 => simp
  | 1 => simp
  | 2 => simp
  | i + 3 => simp
theorem RdT.store4 {w : World} {q : Value} {ts : List Tk} (h : RdT w q ts) {B : Nat} (hB : ValBlk w B) (a b c d : Value) :
    RdT ((((w.setCell ⟨B, 0, none⟩ a).setCell ⟨B, 1, none⟩ b).setCell ⟨B, 2, none⟩ c).setCell ⟨B, 3, none⟩ d) q ts := by
  obtain ⟨A, n, cc, hv, hl, h1, h2, h3⟩ := h
  refine ⟨A, n, cc, hv, hl, h1, h2, fun hn => ?_⟩
  obtain ⟨b', off, hA, hb, hc⟩ := h3 hn
  have hne : b' ≠ B := by
    rintro rfl
    have h0 := hc 0 _ (List.getElem?_eq_getElem (show 0 < ts.length by omega)) 1 _ rfl
    simp only [Nat.zero_mul, Nat.zero_add] at h0
    exact hB.noInts h0
  exact ⟨b', off, hA, by rw [size_store4]; exact hb, fun j x hj i u hu => by rw [cell_store4 _ _ _ _ hne]; exact hc j x hj i u hu⟩
theorem RdE.store4 {w : World} {v : Value} {es : List En} (h : RdE w v es) {B : Nat} (hB : ValBlk w B) (a b c d : Value) :
    RdE ((((w.setCell ⟨B, 0, none⟩ a).setCell ⟨B, 1, none⟩ b).setCell ⟨B, 2, none⟩ c).setCell ⟨B, 3, none⟩ d) v es := by
  obtain ⟨A, n, cc, hv, hl, h1, h2, h3⟩ := h
  refine ⟨A, n, cc, hv, hl, h1, h2, fun hn => ?_⟩
  obtain ⟨b', off, hA, hb, hc⟩ := h3 hn
  have hne : b' ≠ B := by
    rintro rfl
    obtain ⟨q, h0, h1, -⟩ := hc 0 _ (List.getElem?_eq_getElem (show 0 < es.length by omega))
    exact hB.noStr h1
  refine ⟨b', off, hA, by rw [size_store4]; exact hb, fun j x hj => ?_⟩
  obtain ⟨q, e1, e2, e3, e4⟩ := hc j x hj
  exact ⟨q, by rw [cell_store4 _ _ _ _ hne]; exact e1, by rw [cell_store4 _ _ _ _ hne]; exact e2, RdT.store4 e3 hB a b c d, e4⟩

set_option maxRecDepth 100000 in
set_option maxHeartbeats 1000000 in
theorem joinR_any (va vb : Value) (Na Nb : Int) (n1 p1 n2 p2 : Nat) (a b : List En) (w : World) (ha : RdV w va Na n1 p1 a) (hb : RdV w vb Nb n2 p2 b) (ga : ∀ x ∈ a, validT x.1 = true) (gb : ∀ x ∈ b, validT x.1 = true) (na0 : a.length ≤ 1048576) (nb0 : b.length ≤ 1048576) :
    Calls Tryz.prog 74 #[latR, va, vb] w fun e w' => ∃ v es, e = .returned (.agg #[.int .i64 0, nilS, nilS, v]) ∧ es.Perm (mergedL a b) ∧ es.Pairwise (fun x y => cmpEn x y ≤ 0) ∧ RdE w' v es ∧ Ext w w' := by
  obtain ⟨A1, c1, A2, c2, ve, rfl, he⟩ := ha
  obtain ⟨B1, k1, B2, k2, vf, rfl, hf⟩ := hb
  have HM := Lib.hid (fun W (hW : Ext w W) => merged_any ve vf a b W (he.ext hW) (hf.ext hW) ga gb na0 nb0)
  obtain ⟨Ae, ne, ce, rfl, -⟩ := he
  obtain ⟨Af, nf, cf, rfl, -⟩ := hf
  clear ga gb na0 nb0
  go_enter Tryz.func74, Tryz.ntmps74
  go_upto_region 1 with (fail)
  obtain ⟨w4, hw4⟩ : ∃ w4, w4 = (((w.alloc (.cells #[.int .i64 9, .int .i64 0, .int .i64 0, nilS, nilS, nilS] 46)).alloc (.cells #[.int .i64 Na, .slice A1 n1 c1, .slice A2 p1 c2, .slice Ae ne ce] 26)).alloc (.cells #[.int .i64 Nb, .slice B1 n2 k1, .slice B2 p2 k2, .slice Af nf cf] 26)).alloc (.cells #[.int .i64 0, nilS, nilS, nilS] 26) := ⟨_, rfl⟩
  have hE4 : Ext w w4 := by rw [hw4]; exact ((((Ext.refl w).alloc _).alloc _).alloc _).alloc _
  have hB0 : Blk w4 w.heap.size 46 #[.int .i64 9, .int .i64 0, .int .i64 0, nilS, nilS, nilS] := by rw [hw4]; exact (((Blk.new w _ _).alloc _).alloc _).alloc _
  have hB1 : Blk w4 (w.heap.size + 1) 26 #[.int .i64 Na, .slice A1 n1 c1, .slice A2 p1 c2, .slice Ae ne ce] := by rw [hw4]; exact ((Blk.new' _ _ _ _ (by simp)).alloc _).alloc _
  have hB2 : Blk w4 (w.heap.size + 1 + 1) 26 #[.int .i64 Nb, .slice B1 n2 k1, .slice B2 p2 k2, .slice Af nf cf] := by rw [hw4]; exact (Blk.new' _ _ _ _ (by simp)).alloc _
  have hB3 : Blk w4 (w.heap.size + 1 + 1 + 1) 26 #[.int .i64 0, nilS, nilS, nilS] := by rw [hw4]; exact Blk.new' _ _ _ _ (by simp)
  have l0 := hB0.lt
  have l1 := hB1.lt
  have l2 := hB2.lt
  have a0 : w4.cell? ⟨w.heap.size, 0, none⟩ = some (.int .i64 9) := hB0.cell 0
  have a1 : w4.cell? ⟨w.heap.size + 1, 3, none⟩ = some (.slice Ae ne ce) := hB1.cell 3
  have a2 : w4.cell? ⟨w.heap.size + 1 + 1, 3, none⟩ = some (.slice Af nf cf) := hB2.cell 3
  rw [← hw4]
  clear hw4 hB0 hB1 hB2
  have HB3 := Lib.hid hB3; clear hB3
  have hgs : w.heap.size ≤ w.heap.size + 1 + 1 + 1 := by omega
  generalize hG : w.heap.size = G at *
  have HE4 := Lib.hid hE4; clear hE4
  go_wp2_with (go_at_call 108; refine (HM.out _ HE4.out).mono ?_; rintro e w5 ⟨v, es, rfl, hp, hs, hr, hE5⟩; have HP := Lib.hid hp; clear hp; have HS := Lib.hid hs; clear hs; have HR := Lib.hid hr; have g3 := HB3.out.ext hE5; have G3 := Lib.hid g3; have HE5 := Lib.hid (HE4.out.trans hE5); clear hE5; have l5 := g3.lt; have f0 := g3.frozen 0; have f1 := g3.frozen 1; have f2 := g3.frozen 2; have f3 := g3.frozen 3; have d0 := g3.cell 0; have d1 := g3.cell 1; have d2 := g3.cell 2; have d3 := g3.cell 3; clear g3; simp at d0 d1 d2 d3; obtain ⟨Av, nv, cv, rfl, -⟩ := hr)
  obtain ⟨wz, hwz⟩ : ∃ wz, wz = ((((w5.setCell ⟨G + 1 + 1 + 1, 0, none⟩ (.int .i64 0)).setCell ⟨G + 1 + 1 + 1, 1, none⟩ nilS).setCell ⟨G + 1 + 1 + 1, 2, none⟩ nilS).setCell ⟨G + 1 + 1 + 1, 3, none⟩ (.slice Av nv cv)) := ⟨_, rfl⟩
  have hBz : Blk wz (G + 1 + 1 + 1) 26 #[.int .i64 0, nilS, nilS, .slice Av nv cv] := by rw [hwz]; exact G3.out.store4 _ _ _ _
  have hEz : Ext w wz := by rw [hwz]; exact HE5.out.store4 (by omega) _ _ _ _
  have hRz : RdE wz (.slice Av nv cv) es := by rw [hwz]; exact HR.out.store4 ⟨_, _, _, _, _, _, _, _, _, _, _, G3.out⟩ _ _ _ _
  rw [← hwz]
  clear hwz d0 d1 d2 d3
  have d0 := hBz.cell 0
  have d1 := hBz.cell 1
  have d2 := hBz.cell 2
  have d3 := hBz.cell 3
  simp at d0 d1 d2 d3
  clear hBz
  refine bodyPost_ret (v := .agg #[.int .i64 0, nilS, nilS, .slice Av nv cv]) (by simp [results, Tryz.results74, go_sem, d0, d1, d2, d3]) rfl ?_
  exact ⟨_, es, rfl, HP.out, HS.out, hRz, hEz⟩

theorem infTkN : True := trivial
set_option maxRecDepth 100000 in
set_option maxHeartbeats 800000 in
theorem cloneT_any (v : Value) (ts : List Tk) (w : World) (h : RdT w v ts) (hm : ts.length ≤ 1048576) :
    Calls Tryz.prog 110 #[v] w fun e w' => ∃ v', e = .returned v' ∧ OwnN w' w.heap.size 40 2 encT v' ts ∧ Ext w w' := by
  obtain ⟨i1, hi1, hy0, hy1, hy2⟩ := info_parts infTk
  have H := Lib.hid h
  obtain ⟨A, n, c, rfl, hl, hnc, hcm, -⟩ := h
  unfold maxLen at hcm
  have HL := Lib.hid hl; clear hl
  have hn : n ≤ 1048576 := by have := HL.out; omega
  have heq : ∀ w, (binOp .eql 37 (.slice A n c) (.slice none 0 0)).run Tryz.prog w = .ok (.bool A.isNone) w := fun w => Lib.run_eql_slice_nil w 37 40 A n c 0 0 Tryz.underlying37
  cases A with
  | none =>
    have h0 : ts = [] := by
      have := H.out.open_
      rcases Nat.eq_zero_or_pos n with h0 | h0
      · exact List.eq_nil_of_length_eq_zero (by have := HL.out; omega)
      · obtain ⟨b, off, h, _⟩ := this.2.2.2 h0; cases h
    have H0 := Lib.hid h0; clear h0
    go_enter Tryz.func110, Tryz.ntmps110
    go_wp2_with (fail)
    go_ret
    exact ⟨_, rfl, by rw [H0.out]; exact OwnN.nil _ _ _ _ _, Ext.refl _⟩
  | some ad =>
    have HNN : Hid (n = ([] : List Tk).length + ts.length) := Lib.hid (by rw [HL.out]; simp)
    have HONE : Hid (∀ y ∈ ts, ∀ u ∈ encT y, u.oneCell' = true) := Lib.hid fun y _ u hu => by
      simp only [encT, List.mem_cons, List.not_mem_nil, or_false] at hu
      rcases hu with rfl | rfl <;> rfl
    have HEM : Hid (OwnN (w.alloc (.cells #[] 40)) w.heap.size 40 2 encT (.slice (some ⟨w.heap.size, 0, none⟩) 0 0) []) := Lib.hid (by
      have := World.ownsRow_made (e := 40) (base := w.heap.size) (size := 2) w #[] 0 (Nat.le_refl _) (Nat.zero_le _) rfl
      simpa [OwnN] using this)
    go_enter Tryz.func110, Tryz.ntmps110
    go_wp2_with (at_builtin; go_must (refine wpList_plain rfl fun K hK => wp_append_srcN (.tmp 5) (.tmp 6) 37 rfl 40 i1 _ 2 16 Tryz.underlying37 hi1 hy0 hy1 hy2 rfl (by decide) encT (fun _ => rfl) w ((Ext.refl _).alloc _) (.slice (some ⟨w.heap.size, 0, none⟩) 0 0) [] rfl HEM.out (.slice (some ad) n c) ts rfl (H.out.ext ((Ext.refl _).alloc _)) HONE.out n HNN.out (by unfold maxLen; omega) (by omega) fun A1 c1 w1 hown1 hE1 => hK _ _ ?_); have HO1 := Lib.hid hown1; clear hown1)
    go_ret
    exact ⟨_, rfl, by have := HO1.out; rwa [List.nil_append] at this, hE1⟩
end Go.Proofs.YthldgioggjpnpaaGreat
