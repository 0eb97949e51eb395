/-
  Contracts: merged's comparison; slices.SortFunc at a row of entries.
-/
import Derived.Test.YthldgioggjpnpaaGreatR11
import Derived.Shelf.SlSortCmp.NoneTotal
namespace Go.Proofs.YthldgioggjpnpaaGreat
open Go.RowKit

theorem RdE.one {w : World} {g : Nat} {q : Value} {x : En} (hg : g < w.heap.size) (h0 : w.cell? ⟨g, 0, none⟩ = some q) (h1 : w.cell? ⟨g, 1, none⟩ = some (encS x.2)) (hq : RdT w q x.1) (hx : x.2.length ≤ maxLen) :
    RdE w (.slice (some ⟨g, 0, none⟩) 1 1) [x] :=
  ⟨_, _, _, rfl, rfl, Nat.le_refl _, by unfold maxLen; omega, fun _ => ⟨g, 0, rfl, hg, fun j e hj => by
    have hj0 : j = 0 := by have := (List.getElem?_eq_some_iff.1 hj).1; simp at this; exact this
    subst hj0
    simp only [List.getElem?_cons_zero, Option.some.injEq] at hj
    subst hj
    exact ⟨q, by simpa using h0, by simpa using h1, hq, hx⟩⟩⟩

theorem RdE.new1 (w : World) (q : Value) (x : En) (t : TypeId) (n : Nat) (hn : n = w.heap.size) (hq : RdT w q x.1) (hx : x.2.length ≤ maxLen) : RdE (w.alloc (.cells #[q, encS x.2] t)) (.slice (some ⟨n, 0, none⟩) 1 1) [x] := by
  subst hn
  have hB := Blk.new w t #[q, encS x.2]
  exact RdE.one hB.lt (hB.cell 0) (hB.cell 1) (hq.ext ((Ext.refl w).alloc _)) hx

theorem cmpEs_one (x y : En) : cmpEs [x] [y] = cmpEn x y := by
  simp only [cmpEs]
  by_cases h : cmpEn x y = 0 <;> simp [h]

set_option maxRecDepth 100000 in
set_option maxHeartbeats 1000000 in
theorem mer2_any (qx qy : Value) (x y : En) (w : World) (hx : RdT w qx x.1) (hy : RdT w qy y.1) (lx : x.2.length ≤ maxLen) (ly : y.2.length ≤ maxLen) :
    Calls Tryz.prog 142 #[.agg #[qx, encS x.2], .agg #[qy, encS y.2]] w fun e w' => e = .returned (.int .i64 (cmpEn x y)) ∧ ExtD w w' := by
  have HX := Lib.hid hx
  have HY := Lib.hid hy
  obtain ⟨Ax, nx, cx, rfl⟩ := hx.slice
  obtain ⟨Ay, ny, cy, rfl⟩ := hy.slice
  clear hx hy
  have HLX := Lib.hid lx; clear lx
  have HLY := Lib.hid ly; clear ly
  go_enter Tryz.func142, Tryz.ntmps142
  go_upto_region 1 with (fail)
  obtain ⟨w2, hw2⟩ : ∃ w2, w2 = (w.alloc (.cells #[.slice Ax nx cx, encS x.2] 64)).alloc (.cells #[.slice Ay ny cy, encS y.2] 64) := ⟨_, rfl⟩
  have hE2 : ExtD w w2 := by rw [hw2]; exact ((ExtD.refl w).alloc _).alloc _
  have hB1 : Blk w2 w.heap.size 64 #[.slice Ax nx cx, encS x.2] := by rw [hw2]; exact (Blk.new w _ _).alloc _
  have hB2 : Blk w2 (w.heap.size + 1) 64 #[.slice Ay ny cy, encS y.2] := by rw [hw2]; exact Blk.new' _ _ _ _ (by simp)
  have l1 := hB1.lt
  have l2 := hB2.lt
  have a0 : w2.cell? ⟨w.heap.size, 0, none⟩ = some (.slice Ax nx cx) := hB1.cell 0
  have a1 : w2.cell? ⟨w.heap.size, 1, none⟩ = some (encS x.2) := hB1.cell 1
  have b0 : w2.cell? ⟨w.heap.size + 1, 0, none⟩ = some (.slice Ay ny cy) := hB2.cell 0
  have b1 : w2.cell? ⟨w.heap.size + 1, 1, none⟩ = some (encS y.2) := hB2.cell 1
  rw [← hw2]
  clear hw2 hB1 hB2
  generalize w.heap.size = G at *
  have HE2 := Lib.hid hE2; clear hE2
  have HC := Lib.hid (vcompareE_d (.slice (some ⟨w2.heap.size, 0, none⟩) 1 1) (.slice (some ⟨w2.heap.size + 1, 0, none⟩) 1 1) [x] [y] ((w2.alloc (.cells #[.slice Ax nx cx, encS x.2] 64)).alloc (.cells #[.slice Ay ny cy, encS y.2] 64))
    ((RdE.new1 w2 _ x _ _ rfl (HX.out.extD HE2.out) HLX.out).ext ((Ext.refl _).alloc _)) (RdE.new1 _ _ y _ _ (by simp) (HY.out.extD (HE2.out.alloc _)) HLY.out))
  rw [cmpEs_one] at HC
  go_wp2_with (go_at_call 112; refine HC.out.mono ?_; rintro e w5 ⟨rfl, hE5⟩; have HE5 := Lib.hid (((HE2.out.alloc _).alloc _).trans hE5); clear hE5)
  go_ret
  exact ⟨rfl, HE5.out⟩

/-- an entry with the value under which its clock reads -/
abbrev QE := Value × En
def encQE (p : QE) : List Value := [p.1, encS p.2.2]
def goodQ (w : World) (p : QE) : Prop := (∃ A n c, p.1 = .slice A n c) ∧ RdT w p.1 p.2.1 ∧ p.2.2.length ≤ maxLen
theorem goodQ.ext {w w' : World} {p : QE} (h : goodQ w p) (he : Ext w w') : goodQ w' p := ⟨h.1, h.2.1.ext he, h.2.2⟩

/-- a row of the call's own that reads as entries, their clocks in memory that lay in w0 -/
structure OwnE (w0 w : World) (v : Value) (l : List QE) : Prop where
  own : OwnN w w0.heap.size 64 2 encQE v l
  ext : Ext w0 w
  good : ∀ p ∈ l, goodQ w0 p

theorem OwnE.rd {w0 w : World} {v : Value} {l : List QE} (h : OwnE w0 w v l) : RdE w v (l.map (·.2)) := by
  obtain ⟨A, n, c, hv, hl, h1, h2, h3⟩ := h.own.rd (fun _ => rfl)
  refine ⟨A, n, c, hv, by simpa using hl, h1, h2, fun hn => ?_⟩
  obtain ⟨b, hA, hb, hc⟩ := h3 hn
  refine ⟨b, 0, hA, hb, fun j e hj => ?_⟩
  rw [List.getElem?_map] at hj
  cases hp : l[j]? with
  | none => rw [hp] at hj; cases hj
  | some p =>
    rw [hp] at hj
    cases hj
    have hg := h.good p (List.mem_of_getElem? hp)
    refine ⟨p.1, ?_, ?_, hg.2.1.ext h.ext, hg.2.2⟩
    · simpa using hc j p hp 0 _ rfl
    · simpa [Nat.add_assoc] using hc j p hp 1 _ rfl

section sorted
open Go.Sort Go.Shelf

theorem Ext.sortWorld {α : Type} [Inhabited α] {w0 w : World} (h : Ext w0 w) (enc : α → List Value) (k blk off m : Nat) (d : Array α) (os : Array Obj) (hb : w0.heap.size ≤ blk) (hblk : blk < w.heap.size) :
    Ext w0 (sortWorldK enc k w blk off m d os) := by
  have e : ∀ i, i < w0.heap.size → (sortWorldK enc k w blk off m d os).heap[i]? = w.heap[i]? := fun i hi => by
    have h1 := h.size
    unfold sortWorldK putRowK putRow mapBlock grow Sort.ahead
    simp only
    rw [Array.getElem?_append, if_pos (by simp; omega), Array.getElem?_modify, if_neg (by omega)]
  exact ⟨h.os, h.tape, h.output, by have := h.size; unfold sortWorldK putRowK putRow mapBlock grow Sort.ahead; simp; omega, fun i hi => (e i hi).trans (h.block i hi)⟩

theorem ExtD.grown {w w' : World} (h : ExtD w w') : ∃ q os, w' = grow (w.drewN q) os := by
  obtain ⟨p, hp⟩ := regrown_of_below h.ext
  refine ⟨w'.drawn - w.drawn, p.os, ?_⟩
  have h2 := h.dr
  have h3 : w'.drawn = p.d := by rw [hp]; rfl
  rw [hp]
  simp only [grow, redrawn, World.drewN]
  congr 1
  show p.d = w.drawn + (p.d - w.drawn)
  omega

/-- the row of entries as the sort's elements -/
abbrev SE (w0 : World) : Type := { p : QE // goodQ w0 p }
instance (w0 : World) : Inhabited (SE w0) := ⟨⟨(.slice none 0 0, ([], [])), ⟨_, _, _, rfl⟩, ⟨none, 0, 0, rfl, rfl, Nat.le_refl _, Nat.zero_le _, fun h => absurd h (by omega)⟩, Nat.zero_le _⟩⟩
def encSE {w0 : World} (p : SE w0) : List Value := encQE p.1

theorem cmpLays_mer2 (w0 w : World) (blk : Nat) (size : Nat) (hE : Ext w0 w) (hb : w0.heap.size ≤ blk) (hblk : blk < w.heap.size) :
    CmpLays Tryz.prog 142 #[] (encSE (w0 := w0)) 2 (fun x y : SE w0 => cmpEn x.1.2 y.1.2) blk 0 size w := fun m os dk _ x y => by
  have hw := Ext.sortWorld hE (encSE (w0 := w0)) 2 blk 0 m dk os hb hblk
  have hx := x.2.ext hw
  have hy := y.2.ext hw
  refine (mer2_any x.1.1 y.1.1 x.1.2 y.1.2 _ hx.2.1 hy.2.1 hx.2.2 hy.2.2).mono ?_
  rintro e w' ⟨rfl, hE'⟩
  exact ⟨rfl, hE'.grown⟩

theorem sortE_any (w0 w : World) (v : Value) (l : List QE) (h : OwnE w0 w v l) (hn : l.length < 4611686018427387904) :
    Calls Tryz.prog 141 #[v, .func (.func 142) #[] #[]] w fun e w' =>
      e = .returned (.tuple #[]) ∧ Ext w0 w' ∧ ∃ es, es.Perm (l.map (·.2)) ∧ es.Pairwise (fun x y => cmpEn x y ≤ 0) ∧ RdE w' v es := by
  have hrd := h.rd
  obtain ⟨A, n, c, rfl, hl0, hnc, hcm, hc⟩ := h.own.rd (fun _ => rfl)
  rcases Nat.eq_zero_or_pos n with h0 | h0
  · subst h0
    have hl : l = [] := List.eq_nil_of_length_eq_zero hl0
    have := AnyF.slices_SortFunc_none (P := Tryz.prog) (ρ := shl_sortEn_ren) shl_sortEn A c (.func (.func 142) #[] #[]) w
    refine Calls.mono (f := 141) this ?_
    rintro e w' ⟨rfl, rfl⟩
    refine ⟨rfl, h.ext, [], by rw [hl]; exact List.Perm.refl _, List.Pairwise.nil, ?_⟩
    rw [hl] at hrd
    exact hrd
  · obtain ⟨g, rfl, hg, hcell⟩ := hc h0
    have hfr : ∀ i, w.frozen? ⟨g, i, none⟩ = false ∧ w0.heap.size ≤ g := fun i => by
      rcases h.own.2 with ⟨hv, _⟩ | ⟨g', cap, cur, hv, hb, hh, _⟩
      · injection hv with e1 e2 e3; cases e1
      · injection hv with e1 e2 e3
        injection e1 with e1
        injection e1 with e1
        subst e1
        exact ⟨Blk.frozen (show Blk w g 64 cur from hh) i, hb⟩
    have hb0 := (hfr 0).2
    obtain ⟨d, hds, hdg⟩ : ∃ d : Array (SE w0), d.size = n ∧ ∀ j (hj : j < l.length), (d[j]!).1 = l[j] := by
      refine ⟨Array.ofFn (n := l.length) (fun i => (⟨l[i.1], h.good _ (List.getElem_mem i.2)⟩ : SE w0)), by rw [Array.size_ofFn]; exact hl0, fun j hj => ?_⟩
      rw [getElem!_pos _ j (by rw [Array.size_ofFn]; exact hj), Array.getElem_ofFn]
    have hH : HoldsK (encSE (w0 := w0)) 2 w g 0 d := fun t ht => by
      rw [size_flatK] at ht
      rw [get_flatK _ _ _ _ ht]
      have hj : t / 2 < l.length := by omega
      have e1 : encSE d[t / 2]! = encQE l[t / 2] := by rw [encSE, hdg _ hj]
      refine ⟨?_, (hfr _).1⟩
      rw [e1]
      have hm : t % 2 = 0 ∨ t % 2 = 1 := by omega
      have h2 := hcell (t / 2) _ (List.getElem?_eq_getElem hj) (t % 2) ((encQE l[t / 2])[t % 2]!) (by rcases hm with e | e <;> rw [e] <;> rfl)
      rw [show 0 + t = t / 2 * 2 + t % 2 by omega]
      exact h2
    have hS := AnyQ.slices_SortFunc (P := Tryz.prog) (ρ := shl_sortEn_ren) shl_sortEn 2 Tryz.isAgg64 Tryz.sizeOf64 (encSE (w0 := w0)) (fun _ => rfl)
      (fun x u hu => by
        obtain ⟨A, n, c, hx⟩ := x.2.1
        simp only [encSE, encQE, List.mem_cons, List.not_mem_nil, or_false] at hu
        rcases hu with rfl | rfl
        · rw [hx]; rfl
        · rfl)
      (fun x y : SE w0 => cmpEn x.1.2 y.1.2) (cmpEn_ok.swo (fun x : SE w0 => x.1.2)) 142 #[] g 0 c d w (fun _ _ => by kernel_rfl) (cmpLays_mer2 w0 w g d.size h.ext hb0 hg) hH hg (by omega)
    rw [hds] at hS
    refine Calls.mono (f := 141) hS ?_
    rintro e w' ⟨rfl, d', n', os, hp, hs, rfl⟩
    have hEw := Ext.sortWorld h.ext (encSE (w0 := w0)) 2 g 0 n' d' os hb0 hg
    obtain ⟨hz, -, hperm⟩ := hp
    refine ⟨rfl, hEw, d'.toList.map (·.1.2), ?_, ?_, ?_⟩
    · have e1 : d'.extract 0 n = d' := by rw [← hds, ← hz]; simp
      have e2 : d.extract 0 n = d := by rw [← hds]; simp
      rw [e1, e2] at hperm
      refine (hperm.map _).trans ?_
      have : d.toList.map (·.1.2) = l.map (·.2) := by
        apply List.ext_getElem (by simp [hds, hl0])
        intro i h1 h2
        have hi : i < l.length := by simpa using h2
        have := hdg i hi
        rw [getElem!_pos d i (by omega)] at this
        simp [this]
      rw [this]
    · rw [List.pairwise_iff_getElem]
      intro i j hi hj hij
      have hi' : i < d'.size := by simpa using hi
      have hj' : j < d'.size := by simpa using hj
      have := hs i j (Nat.zero_le _) hij (by omega)
      rw [getElem!_pos d' i hi', getElem!_pos d' j hj'] at this
      simp only [ltOf, decide_eq_false_iff_not] at this
      have := (cmpEn_ok.anti (d'[i].1.2) (d'[j].1.2)).2 (by omega)
      simpa using this
    · have hH' := holdsK_sortWorldK_c (encSE (w0 := w0)) 2 w g 0 d d' n' os hH hg hz
      refine ⟨_, _, _, rfl, by simp; omega, hnc, hcm, fun _ => ⟨g, 0, rfl, ?_, fun j e hj => ?_⟩⟩
      · have := size_sortWorldK_c (encSE (w0 := w0)) 2 w g 0 n' d' os; omega
      · rw [List.getElem?_map] at hj
        have hj' : j < d'.size := by
          rcases Nat.lt_or_ge j d'.size with h | h
          · exact h
          · rw [List.getElem?_eq_none (by simpa using h)] at hj; cases hj
        have he : e = (d'[j]!).1.2 := by
          rw [getElem!_pos d' j hj']
          rw [List.getElem?_eq_getElem (by simpa using hj')] at hj
          simpa using hj.symm
        have g0 := (HoldsK.cell hH' hj' (show 0 < 2 by omega)).1
        have g1 := (HoldsK.cell hH' hj' (show 1 < 2 by omega)).1
        have hgd := (d'[j]!).2
        subst he
        exact ⟨(d'[j]!).1.1, g0, g1, hgd.2.1.ext hEw, hgd.2.2⟩
end sorted
end Go.Proofs.YthldgioggjpnpaaGreat
