/-
  Arguments opened: slices of names, slices of rules. (open_slice_fields is the guide's own.)
-/
import Derived.Test.YthgplaledmccgaaMem4
import Derived.Test.YthgplaledmccgaaRows
import Derived.Deep.Slices
import Derived.Deep.Fields
import Derived.ChangeSame
import Derived.SliceStrings
import Derived.ProofKit
import Derived.OpenShut
import Derived.ShutString
import Derived.ChangeOld
import Derived.Lib.SmallJoins
namespace Go.Proofs.Ythgplaledmccgaa
open Go.ChangeShapes Go.WideShapes Go.Deep Go.RowKit

section
variable {H : Type} {enc : TypeId × Value → H} {P : Program} {w : World} {base : Nat} {spare : Nat → Bool} {held : Bool}
theorem open_slice_fields {t e : TypeId} {fs : Array Field} {fuel : Nat} {cs : List Value} {x : DataW H × List MemPlace} (ht : P.underlying t = some (.slice e)) (he : P.underlying e = some (.struct fs))
    (hone : oneCellFields P fs = true) (hC : P.cellsOf e = fs.size) (h : DataW.trod enc P w base spare held fuel t cs = some x) :
    (cs = [.slice none 0 0] ∧ x = (.nil, [])) ∨
    ∃ (a : Addr) (len cap m : Nat) (D : Nat → DataW H) (Pl : Nat → List MemPlace), cs = [.slice (some a) len cap] ∧ base ≤ a.block ∧ len ≤ cap ∧ cap ≤ maxLen ∧ m = (if spare a.block then cap else len) ∧
      x = (.slice ((List.range len).map D) ((List.range (m - len)).map fun j => D (len + j)), MemPlace.row a (m * fs.size) ++ (List.range m).flatMap Pl) ∧
      ∀ i, i < m → ∃ (ys : List (DataW H × List MemPlace)) (n : Nat), D i = .agg (ys.map (·.1)) ∧ Pl i = ys.flatMap (·.2) ∧ ys.length = fs.size ∧
        ∀ (j : Nat) (f : Field), fs[j]? = some f → ∃ (v : Value) (y : DataW H × List MemPlace), w.cell? (a.add (i * fs.size + j)) = some v ∧ ys[j]? = some y ∧ DataW.trod enc P w base spare held n f.type [v] = some y := by
  rcases open_slice ht h with h0 | ⟨a, len, cap, m, n, D, Pl, hcs, hb, hl, hm, hmm, hx, hi⟩
  · exact .inl h0
  · refine .inr ⟨a, len, cap, m, D, Pl, hcs, hb, hl, hm, hmm, by rw [hC] at hx; exact hx, fun i him => ?_⟩
    obtain ⟨cs', hc, ht'⟩ := hi i him
    rw [hC] at hc
    obtain ⟨ys, n', hn', hy, hlen, hyl, hf⟩ := DataW.trod_struct he ht'
    obtain ⟨_, hcl, hat⟩ := World.cells?_some hc
    simp only [Prod.mk.injEq] at hy
    refine ⟨ys, n', hy.1, hy.2, hyl, fun j f hj => ?_⟩
    obtain ⟨ho, hk⟩ := hone_of hone j f hj
    have hjl : j < fs.size := (Array.getElem?_eq_some_iff.1 hj).1
    have hcell := hat j hjl
    have hv : cs'[j]? = some (cs'[j]'(by omega)) := List.getElem?_eq_getElem (by omega)
    have h1 := hf j f hj
    rw [ho, hk] at h1
    have hone' : (cs'.drop j).take 1 = [cs'[j]'(by omega)] := by
      rw [List.drop_eq_getElem_cons (by omega)]
      rfl
    rw [hone'] at h1
    have hys : ys[j]? = some (ys[j]'(by omega)) := List.getElem?_eq_getElem (by omega)
    refine ⟨_, _, ?_, hys, h1.trans hys⟩
    rw [← Go.Deep.add_add, hcell, hv]
end

section
variable {H : Type} {enc : TypeId × Value → H} {w : World} {base : Nat} {spare : Nat → Bool} {held : Bool}
/-- a slice of names that reads -/
theorem open_S {fuel : Nat} {v : Value} {x : DataW H × List MemPlace} (h : DataW.trod enc Try.prog w base spare held fuel 22 [v] = some x) : ∃ l : List Nm, RdS w v l ∧ ∀ y ∈ l, y.length ≤ maxLen := by
  rcases open_strings Try.underlying22 Try.underlying9 (by kernel_rfl) h with ⟨hcs, _⟩ | ⟨a, len, cap, ss, hcs, _, hl, hm, hz, _, hcell, hws⟩
  · simp only [List.cons.injEq, and_true] at hcs
    subst hcs
    exact ⟨[], ⟨none, 0, 0, rfl, rfl, Nat.le_refl _, Nat.zero_le _, fun h => absurd h (by omega)⟩, by simp⟩
  · simp only [List.cons.injEq, and_true] at hcs
    subst hcs
    have hlen : len ≤ ss.length := by rw [hz]; split <;> omega
    refine ⟨(ss.take len).map fun s => s.data.toList, ⟨some a, len, cap, rfl, by simp; omega, hl, hm, fun h0 => ?_⟩, ?_⟩
    · have hc0 := hcell 0 (by omega)
      obtain ⟨b, off, spot⟩ := a
      have hsp : spot = none := by simpa [Addr.add] using World.cell?_spot hc0
      subst hsp
      refine ⟨b, off, rfl, World.block_lt_of_cell? w _ (by simpa [Addr.add] using hc0), fun j y hj => ?_⟩
      rw [List.getElem?_map, List.getElem?_take] at hj
      split at hj
      · next hjl =>
        have hjs : j < ss.length := by omega
        rw [List.getElem?_eq_getElem hjs] at hj
        simp only [Option.map_some, Option.some.injEq] at hj
        have hc := hcell j hjs
        rw [List.getD_eq_getElem?_getD, List.getElem?_eq_getElem hjs] at hc
        subst hj
        have ha : (⟨b, off, none⟩ : Addr).add j = ⟨b, off + j, none⟩ := by unfold Addr.add; split <;> simp_all
        rw [ha] at hc
        exact hc
      · cases hj
    · intro y hy
      obtain ⟨s, hs, rfl⟩ := List.mem_map.1 hy
      have := hws s (List.mem_of_mem_take hs)
      simpa using this
/-- a slice of rules that reads -/
theorem open_R {fuel : Nat} {v : Value} {x : DataW H × List MemPlace} (h : DataW.trod enc Try.prog w base spare held fuel 23 [v] = some x) : ∃ rs : List RuleN, RdR w v rs := by
  rcases open_slice_fields Try.underlying23 Try.underlying35 (by kernel_rfl) (by kernel_rfl) h with ⟨hcs, _⟩ | ⟨a, len, cap, m, D, Pl, hcs, _, hl, hm, hmm, _, hf⟩
  · simp only [List.cons.injEq, and_true] at hcs
    subst hcs
    exact ⟨[], none, 0, 0, rfl, rfl, Nat.le_refl _, Nat.zero_le _, fun h => absurd h (by omega)⟩
  · simp only [List.cons.injEq, and_true] at hcs
    subst hcs
    have hlm : len ≤ m := by rw [hmm]; split <;> omega
    have hex : ∀ i, i < len → ∃ r : RuleN, ∃ q, w.cell? (a.add (i * 2 + 0)) = some q ∧ w.cell? (a.add (i * 2 + 1)) = some (encS r.2) ∧ RdS w q r.1 := by
      intro i hi
      obtain ⟨ys, n, _, _, _, hg⟩ := hf i (by omega)
      obtain ⟨v0, y0, hc0, _, ht0⟩ := hg 0 _ rfl
      obtain ⟨v1, y1, hc1, _, ht1⟩ := hg 1 _ rfl
      obtain ⟨l, hl, _⟩ := open_S ht0
      obtain ⟨s, hs, _⟩ := DataW.trod_string Try.underlying9 ht1
      simp only [List.cons.injEq, and_true] at hs
      subst hs
      exact ⟨(l, s.data.toList), v0, hc0, hc1, hl⟩
    have hch : ∃ f : Nat → RuleN, ∀ i, i < len → ∃ q, w.cell? (a.add (i * 2 + 0)) = some q ∧ w.cell? (a.add (i * 2 + 1)) = some (encS (f i).2) ∧ RdS w q (f i).1 := by
      refine ⟨fun i => if hi : i < len then (hex i hi).choose else ([], []), fun i hi => ?_⟩
      simp only [hi, dif_pos]
      exact (hex i hi).choose_spec
    obtain ⟨f, hf'⟩ := hch
    refine ⟨(List.range len).map f, some a, len, cap, rfl, by simp, hl, hm, fun h0 => ?_⟩
    obtain ⟨q0, hq0, _⟩ := hf' 0 h0
    obtain ⟨b, off, spot⟩ := a
    have hsp : spot = none := by simpa [Addr.add] using World.cell?_spot hq0
    subst hsp
    have ha : ∀ j, (⟨b, off, none⟩ : Addr).add j = ⟨b, off + j, none⟩ := by intro j; unfold Addr.add; split <;> simp_all
    refine ⟨b, off, rfl, World.block_lt_of_cell? w _ (by simpa [Addr.add] using hq0), fun j r hj => ?_⟩
    have hjl : j < len := by have := (List.getElem?_eq_some_iff.1 hj).1; simpa using this
    rw [List.getElem?_map, List.getElem?_range hjl] at hj
    simp only [Option.map_some, Option.some.injEq] at hj
    subst hj
    obtain ⟨q, h1, h2, h3⟩ := hf' j hjl
    rw [ha] at h1 h2
    exact ⟨q, by simpa using h1, by rw [Nat.add_assoc]; exact h2, h3⟩
end
end Go.Proofs.Ythgplaledmccgaa
