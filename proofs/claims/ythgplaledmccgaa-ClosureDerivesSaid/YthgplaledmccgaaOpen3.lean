/-
  Arguments opened: an array of two slices of names; a goal by value.
-/
import Derived.Test.YthgplaledmccgaaOpen2
namespace Go.Proofs.Ythgplaledmccgaa
open Go.ChangeShapes Go.WideShapes Go.Deep Go.RowKit
theorem okWide_arr {P : Program} {w : World} {r : Reach} {base : Nat} {t e : TypeId} {n : Nat} {v : Value} (ht : P.underlying t = some (.array n e)) (h : Value.okWide P w r base t v) : ∃ cs, v = .agg cs ∧ cs.size = P.cellsOf t := by
  simp only [Value.okWide, ht] at h
  obtain ⟨cs, h1, h2, _⟩ := h
  exact ⟨cs, h1, h2⟩
section
variable {H : Type} {enc : TypeId × Value → H} {w : World} {base : Nat} {spare : Nat → Bool} {held : Bool}
set_option maxRecDepth 100000 in
theorem open_Two {fuel : Nat} {cs : List Value} {x : DataW H × List MemPlace} (h : DataW.trod enc Try.prog w base spare held fuel 49 cs = some x) : ∃ (va vb : Value) (a b : List Nm), cs = [va, vb] ∧ RdS w va a ∧ RdS w vb b := by
  obtain ⟨xs, n, _, rfl, hl, hlen, hf⟩ := DataW.trod_array Try.underlying49 h
  have h2 : cs.length = 2 := hl.trans (by kernel_rfl)
  have h1 : Try.prog.cellsOf 22 = 1 := by kernel_rfl
  obtain ⟨a, b, rfl⟩ : ∃ a b, cs = [a, b] := by
    match cs, h2 with
    | [a, b], _ => exact ⟨a, b, rfl⟩
  have f0 := hf 0 (by decide)
  have f1 := hf 1 (by decide)
  rw [h1] at f0 f1
  have hx0 : xs[0]? = some (xs[0]'(by rw [hlen]; decide)) := List.getElem?_eq_getElem _
  have hx1 : xs[1]? = some (xs[1]'(by rw [hlen]; decide)) := List.getElem?_eq_getElem _
  obtain ⟨l0, hl0, _⟩ := open_S (f0.trans hx0)
  obtain ⟨l1, hl1, _⟩ := open_S (f1.trans hx1)
  exact ⟨a, b, l0, l1, rfl, hl0, hl1⟩
set_option maxRecDepth 100000 in
theorem open_Goal {fuel : Nat} {cs : List Value} {x : DataW H × List MemPlace} (h : DataW.trod enc Try.prog w base spare held fuel 53 cs = some x) : ∃ (v : Value) (r : RuleN), cs = [v, encS r.2] ∧ RdS w v r.1 := by
  obtain ⟨xs, n, _, rfl, hl, hlen, hf⟩ := DataW.trod_struct Try.underlying53 h
  have h2 : cs.length = 2 := hl.trans (by kernel_rfl)
  obtain ⟨a, b, rfl⟩ : ∃ a b, cs = [a, b] := by
    match cs, h2 with
    | [a, b], _ => exact ⟨a, b, rfl⟩
  have f0 := hf 0 _ rfl
  have f1 := hf 1 _ rfl
  have hx0 : xs[0]? = some (xs[0]'(by rw [hlen]; decide)) := List.getElem?_eq_getElem _
  have hx1 : xs[1]? = some (xs[1]'(by rw [hlen]; decide)) := List.getElem?_eq_getElem _
  have g0 := f0.trans hx0
  have g1 := f1.trans hx1
  obtain ⟨l, hl0, _⟩ := open_S g0
  obtain ⟨s, hs, _⟩ := DataW.trod_string Try.underlying9 g1
  refine ⟨a, (l, s.data.toList), ?_, hl0⟩
  have hs' : [b] = [Value.string s] := hs
  simp only [List.cons.injEq, and_true] at hs'
  subst hs'
  rfl
end
end Go.Proofs.Ythgplaledmccgaa
