/-
  Arguments opened: a rule by value.
-/
import Derived.Test.YthgplaledmccgaaOpen
namespace Go.Proofs.Ythgplaledmccgaa
open Go.ChangeShapes Go.WideShapes Go.Deep Go.RowKit
section
variable {H : Type} {enc : TypeId × Value → H} {w : World} {base : Nat} {spare : Nat → Bool} {held : Bool}
set_option maxRecDepth 100000 in
theorem open_Rule {fuel : Nat} {cs : List Value} {x : DataW H × List MemPlace} (h : DataW.trod enc Try.prog w base spare held fuel 35 cs = some x) : ∃ (v : Value) (r : RuleN), cs = [v, encS r.2] ∧ RdS w v r.1 := by
  obtain ⟨xs, n, _, rfl, hl, hlen, hf⟩ := DataW.trod_struct Try.underlying35 h
  have h2 : cs.length = 2 := hl.trans (by kernel_rfl)
  obtain ⟨a, b, rfl⟩ : ∃ a b, cs = [a, b] := by
    match cs, h2 with
    | [a, b], _ => exact ⟨a, b, rfl⟩
  have f0 := hf 0 _ rfl
  have f1 := hf 1 _ rfl
  have hx0 : xs[0]? = some (xs[0]'(by rw [hlen]; decide)) := List.getElem?_eq_getElem _
  have hx1 : xs[1]? = some (xs[1]'(by rw [hlen]; decide)) := List.getElem?_eq_getElem _
  have g0 := f0.trans hx0
  have g1 := f1.trans hx1
  obtain ⟨l, hl0, _⟩ := open_S g0
  obtain ⟨s, hs, _⟩ := DataW.trod_string Try.underlying9 g1
  refine ⟨a, (l, s.data.toList), ?_, hl0⟩
  have : ([a, b] : List Value).drop 1 = [b] := rfl
  have hs' : [b] = [Value.string s] := hs
  simp only [List.cons.injEq, and_true] at hs'
  subst hs'
  rfl
end
end Go.Proofs.Ythgplaledmccgaa
