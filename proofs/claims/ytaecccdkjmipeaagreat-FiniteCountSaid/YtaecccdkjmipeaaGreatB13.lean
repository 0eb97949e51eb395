/-
  Plain words: meets; joins of lists; maximal elements; chains.
  Contracts: meets; joins of lists; maximal elements.
-/
import Derived.Test.YtaecccdkjmipeaaGreatB12
import Derived.Test.YtaecccdkjmipeaaGreatA4
namespace Go.Proofs.YtaecccdkjmipeaaGreat
open Go.RowKit

section
variable {q : Lat} {b : Val} {x : Nm} {p y : Val}
end
/-- joins of lists -/
def foldJ (l : Lat) (vs : List Val) : Val := vs.foldl (joinV l) (bottomV l)
theorem foldJ_succ {l : Lat} {vs : List Val} {k : Nat} {x : Val} (h : vs[k]? = some x) : foldJ l (vs.take (k + 1)) = joinV l (foldJ l (vs.take k)) x := by
 unfold foldJ; rw [List.take_add_one, h]; simp
def joinAllV (l : Lat) (vs : List Val) : Val × Int := if checkJ l vs = 0 then (foldJ l vs, 0) else (Val.zero, checkJ l vs)
/-- all joins of the list's beginnings are short elements -/
def FoldOk (l : Lat) (vs : List Val) : Prop := JoL l ∧ (∀ v ∈ vs, SmV 500000 v) ∧ ∀ k, k ≤ vs.length → elemB (foldJ l (vs.take k)) l = true ∧ SmV 500000 (foldJ l (vs.take k))
theorem cgVal {tt : TypeId} {v w : Val} (h : v = w) : some (AObj.var tt (valL v)) = some (AObj.var tt (valL w)) := by rw [h]
end Go.Proofs.YtaecccdkjmipeaaGreat

namespace Go.Proofs.YtaecccdkjmipeaaGreat
open Go.RowKit
/-- checked all the way down -/
inductive ChL : Lat → Prop
 | mk (l : Lat) (h : checkX l = 0) (hp : ∀ p ∈ l.ps, ChL p) : ChL l
theorem ChL.ok {l : Lat} (h : ChL l) : checkX l = 0 := by cases h; assumption
theorem ChL.part {l : Lat} (h : ChL l) : ∀ p ∈ l.ps, ChL p := by cases h; assumption
end Go.Proofs.YtaecccdkjmipeaaGreat
