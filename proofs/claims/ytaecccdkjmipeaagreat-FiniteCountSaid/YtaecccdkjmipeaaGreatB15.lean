/-
  Contracts: the reference's comparison of values, their size; equal numbers.
  Contracts: the size of values; equal numbers; what the laws take for small and valid.
-/
import Derived.Test.YtaecccdkjmipeaaGreatB11
import Derived.Test.YtaecccdkjmipeaaGreatA4
namespace Go.Proofs.YtaecccdkjmipeaaGreat
open Go.RowKit
section
variable {α : Type} {c : α → α → Int} {a b : List α} {k : Nat}
end
def entN (es : List En) : Nat := (es.map (fun e => 1 + e.1.length)).sum
mutual
def nodesV : Val → Nat
 | .mk _ nm ps es => 1 + nm.length + entN es + nodesL ps
def nodesL : List Val → Nat
 | [] => 0
 | a :: r => nodesV a + nodesL r
end
theorem nodesV_eq (x : Val) : nodesV x = 1 + x.nm.length + entN x.es + nodesL x.ps := by
 cases x with
 | mk N nm ps es => rw [nodesV]; rfl
theorem entN_append (a b : List En) : entN (a ++ b) = entN a + entN b := by simp [entN]
theorem entN_take {es : List En} {k : Nat} {e : En} (h : es[k]? = some e) : entN (es.take (k + 1)) = entN (es.take k) + (1 + e.1.length) := by
 obtain ⟨hk, rfl⟩ := List.getElem?_eq_some_iff.1 h
 rw [List.take_succ_eq_append_getElem hk, entN_append]
 simp [entN]
theorem entN_le (es : List En) (k : Nat) : entN (es.take k) ≤ entN es := by
 have h := entN_append (es.take k) (es.drop k)
 rw [List.take_append_drop] at h
 omega
def smallV (x : Val) (m : Int) : Bool := decide ((nodesV x : Int) ≤ m)
end Go.Proofs.YtaecccdkjmipeaaGreat

namespace Go.Proofs.YtaecccdkjmipeaaGreat
open Go.RowKit
end Go.Proofs.YtaecccdkjmipeaaGreat
