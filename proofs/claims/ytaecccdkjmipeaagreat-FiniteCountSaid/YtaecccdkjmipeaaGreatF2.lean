/-
  Arguments opened: lists of lists of numbers.
  Plain: rows filled one after the other; a table's rows as the model lists them.
-/
import Derived.Test.YtaecccdkjmipeaaGreatB16
import Derived.Test.YtaecccdkjmipeaaGreatF1
namespace Go.Proofs.YtaecccdkjmipeaaGreat
open Go.RowKit Go.ChangeShapes Go.WideShapes Go.ChangeAt
def row1 (r : List Int) : List AV := [ivs r]
/-- a slice of slices of numbers -/
abbrev tabs (T : List (List Int)) : AV := .sl (T.map row1) none
section
variable {H : Type} {enc : TypeId × Value → H} {w : World} {base : Nat} {spare : Nat → Bool} {held : Bool}
end
end Go.Proofs.YtaecccdkjmipeaaGreat

namespace Go.Proofs.YtaecccdkjmipeaaGreat
open Go.RowKit

/-- a row of which the first k elements are done -/
def upto {α : Type} (n : Nat) (g h : Nat → α) (k : Nat) : List α := (List.range n).map fun i => if i < k then g i else h i
section
variable {α : Type} {n k : Nat} {g h : Nat → α}
theorem upto_len : (upto n g h k).length = n := by simp [upto]
theorem upto_zero : upto n g h 0 = (List.range n).map h := by
 unfold upto
 exact List.map_congr_left fun i _ => if_neg (Nat.not_lt_zero i)
theorem upto_full (hk : n ≤ k) : upto n g h k = (List.range n).map g := by
 unfold upto
 exact List.map_congr_left fun i hi => if_pos (by have := List.mem_range.1 hi; omega)
theorem upto_set {k : Nat} (_ : k < n) : (upto n g h k).set k (g k) = upto n g h (k + 1) := by
 refine List.ext_getElem (by simp [upto]) fun i h1 h2 => ?_
 rw [List.getElem_set]
 simp only [upto, List.getElem_map, List.getElem_range]
 split
 ·rename_i e; subst e; rw [if_pos (by omega)]
 rename_i e
 by_cases hik : i < k
 ·rw [if_pos hik, if_pos (by omega)]
 rw [if_neg hik, if_neg (by omega)]
theorem rep_map {c : α} : List.replicate n c = (List.range n).map fun _ => c := by
 rw [List.map_const', List.length_range]
end
/-- row i of a table -/
def rowL (n : Nat) (f : Nat → Nat → Nat) (i : Nat) : List Int := (List.range n).map fun j => (f i j : Int)
section
variable {n : Nat} {f : Nat → Nat → Nat}
theorem tab_at {i : Nat} (hi : i < n) : (tab n f)[i]? = some (rowL n f i) := by simp [tab, rowL, hi]
theorem tab_get {i : Nat} (hi : i < n) : ((tab n f).map row1)[i]? = some (row1 (rowL n f i)) := map_get (tab_at hi)
theorem rowL_at {i j : Nat} (hj : j < n) : (rowL n f i)[j]? = some (f i j : Int) := by simp [rowL, hj]
theorem rowL_get {i j : Nat} (hj : j < n) : ((rowL n f i).map iv1)[j]? = some (iv1 (f i j)) := map_get (rowL_at hj)
end
def rowOk (n : Int) (r : List Int) : Bool := decide ((r.length : Int) = n) && r.all fun x => !(decide (x < 0) || decide (x ≥ n))
theorem isT_eq (T : List (List Int)) : isT T = (!(decide ((T.length : Int) < 1) || decide ((T.length : Int) > 256)) && T.all (rowOk T.length)) := by
 have e1 : decide (T.length < 1) = decide ((T.length : Int) < 1) := decide_eq_decide.2 (by omega)
 have e2 : decide (T.length > 256) = decide ((T.length : Int) > 256) := decide_eq_decide.2 (by omega)
 have e3 : ∀ r : List Int, (r.length == T.length) = decide ((r.length : Int) = T.length) := fun r => by
  rw [Bool.eq_iff_iff, beq_iff_eq, decide_eq_true_iff]; omega
 unfold isT rowOk
 simp only [e1, e2, e3]
def nat4 (r : Nat × Nat × Nat × Nat) : List AV := [i64 r.1, i64 r.2.1, i64 r.2.2.1, i64 r.2.2.2]
def pr2 (e : Nat × Nat) : List AV := [i64 e.1, i64 e.2]
/-- a slice of pairs -/
abbrev prs (l : List (Nat × Nat)) : AV := .sl (l.map pr2) none
/-- a slice of numbers, none of them negative -/
def nvv1 (i : Nat) : List AV := [i64 i]
abbrev nvs (l : List Nat) : AV := .sl (l.map nvv1) none
end Go.Proofs.YtaecccdkjmipeaaGreat
