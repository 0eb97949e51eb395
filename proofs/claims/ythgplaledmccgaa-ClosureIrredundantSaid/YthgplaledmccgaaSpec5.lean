/-
  Plain functions: the lectically next set that an operator leaves unchanged.
-/
import Derived.Test.YthgplaledmccgaaSpec4
namespace Go.Proofs.Ythgplaledmccgaa
/-- the set up to place i, and i -/
def cand (s : List Bool) (i : Nat) : List Bool := (s.take i ++ List.replicate (s.length - i) false).set i true
def afterFrom (O : List Bool → List Bool) (s : List Bool) : Nat → Option (List Bool)
  | 0 => none
  | i + 1 => if s.getD i false = true then afterFrom O s i else if (O (cand s i)).take i = s.take i then some (O (cand s i)) else afterFrom O s i
def afterL (O : List Bool → List Bool) (s : List Bool) : Option (List Bool) := afterFrom O s s.length
theorem cand_len (s : List Bool) (i : Nat) (h : i ≤ s.length) : (cand s i).length = s.length := by
  unfold cand; simp; omega
end Go.Proofs.Ythgplaledmccgaa
