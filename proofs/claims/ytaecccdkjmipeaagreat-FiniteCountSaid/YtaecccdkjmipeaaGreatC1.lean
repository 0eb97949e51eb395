/-
  Plain laws: names of any list, sorted, each once.
  Contracts of the reference: names.
-/
import Derived.Test.YtaecccdkjmipeaaGreatB11
import Derived.Test.YtaecccdkjmipeaaGreatB10
import Derived.Test.YtaecccdkjmipeaaGreatA7
namespace Go.Proofs.YtaecccdkjmipeaaGreat
open Go.RowKit

end Go.Proofs.YtaecccdkjmipeaaGreat

namespace Go.Proofs.YtaecccdkjmipeaaGreat
open Go.RowKit
theorem validB_no {s : Nm} (h : s.length < 1 ∨ 16 < s.length ∨ headB s = false) : validB s = false := by
 unfold validB
 rcases h with h | h | h
 ·have : s = [] := List.eq_nil_of_length_eq_zero (by omega)
  subst this; rfl
 ·rw [decide_eq_false (by omega)]; rfl
 rw [h]; simp
theorem head_of {s : Nm} (h : ¬ s.length < 1) : ∃ c : UInt8, s[0]? = some c ∧ headB s = (decide (97 ≤ (c.toNat : Int)) && decide ((c.toNat : Int) ≤ 122)) := by
 cases s with
 | nil => simp at h
 | cons c r => exact ⟨c, rfl, rfl⟩
end Go.Proofs.YtaecccdkjmipeaaGreat
