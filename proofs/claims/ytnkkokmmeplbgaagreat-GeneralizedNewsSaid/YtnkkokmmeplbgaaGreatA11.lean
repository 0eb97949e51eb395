/-
  A receiver with a row of its own in a cell: readers; nil in 
-/
import Derived.Test.YtnkkokmmeplbgaaGreatT5
import Derived.Test.YtnkkokmmeplbgaaGreatA10
import Derived.Test.YtnkkokmmeplbgaaGreatA3
import Derived.Test.YtnkkokmmeplbgaaGreatA4
namespace Go.Proofs.YtnkkokmmeplbgaaGreat
open Go.RowKit
theorem Qmt {st : St} {ob ob' o2 o2' : Qi} (ho : Qd st.H Qk = some ob') (he : ob' = ob) (hk : X5 0 ob = true) (h2 : Qd st.H (Qk + 1) = some o2') (e2 : o2' = o2) (k2 : X5 0 o2 = true) : ∀ o ob2, Qd [(Qk, ob), (Qk + 1, o2)] o = some ob2 → Qd st.H o = some ob2 ∧ Qk ≤ o ∧ X5 0 ob2 = true := fun o ob2 hz => by
 subst he e2
 replace hz : Qd ((Qk, ob') :: [(Qk + 1, o2')]) o = some ob2 := hz
 rw [Qp, Y7] at hz
 split at hz
 ·rename_i e; cases hz; subst e; exact ⟨ho, Nat.le_refl _, hk⟩
 split at hz
 ·rename_i e; cases hz; subst e; exact ⟨h2, Nat.le_succ _, k2⟩
 cases hz
theorem QnZ {st : St} {ts : List Nat} {r res : AV} {ob ob' o2 o2' : Qi} (h : (XP st ts).fzt = some r) (hr : r = res) (ho : Qd st.H Qk = some ob') (he : ob' = ob) (hk : X5 0 ob = true) (h2 : Qd st.H (Qk + 1) = some o2') (e2 : o2' = o2) (k2 : X5 0 o2 = true) :
  (XP st ts).fzt = some res ∧ ∀ o ob2, Qd [(Qk, ob), (Qk + 1, o2)] o = some ob2 → Qd st.H o = some ob2 ∧ Qk ≤ o ∧ X5 0 ob2 = true := ⟨by rw [h, hr], Qmt ho he hk h2 e2 k2⟩
section
variable {P : Program} {E : Xy} {o : Oper} {st : St}
end
section
variable {P : Program} {E : Xy} {ops : Array Oper} {o : Oper} {t : List (Nat × AV)} {H : List (Nat × Qi)} {nx N d : Nat} {w : Bool}
end
section
variable {P : Program} {E : Xy} {ops : Array Oper} {o : Oper} {t : List (Nat × AV)} {H : List (Nat × Qi)} {nx N d : Nat} {w : Bool}
end
end Go.Proofs.YtnkkokmmeplbgaaGreat
