/-
  A receiver with a row of its own in a cell: readers; nil in 
-/
import Derived.Test.YtnkkokmmeplbgaaGreatA8
import Derived.Test.YtnkkokmmeplbgaaGreatA10
import Derived.Test.YtnkkokmmeplbgaaGreatA3
import Derived.Test.YtnkkokmmeplbgaaGreatT5
import Derived.Test.YtnkkokmmeplbgaaGreatA4
namespace Go.Proofs.YtnkkokmmeplbgaaGreat
open Go.RowKit
theorem Qtf {st : St} {ob ob' o2 o2' : Qs} (ho : Qj st.H Qe = some ob') (he : ob' = ob) (hk : JO 0 ob = true) (h2 : Qj st.H (Qe + 1) = some o2') (e2 : o2' = o2) (k2 : JO 0 o2 = true) : ∀ o ob2, Qj [(Qe, ob), (Qe + 1, o2)] o = some ob2 → Qj st.H o = some ob2 ∧ Qe ≤ o ∧ JO 0 ob2 = true := fun o ob2 hz => by
 subst he e2
 replace hz : Qj ((Qe, ob') :: [(Qe + 1, o2')]) o = some ob2 := hz
 rw [QA, Qaz] at hz
 split at hz
 ·rename_i e; cases hz; subst e; exact ⟨ho, Nat.le_refl _, hk⟩
 split at hz
 ·rename_i e; cases hz; subst e; exact ⟨h2, Nat.le_succ _, k2⟩
 cases hz
theorem QqM {st : St} {ts : List Nat} {r res : AV} {ob ob' o2 o2' : Qs} (h : (Q7 st ts).fzt = some r) (hr : r = res) (ho : Qj st.H Qe = some ob') (he : ob' = ob) (hk : JO 0 ob = true) (h2 : Qj st.H (Qe + 1) = some o2') (e2 : o2' = o2) (k2 : JO 0 o2 = true) :
  (Q7 st ts).fzt = some res ∧ ∀ o ob2, Qj [(Qe, ob), (Qe + 1, o2)] o = some ob2 → Qj st.H o = some ob2 ∧ Qe ≤ o ∧ JO 0 ob2 = true := ⟨by rw [h, hr], Qtf ho he hk h2 e2 k2⟩
section
variable {P : Program} {E : Jp} {o : Oper} {st : St}
end
section
variable {P : Program} {E : Jp} {ops : Array Oper} {o : Oper} {t : List (Nat × AV)} {H : List (Nat × Qs)} {nx N d : Nat} {w : Bool}
end
section
variable {P : Program} {E : Jp} {ops : Array Oper} {o : Oper} {t : List (Nat × AV)} {H : List (Nat × Qs)} {nx N d : Nat} {w : Bool}
end
end Go.Proofs.YtnkkokmmeplbgaaGreat
