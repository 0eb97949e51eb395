/-
  A region that draws its order, whose own operations only read and whose callees leave all that lay unturned: walked once, in the order of the text.
-/
import Derived.Test.YthldgioggjpnpaaGreatRMem
import Derived.Lib.QuietBelow
namespace Go.Proofs.YthldgioggjpnpaaGreat
open Go.RowKit Go.Sort

theorem wp_region_ext {P : Program} {id : Nat} {Q : Exit → Act → World → Prop} {a : Act} {w : World} {l : List Oper} (hm : P.follows .mixedOrders = true) (hB : Region.lexB .any l.toArray = true)
    (h : wpQuiet P l.toArray (fun w' => ∃ p : Regrown, w' = grow (redrawn w p.d) p.os) (fun a' => ∀ w', Ext w w' → Q .normal a' w') l a) : (Code.region id l.toArray true).wp P Q a w :=
  wp_region_quiet_below hm hB (by
    have e : (fun a' => ∀ w', (∃ p : Regrown, w' = grow (redrawn w p.d) p.os) → Q .normal a' w') = (fun a' => ∀ w', Ext w w' → Q .normal a' w') := by
      funext a'
      refine propext ⟨fun h' w' hw' => h' w' (regrown_of_below hw'), fun h' w' hw' => ?_⟩
      obtain ⟨p, rfl⟩ := hw'
      exact h' _ (below_regrown w p.d p.os)
    rw [e]
    exact h)
theorem Calls.ext_of {P : Program} {f : FuncId} {args : Array Value} {w : World} {v : Value} (h : ∀ W, Ext w W → Calls P f args W fun e w' => e = .returned v ∧ Ext W w') (d : Nat) (os : Array Obj) :
    Calls P f args (grow (redrawn w d) os) fun e w'' => e = .returned v ∧ ∃ p : Regrown, w'' = grow (redrawn w p.d) p.os :=
  Calls.regrown_of (h _ (below_regrown w d os))
theorem Calls.same_of {P : Program} {f : FuncId} {args : Array Value} {w : World} {v : Value} (h : ∀ W, Calls P f args W fun e w' => e = .returned v ∧ W = w') (d : Nat) (os : Array Obj) :
    Calls P f args (grow (redrawn w d) os) fun e w'' => e = .returned v ∧ ∃ p : Regrown, w'' = grow (redrawn w p.d) p.os :=
  Calls.ext_of (fun W _ => (h W).mono fun _ _ ⟨he, hw⟩ => ⟨he, by rw [← hw]; exact Ext.refl _⟩) d os
end Go.Proofs.YthldgioggjpnpaaGreat
