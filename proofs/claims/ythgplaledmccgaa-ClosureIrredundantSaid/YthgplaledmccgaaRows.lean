/-
  No cell of these rows narrows 'for every input' (looked for: loops, veiled, ifaces, maps, wideKeys, modest, calm, conditions, laid).
  DERIVED. THE GIVEN ROWS OF THIS SEAT. 12 by the template 'for every input the law returns true; each argument reads behind the call as it read before'; 0 by the template 'total and deterministic' (their statements: YthgplaledmccgaaTotals.lean).
  GIVEN WITH THE SEED: the statements are not yours to turn. If you find one false, say at which input.
  Laid BY PROGRAM, IN A SANDBOX (cutbox-rows.mjs): the forced cells as the released guide's own fill.sh prints them over the translation cd95212c3575b378… (all of the seat's roots in one cut). By AI agents, Wed Nov 11 2026. No macro, syntax, notation, axiom, sorry.
-/
import Derived.Test.YthgplaledmccgaaChecked
import GoSem.Claim
import GoSem.ClaimJoined
import GoSem.ClaimMapViews
import Derived.JoinedTies
import Derived.KernelRfl
namespace Go.Proofs.Ythgplaledmccgaa
/- THE CELL 'sum', in the pinned program and in every row, IS THE sha256 OF THE DUMP (.gsa) THAT YthgplaledmccgaaProg.lean LOADS. Nothing in Lean hashes anything: it is a label: what it is worth is what the hold of that sum in a sandbox is worth. -/
noncomputable def Try.pinned : Pinned := { name := "ythgplaledmccgaa", sum := "cd95212c3575b378d740da32d5414ae4596bec2e03b297e33372fd5886746ffe", checked := Try.checked }
namespace Rows
def none {H : Type} : Left H := { results := [], args := [] }

/-- 'plexuslaw08.ClosureAll': WHATEVER THE INPUT: true; the input reads as it did. -/
def closureAllSpec : ChangeSpec := { name := "closureAll", fn := fun _ => fun
  | [d1, d2, d3] => { results := [.lit (.bool true)], args := [d1, d2, d3] }
  | _ => none }
def closureAllRow : OpenClaim := { program := "ythgplaledmccgaa", sum := "cd95212c3575b378d740da32d5414ae4596bec2e03b297e33372fd5886746ffe", func := "plexus/plexuslaw08.ClosureAll", spec := "closureAll", unfollowed := true, recurses := true, apart := false }
def ClosureAllSaid : Prop := closureAllRow.holds Try.pinned (OpenSpec.ofChange closureAllSpec)

/-- ITS FALSE NEIGHBOUR: 'it returns false'. Refute it at one input. -/
def closureAllWrong : ChangeSpec := { name := "closureAll", fn := fun _ => fun
  | [d1, d2, d3] => { results := [.lit (.bool false)], args := [d1, d2, d3] }
  | _ => none }
def ClosureAllWrongFalsely : Prop := closureAllRow.holds Try.pinned (OpenSpec.ofChange closureAllWrong)

/-- 'plexuslaw08.ClosureEntails': WHATEVER THE INPUT: true; the input reads as it did. -/
def closureEntailsSpec : ChangeSpec := { name := "closureEntails", fn := fun _ => fun
  | [d1, d2, d3] => { results := [.lit (.bool true)], args := [d1, d2, d3] }
  | _ => none }
def closureEntailsRow : OpenClaim := { program := "ythgplaledmccgaa", sum := "cd95212c3575b378d740da32d5414ae4596bec2e03b297e33372fd5886746ffe", func := "plexus/plexuslaw08.ClosureEntails", spec := "closureEntails", unfollowed := true, recurses := true, apart := false }
def ClosureEntailsSaid : Prop := closureEntailsRow.holds Try.pinned (OpenSpec.ofChange closureEntailsSpec)

/-- ITS FALSE NEIGHBOUR: 'it returns false'. Refute it at one input. -/
def closureEntailsWrong : ChangeSpec := { name := "closureEntails", fn := fun _ => fun
  | [d1, d2, d3] => { results := [.lit (.bool false)], args := [d1, d2, d3] }
  | _ => none }
def ClosureEntailsWrongFalsely : Prop := closureEntailsRow.holds Try.pinned (OpenSpec.ofChange closureEntailsWrong)

/-- 'plexuslaw08.ClosureEquivalent': WHATEVER THE INPUT: true; the input reads as it did. -/
def closureEquivalentSpec : ChangeSpec := { name := "closureEquivalent", fn := fun _ => fun
  | [d1, d2, d3] => { results := [.lit (.bool true)], args := [d1, d2, d3] }
  | _ => none }
def closureEquivalentRow : OpenClaim := { program := "ythgplaledmccgaa", sum := "cd95212c3575b378d740da32d5414ae4596bec2e03b297e33372fd5886746ffe", func := "plexus/plexuslaw08.ClosureEquivalent", spec := "closureEquivalent", unfollowed := true, recurses := true, apart := false }
def ClosureEquivalentSaid : Prop := closureEquivalentRow.holds Try.pinned (OpenSpec.ofChange closureEquivalentSpec)

/-- ITS FALSE NEIGHBOUR: 'it returns false'. Refute it at one input. -/
def closureEquivalentWrong : ChangeSpec := { name := "closureEquivalent", fn := fun _ => fun
  | [d1, d2, d3] => { results := [.lit (.bool false)], args := [d1, d2, d3] }
  | _ => none }
def ClosureEquivalentWrongFalsely : Prop := closureEquivalentRow.holds Try.pinned (OpenSpec.ofChange closureEquivalentWrong)

/-- 'plexuslaw08.ClosureChecks': WHATEVER THE INPUT: true; the input reads as it did. -/
def closureChecksSpec : ChangeSpec := { name := "closureChecks", fn := fun _ => fun
  | [d1, d2, d3] => { results := [.lit (.bool true)], args := [d1, d2, d3] }
  | _ => none }
def closureChecksRow : OpenClaim := { program := "ythgplaledmccgaa", sum := "cd95212c3575b378d740da32d5414ae4596bec2e03b297e33372fd5886746ffe", func := "plexus/plexuslaw08.ClosureChecks", spec := "closureChecks", unfollowed := true, recurses := true, apart := false }
def ClosureChecksSaid : Prop := closureChecksRow.holds Try.pinned (OpenSpec.ofChange closureChecksSpec)

/-- ITS FALSE NEIGHBOUR: 'it returns false'. Refute it at one input. -/
def closureChecksWrong : ChangeSpec := { name := "closureChecks", fn := fun _ => fun
  | [d1, d2, d3] => { results := [.lit (.bool false)], args := [d1, d2, d3] }
  | _ => none }
def ClosureChecksWrongFalsely : Prop := closureChecksRow.holds Try.pinned (OpenSpec.ofChange closureChecksWrong)

/-- 'plexuslaw08.ClosureOperator': WHATEVER THE INPUT: true; the input reads as it did. -/
def closureOperatorSpec : ChangeSpec := { name := "closureOperator", fn := fun _ => fun
  | [d1, d2, d3] => { results := [.lit (.bool true)], args := [d1, d2, d3] }
  | _ => none }
def closureOperatorRow : OpenClaim := { program := "ythgplaledmccgaa", sum := "cd95212c3575b378d740da32d5414ae4596bec2e03b297e33372fd5886746ffe", func := "plexus/plexuslaw08.ClosureOperator", spec := "closureOperator", unfollowed := true, recurses := true, apart := false }
def ClosureOperatorSaid : Prop := closureOperatorRow.holds Try.pinned (OpenSpec.ofChange closureOperatorSpec)

/-- ITS FALSE NEIGHBOUR: 'it returns false'. Refute it at one input. -/
def closureOperatorWrong : ChangeSpec := { name := "closureOperator", fn := fun _ => fun
  | [d1, d2, d3] => { results := [.lit (.bool false)], args := [d1, d2, d3] }
  | _ => none }
def ClosureOperatorWrongFalsely : Prop := closureOperatorRow.holds Try.pinned (OpenSpec.ofChange closureOperatorWrong)

/-- 'plexuslaw08.ClosureWhy': WHATEVER THE INPUT: true; the input reads as it did. -/
def closureWhySpec : ChangeSpec := { name := "closureWhy", fn := fun _ => fun
  | [d1, d2, d3] => { results := [.lit (.bool true)], args := [d1, d2, d3] }
  | _ => none }
def closureWhyRow : OpenClaim := { program := "ythgplaledmccgaa", sum := "cd95212c3575b378d740da32d5414ae4596bec2e03b297e33372fd5886746ffe", func := "plexus/plexuslaw08.ClosureWhy", spec := "closureWhy", unfollowed := true, recurses := true, apart := false }
def ClosureWhySaid : Prop := closureWhyRow.holds Try.pinned (OpenSpec.ofChange closureWhySpec)

/-- ITS FALSE NEIGHBOUR: 'it returns false'. Refute it at one input. -/
def closureWhyWrong : ChangeSpec := { name := "closureWhy", fn := fun _ => fun
  | [d1, d2, d3] => { results := [.lit (.bool false)], args := [d1, d2, d3] }
  | _ => none }
def ClosureWhyWrongFalsely : Prop := closureWhyRow.holds Try.pinned (OpenSpec.ofChange closureWhyWrong)

/-- 'plexuslaw08.ClosureDerives': WHATEVER THE INPUT: true; the input reads as it did. -/
def closureDerivesSpec : ChangeSpec := { name := "closureDerives", fn := fun _ => fun
  | [d1, d2, d3] => { results := [.lit (.bool true)], args := [d1, d2, d3] }
  | _ => none }
def closureDerivesRow : OpenClaim := { program := "ythgplaledmccgaa", sum := "cd95212c3575b378d740da32d5414ae4596bec2e03b297e33372fd5886746ffe", func := "plexus/plexuslaw08.ClosureDerives", spec := "closureDerives", unfollowed := true, recurses := true, apart := false }
def ClosureDerivesSaid : Prop := closureDerivesRow.holds Try.pinned (OpenSpec.ofChange closureDerivesSpec)

/-- ITS FALSE NEIGHBOUR: 'it returns false'. Refute it at one input. -/
def closureDerivesWrong : ChangeSpec := { name := "closureDerives", fn := fun _ => fun
  | [d1, d2, d3] => { results := [.lit (.bool false)], args := [d1, d2, d3] }
  | _ => none }
def ClosureDerivesWrongFalsely : Prop := closureDerivesRow.holds Try.pinned (OpenSpec.ofChange closureDerivesWrong)

/-- 'plexuslaw08.ClosureComplete': WHATEVER THE INPUT: true; the input reads as it did. -/
def closureCompleteSpec : ChangeSpec := { name := "closureComplete", fn := fun _ => fun
  | [d1, d2, d3] => { results := [.lit (.bool true)], args := [d1, d2, d3] }
  | _ => none }
def closureCompleteRow : OpenClaim := { program := "ythgplaledmccgaa", sum := "cd95212c3575b378d740da32d5414ae4596bec2e03b297e33372fd5886746ffe", func := "plexus/plexuslaw08.ClosureComplete", spec := "closureComplete", unfollowed := true, recurses := true, apart := false }
def ClosureCompleteSaid : Prop := closureCompleteRow.holds Try.pinned (OpenSpec.ofChange closureCompleteSpec)

/-- ITS FALSE NEIGHBOUR: 'it returns false'. Refute it at one input. -/
def closureCompleteWrong : ChangeSpec := { name := "closureComplete", fn := fun _ => fun
  | [d1, d2, d3] => { results := [.lit (.bool false)], args := [d1, d2, d3] }
  | _ => none }
def ClosureCompleteWrongFalsely : Prop := closureCompleteRow.holds Try.pinned (OpenSpec.ofChange closureCompleteWrong)

/-- 'plexuslaw08.ClosureStem': WHATEVER THE INPUT: true; the input reads as it did. -/
def closureStemSpec : ChangeSpec := { name := "closureStem", fn := fun _ => fun
  | [d1, d2, d3] => { results := [.lit (.bool true)], args := [d1, d2, d3] }
  | _ => none }
def closureStemRow : OpenClaim := { program := "ythgplaledmccgaa", sum := "cd95212c3575b378d740da32d5414ae4596bec2e03b297e33372fd5886746ffe", func := "plexus/plexuslaw08.ClosureStem", spec := "closureStem", unfollowed := true, recurses := true, apart := false }
def ClosureStemSaid : Prop := closureStemRow.holds Try.pinned (OpenSpec.ofChange closureStemSpec)

/-- ITS FALSE NEIGHBOUR: 'it returns false'. Refute it at one input. -/
def closureStemWrong : ChangeSpec := { name := "closureStem", fn := fun _ => fun
  | [d1, d2, d3] => { results := [.lit (.bool false)], args := [d1, d2, d3] }
  | _ => none }
def ClosureStemWrongFalsely : Prop := closureStemRow.holds Try.pinned (OpenSpec.ofChange closureStemWrong)

/-- 'plexuslaw08.ClosureReduces': WHATEVER THE INPUT: true; the input reads as it did. -/
def closureReducesSpec : ChangeSpec := { name := "closureReduces", fn := fun _ => fun
  | [d1, d2] => { results := [.lit (.bool true)], args := [d1, d2] }
  | _ => none }
def closureReducesRow : OpenClaim := { program := "ythgplaledmccgaa", sum := "cd95212c3575b378d740da32d5414ae4596bec2e03b297e33372fd5886746ffe", func := "plexus/plexuslaw08.ClosureReduces", spec := "closureReduces", unfollowed := true, recurses := true, apart := false }
def ClosureReducesSaid : Prop := closureReducesRow.holds Try.pinned (OpenSpec.ofChange closureReducesSpec)

/-- ITS FALSE NEIGHBOUR: 'it returns false'. Refute it at one input. -/
def closureReducesWrong : ChangeSpec := { name := "closureReduces", fn := fun _ => fun
  | [d1, d2] => { results := [.lit (.bool false)], args := [d1, d2] }
  | _ => none }
def ClosureReducesWrongFalsely : Prop := closureReducesRow.holds Try.pinned (OpenSpec.ofChange closureReducesWrong)

/-- 'plexuslaw08.ClosureMinimal': WHATEVER THE INPUT: true; the input reads as it did. -/
def closureMinimalSpec : ChangeSpec := { name := "closureMinimal", fn := fun _ => fun
  | [d1, d2, d3] => { results := [.lit (.bool true)], args := [d1, d2, d3] }
  | _ => none }
def closureMinimalRow : OpenClaim := { program := "ythgplaledmccgaa", sum := "cd95212c3575b378d740da32d5414ae4596bec2e03b297e33372fd5886746ffe", func := "plexus/plexuslaw08.ClosureMinimal", spec := "closureMinimal", unfollowed := true, recurses := true, apart := false }
def ClosureMinimalSaid : Prop := closureMinimalRow.holds Try.pinned (OpenSpec.ofChange closureMinimalSpec)

/-- ITS FALSE NEIGHBOUR: 'it returns false'. Refute it at one input. -/
def closureMinimalWrong : ChangeSpec := { name := "closureMinimal", fn := fun _ => fun
  | [d1, d2, d3] => { results := [.lit (.bool false)], args := [d1, d2, d3] }
  | _ => none }
def ClosureMinimalWrongFalsely : Prop := closureMinimalRow.holds Try.pinned (OpenSpec.ofChange closureMinimalWrong)

/-- 'plexuslaw08.ClosureIrredundant': WHATEVER THE INPUT: true; the input reads as it did. -/
def closureIrredundantSpec : ChangeSpec := { name := "closureIrredundant", fn := fun _ => fun
  | [d1, d2] => { results := [.lit (.bool true)], args := [d1, d2] }
  | _ => none }
def closureIrredundantRow : OpenClaim := { program := "ythgplaledmccgaa", sum := "cd95212c3575b378d740da32d5414ae4596bec2e03b297e33372fd5886746ffe", func := "plexus/plexuslaw08.ClosureIrredundant", spec := "closureIrredundant", unfollowed := true, recurses := true, apart := false }
def ClosureIrredundantSaid : Prop := closureIrredundantRow.holds Try.pinned (OpenSpec.ofChange closureIrredundantSpec)

/-- ITS FALSE NEIGHBOUR: 'it returns false'. Refute it at one input. -/
def closureIrredundantWrong : ChangeSpec := { name := "closureIrredundant", fn := fun _ => fun
  | [d1, d2] => { results := [.lit (.bool false)], args := [d1, d2] }
  | _ => none }
def ClosureIrredundantWrongFalsely : Prop := closureIrredundantRow.holds Try.pinned (OpenSpec.ofChange closureIrredundantWrong)

/- THE SECOND FORM. 'bulk': how many values and letters a reading holds, each counted each time it is reached (what is shared counts as often as it is met; a slice's spare places count too). A statement '..UptoSaid' is the law's where the arguments, and the package variables that the reading takes, are together of bulk at most 1048576: NARROWER than '..Said'. Prove '..Said' where nothing that the law and all that it calls make is longer than what came in: it says more and counts as full. Else prove '..UptoSaid'. A law counts once. -/
mutual
def uptoBulk {H : Type} : DataW H → Nat
  | .lit (.string bytes) => bytes.length + 1
  | .lit _ => 1
  | .nil => 1
  | .ptr d => uptoBulk d + 1
  | .slice elems spare => uptoBulkAll elems + uptoBulkAll spare + 1
  | .agg parts => uptoBulkAll parts + 1
  | .iface _ d => uptoBulk d + 1
  | .map entries => uptoBulkEntries entries + 1
  | .held _ => 1
def uptoBulkAll {H : Type} : List (DataW H) → Nat
  | [] => 0
  | d :: r => uptoBulk d + uptoBulkAll r
def uptoBulkEntries {H : Type} : List (Lit × DataW H) → Nat
  | [] => 0
  | x :: r => uptoBulkEntry x + uptoBulkEntries r
def uptoBulkEntry {H : Type} : Lit × DataW H → Nat
  | (.string bytes, d) => bytes.length + uptoBulk d + 1
  | (_, d) => uptoBulk d + 1
 end
def uptoSmall : (H : Type) → List (DataW H) → Bool := fun _ ds => decide (uptoBulkAll ds ≤ 1048576)
def OpenSpec.upto (s : _root_.Go.ChangeSpec) : _root_.Go.OpenSpec := { _root_.Go.OpenSpec.ofChange s with cond := some uptoSmall }

/-- 'plexuslaw08.ClosureAll', WHERE WHAT IT READS IS OF BULK AT MOST 1048576: true; the input reads as it did. -/
def closureAllUptoRow : OpenClaim := { program := "ythgplaledmccgaa", sum := "cd95212c3575b378d740da32d5414ae4596bec2e03b297e33372fd5886746ffe", func := "plexus/plexuslaw08.ClosureAll", spec := "closureAll", unfollowed := true, recurses := true, apart := false, narrowed := true }
def ClosureAllUptoSaid : Prop := closureAllUptoRow.holds Try.pinned (OpenSpec.upto closureAllSpec)

/-- 'plexuslaw08.ClosureEntails', WHERE WHAT IT READS IS OF BULK AT MOST 1048576: true; the input reads as it did. -/
def closureEntailsUptoRow : OpenClaim := { program := "ythgplaledmccgaa", sum := "cd95212c3575b378d740da32d5414ae4596bec2e03b297e33372fd5886746ffe", func := "plexus/plexuslaw08.ClosureEntails", spec := "closureEntails", unfollowed := true, recurses := true, apart := false, narrowed := true }
def ClosureEntailsUptoSaid : Prop := closureEntailsUptoRow.holds Try.pinned (OpenSpec.upto closureEntailsSpec)

/-- 'plexuslaw08.ClosureEquivalent', WHERE WHAT IT READS IS OF BULK AT MOST 1048576: true; the input reads as it did. -/
def closureEquivalentUptoRow : OpenClaim := { program := "ythgplaledmccgaa", sum := "cd95212c3575b378d740da32d5414ae4596bec2e03b297e33372fd5886746ffe", func := "plexus/plexuslaw08.ClosureEquivalent", spec := "closureEquivalent", unfollowed := true, recurses := true, apart := false, narrowed := true }
def ClosureEquivalentUptoSaid : Prop := closureEquivalentUptoRow.holds Try.pinned (OpenSpec.upto closureEquivalentSpec)

/-- 'plexuslaw08.ClosureChecks', WHERE WHAT IT READS IS OF BULK AT MOST 1048576: true; the input reads as it did. -/
def closureChecksUptoRow : OpenClaim := { program := "ythgplaledmccgaa", sum := "cd95212c3575b378d740da32d5414ae4596bec2e03b297e33372fd5886746ffe", func := "plexus/plexuslaw08.ClosureChecks", spec := "closureChecks", unfollowed := true, recurses := true, apart := false, narrowed := true }
def ClosureChecksUptoSaid : Prop := closureChecksUptoRow.holds Try.pinned (OpenSpec.upto closureChecksSpec)

/-- 'plexuslaw08.ClosureOperator', WHERE WHAT IT READS IS OF BULK AT MOST 1048576: true; the input reads as it did. -/
def closureOperatorUptoRow : OpenClaim := { program := "ythgplaledmccgaa", sum := "cd95212c3575b378d740da32d5414ae4596bec2e03b297e33372fd5886746ffe", func := "plexus/plexuslaw08.ClosureOperator", spec := "closureOperator", unfollowed := true, recurses := true, apart := false, narrowed := true }
def ClosureOperatorUptoSaid : Prop := closureOperatorUptoRow.holds Try.pinned (OpenSpec.upto closureOperatorSpec)

/-- 'plexuslaw08.ClosureWhy', WHERE WHAT IT READS IS OF BULK AT MOST 1048576: true; the input reads as it did. -/
def closureWhyUptoRow : OpenClaim := { program := "ythgplaledmccgaa", sum := "cd95212c3575b378d740da32d5414ae4596bec2e03b297e33372fd5886746ffe", func := "plexus/plexuslaw08.ClosureWhy", spec := "closureWhy", unfollowed := true, recurses := true, apart := false, narrowed := true }
def ClosureWhyUptoSaid : Prop := closureWhyUptoRow.holds Try.pinned (OpenSpec.upto closureWhySpec)

/-- 'plexuslaw08.ClosureDerives', WHERE WHAT IT READS IS OF BULK AT MOST 1048576: true; the input reads as it did. -/
def closureDerivesUptoRow : OpenClaim := { program := "ythgplaledmccgaa", sum := "cd95212c3575b378d740da32d5414ae4596bec2e03b297e33372fd5886746ffe", func := "plexus/plexuslaw08.ClosureDerives", spec := "closureDerives", unfollowed := true, recurses := true, apart := false, narrowed := true }
def ClosureDerivesUptoSaid : Prop := closureDerivesUptoRow.holds Try.pinned (OpenSpec.upto closureDerivesSpec)

/-- 'plexuslaw08.ClosureComplete', WHERE WHAT IT READS IS OF BULK AT MOST 1048576: true; the input reads as it did. -/
def closureCompleteUptoRow : OpenClaim := { program := "ythgplaledmccgaa", sum := "cd95212c3575b378d740da32d5414ae4596bec2e03b297e33372fd5886746ffe", func := "plexus/plexuslaw08.ClosureComplete", spec := "closureComplete", unfollowed := true, recurses := true, apart := false, narrowed := true }
def ClosureCompleteUptoSaid : Prop := closureCompleteUptoRow.holds Try.pinned (OpenSpec.upto closureCompleteSpec)

/-- 'plexuslaw08.ClosureStem', WHERE WHAT IT READS IS OF BULK AT MOST 1048576: true; the input reads as it did. -/
def closureStemUptoRow : OpenClaim := { program := "ythgplaledmccgaa", sum := "cd95212c3575b378d740da32d5414ae4596bec2e03b297e33372fd5886746ffe", func := "plexus/plexuslaw08.ClosureStem", spec := "closureStem", unfollowed := true, recurses := true, apart := false, narrowed := true }
def ClosureStemUptoSaid : Prop := closureStemUptoRow.holds Try.pinned (OpenSpec.upto closureStemSpec)

/-- 'plexuslaw08.ClosureReduces', WHERE WHAT IT READS IS OF BULK AT MOST 1048576: true; the input reads as it did. -/
def closureReducesUptoRow : OpenClaim := { program := "ythgplaledmccgaa", sum := "cd95212c3575b378d740da32d5414ae4596bec2e03b297e33372fd5886746ffe", func := "plexus/plexuslaw08.ClosureReduces", spec := "closureReduces", unfollowed := true, recurses := true, apart := false, narrowed := true }
def ClosureReducesUptoSaid : Prop := closureReducesUptoRow.holds Try.pinned (OpenSpec.upto closureReducesSpec)

/-- 'plexuslaw08.ClosureMinimal', WHERE WHAT IT READS IS OF BULK AT MOST 1048576: true; the input reads as it did. -/
def closureMinimalUptoRow : OpenClaim := { program := "ythgplaledmccgaa", sum := "cd95212c3575b378d740da32d5414ae4596bec2e03b297e33372fd5886746ffe", func := "plexus/plexuslaw08.ClosureMinimal", spec := "closureMinimal", unfollowed := true, recurses := true, apart := false, narrowed := true }
def ClosureMinimalUptoSaid : Prop := closureMinimalUptoRow.holds Try.pinned (OpenSpec.upto closureMinimalSpec)

/-- 'plexuslaw08.ClosureIrredundant', WHERE WHAT IT READS IS OF BULK AT MOST 1048576: true; the input reads as it did. -/
def closureIrredundantUptoRow : OpenClaim := { program := "ythgplaledmccgaa", sum := "cd95212c3575b378d740da32d5414ae4596bec2e03b297e33372fd5886746ffe", func := "plexus/plexuslaw08.ClosureIrredundant", spec := "closureIrredundant", unfollowed := true, recurses := true, apart := false, narrowed := true }
def ClosureIrredundantUptoSaid : Prop := closureIrredundantUptoRow.holds Try.pinned (OpenSpec.upto closureIrredundantSpec)

end Rows
end Go.Proofs.Ythgplaledmccgaa
