/-
  NARROWER THAN 'FOR EVERY INPUT', by the rows' own cells (each row's printed sentence says how): SingleshotAcceptor: loops · SingleshotProposer: loops · SingleshotGrows: loops · SingleshotAgrees: loops · SingleshotDecides: loops · SingleshotSplit: loops · SingleshotAlone: loops.
  DERIVED. THE GIVEN ROWS OF THIS SEAT. 7 by the template 'for every input the law returns true; each argument reads behind the call as it read before'; 0 by the template 'total and deterministic' (their statements: YtnjmbgnaplomaaaGreatTotals.lean).
  GIVEN WITH THE SEED: the statements are not yours to turn. If you find one false, say at which input.
  Laid BY PROGRAM, IN A SANDBOX (cutbox-rows.mjs): the forced cells as the released guide's own fill.sh prints them over the translation c3c19a7df4094056… (all of the seat's roots in one cut). By AI agents, Wed Nov 11 2026. No macro, syntax, notation, axiom, sorry.
-/
import Derived.Test.YtnjmbgnaplomaaaGreatChecked
import GoSem.Claim
import GoSem.ClaimJoined
import GoSem.ClaimMapViews
import Derived.JoinedTies
import Derived.KernelRfl
namespace Go.Proofs.YtnjmbgnaplomaaaGreat
/- THE CELL 'sum', in the pinned program and in every row, IS THE sha256 OF THE DUMP (.gsa) THAT YtnjmbgnaplomaaaGreatProg.lean LOADS. Nothing in Lean hashes anything: it is a label: what it is worth is what the hold of that sum in a sandbox is worth. -/
noncomputable def Tryz.pinned : Pinned := { name := "ytnjmbgnaplomaaagreat", sum := "c3c19a7df40940567cb958b10c3e2f6eb7627214d2d308345e987ea2c6340843", checked := Tryz.checked }
namespace Rows
def none {H : Type} : Left H := { results := [], args := [] }

/-- 'plexuslaw34.SingleshotAcceptor': WHATEVER THE INPUT: true; the input reads as it did. -/
def singleshotAcceptorSpec : ChangeSpec := { name := "singleshotAcceptor", fn := fun _ => fun
  | [d1, d2, d3] => { results := [.lit (.bool true)], args := [d1, d2, d3] }
  | _ => none }
def singleshotAcceptorRow : OpenClaim := { program := "ytnjmbgnaplomaaagreat", sum := "c3c19a7df40940567cb958b10c3e2f6eb7627214d2d308345e987ea2c6340843", func := "plexus/plexuslaw34.SingleshotAcceptor", spec := "singleshotAcceptor", inPlace := ["internal/bytealg.abigen_runtime_cmpstring"], unfollowed := true, recurses := true, loops := true, apart := false }
def SingleshotAcceptorSaid : Prop := singleshotAcceptorRow.holds Tryz.pinned (OpenSpec.ofChange singleshotAcceptorSpec)

/-- ITS FALSE NEIGHBOUR: 'it returns false'. Refute it at one input. -/
def singleshotAcceptorWrong : ChangeSpec := { name := "singleshotAcceptor", fn := fun _ => fun
  | [d1, d2, d3] => { results := [.lit (.bool false)], args := [d1, d2, d3] }
  | _ => none }
def SingleshotAcceptorWrongFalsely : Prop := singleshotAcceptorRow.holds Tryz.pinned (OpenSpec.ofChange singleshotAcceptorWrong)

/-- 'plexuslaw34.SingleshotProposer': WHATEVER THE INPUT: true; the input reads as it did. -/
def singleshotProposerSpec : ChangeSpec := { name := "singleshotProposer", fn := fun _ => fun
  | [d1, d2, d3, d4, d5, d6] => { results := [.lit (.bool true)], args := [d1, d2, d3, d4, d5, d6] }
  | _ => none }
def singleshotProposerRow : OpenClaim := { program := "ytnjmbgnaplomaaagreat", sum := "c3c19a7df40940567cb958b10c3e2f6eb7627214d2d308345e987ea2c6340843", func := "plexus/plexuslaw34.SingleshotProposer", spec := "singleshotProposer", inPlace := ["internal/bytealg.abigen_runtime_cmpstring"], unfollowed := true, recurses := true, loops := true, apart := false }
def SingleshotProposerSaid : Prop := singleshotProposerRow.holds Tryz.pinned (OpenSpec.ofChange singleshotProposerSpec)

/-- ITS FALSE NEIGHBOUR: 'it returns false'. Refute it at one input. -/
def singleshotProposerWrong : ChangeSpec := { name := "singleshotProposer", fn := fun _ => fun
  | [d1, d2, d3, d4, d5, d6] => { results := [.lit (.bool false)], args := [d1, d2, d3, d4, d5, d6] }
  | _ => none }
def SingleshotProposerWrongFalsely : Prop := singleshotProposerRow.holds Tryz.pinned (OpenSpec.ofChange singleshotProposerWrong)

/-- 'plexuslaw34.SingleshotGrows': WHATEVER THE INPUT: true; the input reads as it did. -/
def singleshotGrowsSpec : ChangeSpec := { name := "singleshotGrows", fn := fun _ => fun
  | [d1, d2] => { results := [.lit (.bool true)], args := [d1, d2] }
  | _ => none }
def singleshotGrowsRow : OpenClaim := { program := "ytnjmbgnaplomaaagreat", sum := "c3c19a7df40940567cb958b10c3e2f6eb7627214d2d308345e987ea2c6340843", func := "plexus/plexuslaw34.SingleshotGrows", spec := "singleshotGrows", inPlace := ["internal/bytealg.abigen_runtime_cmpstring"], unfollowed := true, recurses := true, loops := true, apart := false }
def SingleshotGrowsSaid : Prop := singleshotGrowsRow.holds Tryz.pinned (OpenSpec.ofChange singleshotGrowsSpec)

/-- ITS FALSE NEIGHBOUR: 'it returns false'. Refute it at one input. -/
def singleshotGrowsWrong : ChangeSpec := { name := "singleshotGrows", fn := fun _ => fun
  | [d1, d2] => { results := [.lit (.bool false)], args := [d1, d2] }
  | _ => none }
def SingleshotGrowsWrongFalsely : Prop := singleshotGrowsRow.holds Tryz.pinned (OpenSpec.ofChange singleshotGrowsWrong)

/-- 'plexuslaw34.SingleshotAgrees': WHATEVER THE INPUT: true; the input reads as it did. -/
def singleshotAgreesSpec : ChangeSpec := { name := "singleshotAgrees", fn := fun _ => fun
  | [d1, d2, d3, d4, d5] => { results := [.lit (.bool true)], args := [d1, d2, d3, d4, d5] }
  | _ => none }
def singleshotAgreesRow : OpenClaim := { program := "ytnjmbgnaplomaaagreat", sum := "c3c19a7df40940567cb958b10c3e2f6eb7627214d2d308345e987ea2c6340843", func := "plexus/plexuslaw34.SingleshotAgrees", spec := "singleshotAgrees", inPlace := ["internal/bytealg.abigen_runtime_cmpstring"], unfollowed := true, recurses := true, loops := true, apart := false }
def SingleshotAgreesSaid : Prop := singleshotAgreesRow.holds Tryz.pinned (OpenSpec.ofChange singleshotAgreesSpec)

/-- ITS FALSE NEIGHBOUR: 'it returns false'. Refute it at one input. -/
def singleshotAgreesWrong : ChangeSpec := { name := "singleshotAgrees", fn := fun _ => fun
  | [d1, d2, d3, d4, d5] => { results := [.lit (.bool false)], args := [d1, d2, d3, d4, d5] }
  | _ => none }
def SingleshotAgreesWrongFalsely : Prop := singleshotAgreesRow.holds Tryz.pinned (OpenSpec.ofChange singleshotAgreesWrong)

/-- 'plexuslaw34.SingleshotDecides': WHATEVER THE INPUT: true; the input reads as it did. -/
def singleshotDecidesSpec : ChangeSpec := { name := "singleshotDecides", fn := fun _ => fun
  | [d1, d2, d3, d4, d5] => { results := [.lit (.bool true)], args := [d1, d2, d3, d4, d5] }
  | _ => none }
def singleshotDecidesRow : OpenClaim := { program := "ytnjmbgnaplomaaagreat", sum := "c3c19a7df40940567cb958b10c3e2f6eb7627214d2d308345e987ea2c6340843", func := "plexus/plexuslaw34.SingleshotDecides", spec := "singleshotDecides", inPlace := ["internal/bytealg.abigen_runtime_cmpstring"], unfollowed := true, recurses := true, loops := true, apart := false }
def SingleshotDecidesSaid : Prop := singleshotDecidesRow.holds Tryz.pinned (OpenSpec.ofChange singleshotDecidesSpec)

/-- ITS FALSE NEIGHBOUR: 'it returns false'. Refute it at one input. -/
def singleshotDecidesWrong : ChangeSpec := { name := "singleshotDecides", fn := fun _ => fun
  | [d1, d2, d3, d4, d5] => { results := [.lit (.bool false)], args := [d1, d2, d3, d4, d5] }
  | _ => none }
def SingleshotDecidesWrongFalsely : Prop := singleshotDecidesRow.holds Tryz.pinned (OpenSpec.ofChange singleshotDecidesWrong)

/-- 'plexuslaw34.SingleshotSplit': WHATEVER THE INPUT: true; the input reads as it did. -/
def singleshotSplitSpec : ChangeSpec := { name := "singleshotSplit", fn := fun _ => fun
  | [d1, d2, d3, d4] => { results := [.lit (.bool true)], args := [d1, d2, d3, d4] }
  | _ => none }
def singleshotSplitRow : OpenClaim := { program := "ytnjmbgnaplomaaagreat", sum := "c3c19a7df40940567cb958b10c3e2f6eb7627214d2d308345e987ea2c6340843", func := "plexus/plexuslaw34.SingleshotSplit", spec := "singleshotSplit", inPlace := ["internal/bytealg.abigen_runtime_cmpstring"], unfollowed := true, recurses := true, loops := true, apart := false }
def SingleshotSplitSaid : Prop := singleshotSplitRow.holds Tryz.pinned (OpenSpec.ofChange singleshotSplitSpec)

/-- ITS FALSE NEIGHBOUR: 'it returns false'. Refute it at one input. -/
def singleshotSplitWrong : ChangeSpec := { name := "singleshotSplit", fn := fun _ => fun
  | [d1, d2, d3, d4] => { results := [.lit (.bool false)], args := [d1, d2, d3, d4] }
  | _ => none }
def SingleshotSplitWrongFalsely : Prop := singleshotSplitRow.holds Tryz.pinned (OpenSpec.ofChange singleshotSplitWrong)

/-- 'plexuslaw34.SingleshotAlone': WHATEVER THE INPUT: true; the input reads as it did. -/
def singleshotAloneSpec : ChangeSpec := { name := "singleshotAlone", fn := fun _ => fun
  | [d1, d2, d3, d4] => { results := [.lit (.bool true)], args := [d1, d2, d3, d4] }
  | _ => none }
def singleshotAloneRow : OpenClaim := { program := "ytnjmbgnaplomaaagreat", sum := "c3c19a7df40940567cb958b10c3e2f6eb7627214d2d308345e987ea2c6340843", func := "plexus/plexuslaw34.SingleshotAlone", spec := "singleshotAlone", inPlace := ["internal/bytealg.abigen_runtime_cmpstring"], unfollowed := true, recurses := true, loops := true, apart := false }
def SingleshotAloneSaid : Prop := singleshotAloneRow.holds Tryz.pinned (OpenSpec.ofChange singleshotAloneSpec)

/-- ITS FALSE NEIGHBOUR: 'it returns false'. Refute it at one input. -/
def singleshotAloneWrong : ChangeSpec := { name := "singleshotAlone", fn := fun _ => fun
  | [d1, d2, d3, d4] => { results := [.lit (.bool false)], args := [d1, d2, d3, d4] }
  | _ => none }
def SingleshotAloneWrongFalsely : Prop := singleshotAloneRow.holds Tryz.pinned (OpenSpec.ofChange singleshotAloneWrong)

/- THE SECOND FORM. 'bulk': how many values and letters a reading holds, each counted each time it is reached (what is shared counts as often as it is met; a slice's spare places count too). A statement '..UptoSaid' is the law's where the arguments, and the package variables that the reading takes, are together of bulk at most 1048576: NARROWER than '..Said'. Prove '..Said' where nothing that the law and all that it calls make is longer than what came in: it says more and counts as full. Else prove '..UptoSaid'. A law counts once. -/
mutual
def uptoBulk {H : Type} : DataW H → Nat
  | .lit (.string bytes) => bytes.length + 1
  | .lit _ => 1
  | .nil => 1
  | .ptr d => uptoBulk d + 1
  | .slice elems spare => uptoBulkAll elems + uptoBulkAll spare + 1
  | .agg parts => uptoBulkAll parts + 1
  | .iface _ d => uptoBulk d + 1
  | .map entries => uptoBulkEntries entries + 1
  | .held _ => 1
def uptoBulkAll {H : Type} : List (DataW H) → Nat
  | [] => 0
  | d :: r => uptoBulk d + uptoBulkAll r
def uptoBulkEntries {H : Type} : List (Lit × DataW H) → Nat
  | [] => 0
  | x :: r => uptoBulkEntry x + uptoBulkEntries r
def uptoBulkEntry {H : Type} : Lit × DataW H → Nat
  | (.string bytes, d) => bytes.length + uptoBulk d + 1
  | (_, d) => uptoBulk d + 1
 end
def uptoSmall : (H : Type) → List (DataW H) → Bool := fun _ ds => decide (uptoBulkAll ds ≤ 1048576)
def OpenSpec.upto (s : _root_.Go.ChangeSpec) : _root_.Go.OpenSpec := { _root_.Go.OpenSpec.ofChange s with cond := some uptoSmall }

/-- 'plexuslaw34.SingleshotAcceptor', WHERE WHAT IT READS IS OF BULK AT MOST 1048576: true; the input reads as it did. -/
def singleshotAcceptorUptoRow : OpenClaim := { program := "ytnjmbgnaplomaaagreat", sum := "c3c19a7df40940567cb958b10c3e2f6eb7627214d2d308345e987ea2c6340843", func := "plexus/plexuslaw34.SingleshotAcceptor", spec := "singleshotAcceptor", inPlace := ["internal/bytealg.abigen_runtime_cmpstring"], unfollowed := true, recurses := true, loops := true, apart := false, narrowed := true }
def SingleshotAcceptorUptoSaid : Prop := singleshotAcceptorUptoRow.holds Tryz.pinned (OpenSpec.upto singleshotAcceptorSpec)

/-- 'plexuslaw34.SingleshotProposer', WHERE WHAT IT READS IS OF BULK AT MOST 1048576: true; the input reads as it did. -/
def singleshotProposerUptoRow : OpenClaim := { program := "ytnjmbgnaplomaaagreat", sum := "c3c19a7df40940567cb958b10c3e2f6eb7627214d2d308345e987ea2c6340843", func := "plexus/plexuslaw34.SingleshotProposer", spec := "singleshotProposer", inPlace := ["internal/bytealg.abigen_runtime_cmpstring"], unfollowed := true, recurses := true, loops := true, apart := false, narrowed := true }
def SingleshotProposerUptoSaid : Prop := singleshotProposerUptoRow.holds Tryz.pinned (OpenSpec.upto singleshotProposerSpec)

/-- 'plexuslaw34.SingleshotGrows', WHERE WHAT IT READS IS OF BULK AT MOST 1048576: true; the input reads as it did. -/
def singleshotGrowsUptoRow : OpenClaim := { program := "ytnjmbgnaplomaaagreat", sum := "c3c19a7df40940567cb958b10c3e2f6eb7627214d2d308345e987ea2c6340843", func := "plexus/plexuslaw34.SingleshotGrows", spec := "singleshotGrows", inPlace := ["internal/bytealg.abigen_runtime_cmpstring"], unfollowed := true, recurses := true, loops := true, apart := false, narrowed := true }
def SingleshotGrowsUptoSaid : Prop := singleshotGrowsUptoRow.holds Tryz.pinned (OpenSpec.upto singleshotGrowsSpec)

/-- 'plexuslaw34.SingleshotAgrees', WHERE WHAT IT READS IS OF BULK AT MOST 1048576: true; the input reads as it did. -/
def singleshotAgreesUptoRow : OpenClaim := { program := "ytnjmbgnaplomaaagreat", sum := "c3c19a7df40940567cb958b10c3e2f6eb7627214d2d308345e987ea2c6340843", func := "plexus/plexuslaw34.SingleshotAgrees", spec := "singleshotAgrees", inPlace := ["internal/bytealg.abigen_runtime_cmpstring"], unfollowed := true, recurses := true, loops := true, apart := false, narrowed := true }
def SingleshotAgreesUptoSaid : Prop := singleshotAgreesUptoRow.holds Tryz.pinned (OpenSpec.upto singleshotAgreesSpec)

/-- 'plexuslaw34.SingleshotDecides', WHERE WHAT IT READS IS OF BULK AT MOST 1048576: true; the input reads as it did. -/
def singleshotDecidesUptoRow : OpenClaim := { program := "ytnjmbgnaplomaaagreat", sum := "c3c19a7df40940567cb958b10c3e2f6eb7627214d2d308345e987ea2c6340843", func := "plexus/plexuslaw34.SingleshotDecides", spec := "singleshotDecides", inPlace := ["internal/bytealg.abigen_runtime_cmpstring"], unfollowed := true, recurses := true, loops := true, apart := false, narrowed := true }
def SingleshotDecidesUptoSaid : Prop := singleshotDecidesUptoRow.holds Tryz.pinned (OpenSpec.upto singleshotDecidesSpec)

/-- 'plexuslaw34.SingleshotSplit', WHERE WHAT IT READS IS OF BULK AT MOST 1048576: true; the input reads as it did. -/
def singleshotSplitUptoRow : OpenClaim := { program := "ytnjmbgnaplomaaagreat", sum := "c3c19a7df40940567cb958b10c3e2f6eb7627214d2d308345e987ea2c6340843", func := "plexus/plexuslaw34.SingleshotSplit", spec := "singleshotSplit", inPlace := ["internal/bytealg.abigen_runtime_cmpstring"], unfollowed := true, recurses := true, loops := true, apart := false, narrowed := true }
def SingleshotSplitUptoSaid : Prop := singleshotSplitUptoRow.holds Tryz.pinned (OpenSpec.upto singleshotSplitSpec)

/-- 'plexuslaw34.SingleshotAlone', WHERE WHAT IT READS IS OF BULK AT MOST 1048576: true; the input reads as it did. -/
def singleshotAloneUptoRow : OpenClaim := { program := "ytnjmbgnaplomaaagreat", sum := "c3c19a7df40940567cb958b10c3e2f6eb7627214d2d308345e987ea2c6340843", func := "plexus/plexuslaw34.SingleshotAlone", spec := "singleshotAlone", inPlace := ["internal/bytealg.abigen_runtime_cmpstring"], unfollowed := true, recurses := true, loops := true, apart := false, narrowed := true }
def SingleshotAloneUptoSaid : Prop := singleshotAloneUptoRow.holds Tryz.pinned (OpenSpec.upto singleshotAloneSpec)

end Rows
end Go.Proofs.YtnjmbgnaplomaaaGreat
