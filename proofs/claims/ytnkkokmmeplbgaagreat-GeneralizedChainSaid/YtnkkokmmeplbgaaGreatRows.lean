/-
  NARROWER THAN 'FOR EVERY INPUT', by the rows' own cells (each row's printed sentence says how): SingleshotProposer: loops · SingleshotAgrees: loops · SingleshotDecides: loops · SingleshotSplit: loops · SingleshotAlone: loops · GeneralizedPlays: loops · GeneralizedChain: loops · GeneralizedGrows: loops · GeneralizedContains: loops · GeneralizedRefines: loops · GeneralizedNews: loops.
  DERIVED. THE GIVEN ROWS OF THIS SEAT. 11 by the template 'for every input the law returns true; each argument reads behind the call as it read before'; 0 by the template 'total and deterministic' (their statements: YtnkkokmmeplbgaaGreatTotals.lean).
  GIVEN WITH THE SEED: the statements are not yours to turn. If you find one false, say at which input.
  Laid BY PROGRAM, IN A SANDBOX (cutbox-rows.mjs): the forced cells as the released guide's own fill.sh prints them over the translation 1cd9ed83644457ab… (all of the seat's roots in one cut). By AI agents, Wed Nov 11 2026. No macro, syntax, notation, axiom, sorry.
-/
import Derived.Test.YtnkkokmmeplbgaaGreatChecked
import GoSem.Claim
import GoSem.ClaimJoined
import GoSem.ClaimMapViews
import Derived.JoinedTies
import Derived.KernelRfl
namespace Go.Proofs.YtnkkokmmeplbgaaGreat
/- THE CELL 'sum', in the pinned program and in every row, IS THE sha256 OF THE DUMP (.gsa) THAT YtnkkokmmeplbgaaGreatProg.lean LOADS. Nothing in Lean hashes anything: it is a label: what it is worth is what the hold of that sum in a sandbox is worth. -/
noncomputable def Tryz.pinned : Pinned := { name := "ytnkkokmmeplbgaagreat", sum := "1cd9ed83644457ab640a703af8e82de2febbaf39130a62582b94998de8ee899d", checked := Tryz.checked }
namespace Rows
def none {H : Type} : Left H := { results := [], args := [] }

/-- 'plexuslaw34.SingleshotProposer': WHATEVER THE INPUT: true; the input reads as it did. -/
def singleshotProposerSpec : ChangeSpec := { name := "singleshotProposer", fn := fun _ => fun
  | [d1, d2, d3, d4, d5, d6] => { results := [.lit (.bool true)], args := [d1, d2, d3, d4, d5, d6] }
  | _ => none }
def singleshotProposerRow : OpenClaim := { program := "ytnkkokmmeplbgaagreat", sum := "1cd9ed83644457ab640a703af8e82de2febbaf39130a62582b94998de8ee899d", func := "plexus/plexuslaw34.SingleshotProposer", spec := "singleshotProposer", inPlace := ["internal/bytealg.abigen_runtime_cmpstring"], unfollowed := true, recurses := true, loops := true, apart := false }
def SingleshotProposerSaid : Prop := singleshotProposerRow.holds Tryz.pinned (OpenSpec.ofChange singleshotProposerSpec)

/-- ITS FALSE NEIGHBOUR: 'it returns false'. Refute it at one input. -/
def singleshotProposerWrong : ChangeSpec := { name := "singleshotProposer", fn := fun _ => fun
  | [d1, d2, d3, d4, d5, d6] => { results := [.lit (.bool false)], args := [d1, d2, d3, d4, d5, d6] }
  | _ => none }
def SingleshotProposerWrongFalsely : Prop := singleshotProposerRow.holds Tryz.pinned (OpenSpec.ofChange singleshotProposerWrong)

/-- 'plexuslaw34.SingleshotAgrees': WHATEVER THE INPUT: true; the input reads as it did. -/
def singleshotAgreesSpec : ChangeSpec := { name := "singleshotAgrees", fn := fun _ => fun
  | [d1, d2, d3, d4, d5] => { results := [.lit (.bool true)], args := [d1, d2, d3, d4, d5] }
  | _ => none }
def singleshotAgreesRow : OpenClaim := { program := "ytnkkokmmeplbgaagreat", sum := "1cd9ed83644457ab640a703af8e82de2febbaf39130a62582b94998de8ee899d", func := "plexus/plexuslaw34.SingleshotAgrees", spec := "singleshotAgrees", inPlace := ["internal/bytealg.abigen_runtime_cmpstring"], unfollowed := true, recurses := true, loops := true, apart := false }
def SingleshotAgreesSaid : Prop := singleshotAgreesRow.holds Tryz.pinned (OpenSpec.ofChange singleshotAgreesSpec)

/-- ITS FALSE NEIGHBOUR: 'it returns false'. Refute it at one input. -/
def singleshotAgreesWrong : ChangeSpec := { name := "singleshotAgrees", fn := fun _ => fun
  | [d1, d2, d3, d4, d5] => { results := [.lit (.bool false)], args := [d1, d2, d3, d4, d5] }
  | _ => none }
def SingleshotAgreesWrongFalsely : Prop := singleshotAgreesRow.holds Tryz.pinned (OpenSpec.ofChange singleshotAgreesWrong)

/-- 'plexuslaw34.SingleshotDecides': WHATEVER THE INPUT: true; the input reads as it did. -/
def singleshotDecidesSpec : ChangeSpec := { name := "singleshotDecides", fn := fun _ => fun
  | [d1, d2, d3, d4, d5] => { results := [.lit (.bool true)], args := [d1, d2, d3, d4, d5] }
  | _ => none }
def singleshotDecidesRow : OpenClaim := { program := "ytnkkokmmeplbgaagreat", sum := "1cd9ed83644457ab640a703af8e82de2febbaf39130a62582b94998de8ee899d", func := "plexus/plexuslaw34.SingleshotDecides", spec := "singleshotDecides", inPlace := ["internal/bytealg.abigen_runtime_cmpstring"], unfollowed := true, recurses := true, loops := true, apart := false }
def SingleshotDecidesSaid : Prop := singleshotDecidesRow.holds Tryz.pinned (OpenSpec.ofChange singleshotDecidesSpec)

/-- ITS FALSE NEIGHBOUR: 'it returns false'. Refute it at one input. -/
def singleshotDecidesWrong : ChangeSpec := { name := "singleshotDecides", fn := fun _ => fun
  | [d1, d2, d3, d4, d5] => { results := [.lit (.bool false)], args := [d1, d2, d3, d4, d5] }
  | _ => none }
def SingleshotDecidesWrongFalsely : Prop := singleshotDecidesRow.holds Tryz.pinned (OpenSpec.ofChange singleshotDecidesWrong)

/-- 'plexuslaw34.SingleshotSplit': WHATEVER THE INPUT: true; the input reads as it did. -/
def singleshotSplitSpec : ChangeSpec := { name := "singleshotSplit", fn := fun _ => fun
  | [d1, d2, d3, d4] => { results := [.lit (.bool true)], args := [d1, d2, d3, d4] }
  | _ => none }
def singleshotSplitRow : OpenClaim := { program := "ytnkkokmmeplbgaagreat", sum := "1cd9ed83644457ab640a703af8e82de2febbaf39130a62582b94998de8ee899d", func := "plexus/plexuslaw34.SingleshotSplit", spec := "singleshotSplit", inPlace := ["internal/bytealg.abigen_runtime_cmpstring"], unfollowed := true, recurses := true, loops := true, apart := false }
def SingleshotSplitSaid : Prop := singleshotSplitRow.holds Tryz.pinned (OpenSpec.ofChange singleshotSplitSpec)

/-- ITS FALSE NEIGHBOUR: 'it returns false'. Refute it at one input. -/
def singleshotSplitWrong : ChangeSpec := { name := "singleshotSplit", fn := fun _ => fun
  | [d1, d2, d3, d4] => { results := [.lit (.bool false)], args := [d1, d2, d3, d4] }
  | _ => none }
def SingleshotSplitWrongFalsely : Prop := singleshotSplitRow.holds Tryz.pinned (OpenSpec.ofChange singleshotSplitWrong)

/-- 'plexuslaw34.SingleshotAlone': WHATEVER THE INPUT: true; the input reads as it did. -/
def singleshotAloneSpec : ChangeSpec := { name := "singleshotAlone", fn := fun _ => fun
  | [d1, d2, d3, d4] => { results := [.lit (.bool true)], args := [d1, d2, d3, d4] }
  | _ => none }
def singleshotAloneRow : OpenClaim := { program := "ytnkkokmmeplbgaagreat", sum := "1cd9ed83644457ab640a703af8e82de2febbaf39130a62582b94998de8ee899d", func := "plexus/plexuslaw34.SingleshotAlone", spec := "singleshotAlone", inPlace := ["internal/bytealg.abigen_runtime_cmpstring"], unfollowed := true, recurses := true, loops := true, apart := false }
def SingleshotAloneSaid : Prop := singleshotAloneRow.holds Tryz.pinned (OpenSpec.ofChange singleshotAloneSpec)

/-- ITS FALSE NEIGHBOUR: 'it returns false'. Refute it at one input. -/
def singleshotAloneWrong : ChangeSpec := { name := "singleshotAlone", fn := fun _ => fun
  | [d1, d2, d3, d4] => { results := [.lit (.bool false)], args := [d1, d2, d3, d4] }
  | _ => none }
def SingleshotAloneWrongFalsely : Prop := singleshotAloneRow.holds Tryz.pinned (OpenSpec.ofChange singleshotAloneWrong)

/-- 'plexuslaw35.GeneralizedPlays': WHATEVER THE INPUT: true; the input reads as it did. -/
def generalizedPlaysSpec : ChangeSpec := { name := "generalizedPlays", fn := fun _ => fun
  | [d1, d2, d3, d4] => { results := [.lit (.bool true)], args := [d1, d2, d3, d4] }
  | _ => none }
def generalizedPlaysRow : OpenClaim := { program := "ytnkkokmmeplbgaagreat", sum := "1cd9ed83644457ab640a703af8e82de2febbaf39130a62582b94998de8ee899d", func := "plexus/plexuslaw35.GeneralizedPlays", spec := "generalizedPlays", inPlace := ["internal/bytealg.abigen_runtime_cmpstring"], unfollowed := true, recurses := true, loops := true, apart := false }
def GeneralizedPlaysSaid : Prop := generalizedPlaysRow.holds Tryz.pinned (OpenSpec.ofChange generalizedPlaysSpec)

/-- ITS FALSE NEIGHBOUR: 'it returns false'. Refute it at one input. -/
def generalizedPlaysWrong : ChangeSpec := { name := "generalizedPlays", fn := fun _ => fun
  | [d1, d2, d3, d4] => { results := [.lit (.bool false)], args := [d1, d2, d3, d4] }
  | _ => none }
def GeneralizedPlaysWrongFalsely : Prop := generalizedPlaysRow.holds Tryz.pinned (OpenSpec.ofChange generalizedPlaysWrong)

/-- 'plexuslaw35.GeneralizedChain': WHATEVER THE INPUT: true; the input reads as it did. -/
def generalizedChainSpec : ChangeSpec := { name := "generalizedChain", fn := fun _ => fun
  | [d1, d2, d3] => { results := [.lit (.bool true)], args := [d1, d2, d3] }
  | _ => none }
def generalizedChainRow : OpenClaim := { program := "ytnkkokmmeplbgaagreat", sum := "1cd9ed83644457ab640a703af8e82de2febbaf39130a62582b94998de8ee899d", func := "plexus/plexuslaw35.GeneralizedChain", spec := "generalizedChain", inPlace := ["internal/bytealg.abigen_runtime_cmpstring"], unfollowed := true, recurses := true, loops := true, apart := false }
def GeneralizedChainSaid : Prop := generalizedChainRow.holds Tryz.pinned (OpenSpec.ofChange generalizedChainSpec)

/-- ITS FALSE NEIGHBOUR: 'it returns false'. Refute it at one input. -/
def generalizedChainWrong : ChangeSpec := { name := "generalizedChain", fn := fun _ => fun
  | [d1, d2, d3] => { results := [.lit (.bool false)], args := [d1, d2, d3] }
  | _ => none }
def GeneralizedChainWrongFalsely : Prop := generalizedChainRow.holds Tryz.pinned (OpenSpec.ofChange generalizedChainWrong)

/-- 'plexuslaw35.GeneralizedGrows': WHATEVER THE INPUT: true; the input reads as it did. -/
def generalizedGrowsSpec : ChangeSpec := { name := "generalizedGrows", fn := fun _ => fun
  | [d1, d2, d3] => { results := [.lit (.bool true)], args := [d1, d2, d3] }
  | _ => none }
def generalizedGrowsRow : OpenClaim := { program := "ytnkkokmmeplbgaagreat", sum := "1cd9ed83644457ab640a703af8e82de2febbaf39130a62582b94998de8ee899d", func := "plexus/plexuslaw35.GeneralizedGrows", spec := "generalizedGrows", inPlace := ["internal/bytealg.abigen_runtime_cmpstring"], unfollowed := true, recurses := true, loops := true, apart := false }
def GeneralizedGrowsSaid : Prop := generalizedGrowsRow.holds Tryz.pinned (OpenSpec.ofChange generalizedGrowsSpec)

/-- ITS FALSE NEIGHBOUR: 'it returns false'. Refute it at one input. -/
def generalizedGrowsWrong : ChangeSpec := { name := "generalizedGrows", fn := fun _ => fun
  | [d1, d2, d3] => { results := [.lit (.bool false)], args := [d1, d2, d3] }
  | _ => none }
def GeneralizedGrowsWrongFalsely : Prop := generalizedGrowsRow.holds Tryz.pinned (OpenSpec.ofChange generalizedGrowsWrong)

/-- 'plexuslaw35.GeneralizedContains': WHATEVER THE INPUT: true; the input reads as it did. -/
def generalizedContainsSpec : ChangeSpec := { name := "generalizedContains", fn := fun _ => fun
  | [d1, d2, d3] => { results := [.lit (.bool true)], args := [d1, d2, d3] }
  | _ => none }
def generalizedContainsRow : OpenClaim := { program := "ytnkkokmmeplbgaagreat", sum := "1cd9ed83644457ab640a703af8e82de2febbaf39130a62582b94998de8ee899d", func := "plexus/plexuslaw35.GeneralizedContains", spec := "generalizedContains", inPlace := ["internal/bytealg.abigen_runtime_cmpstring"], unfollowed := true, recurses := true, loops := true, apart := false }
def GeneralizedContainsSaid : Prop := generalizedContainsRow.holds Tryz.pinned (OpenSpec.ofChange generalizedContainsSpec)

/-- ITS FALSE NEIGHBOUR: 'it returns false'. Refute it at one input. -/
def generalizedContainsWrong : ChangeSpec := { name := "generalizedContains", fn := fun _ => fun
  | [d1, d2, d3] => { results := [.lit (.bool false)], args := [d1, d2, d3] }
  | _ => none }
def GeneralizedContainsWrongFalsely : Prop := generalizedContainsRow.holds Tryz.pinned (OpenSpec.ofChange generalizedContainsWrong)

/-- 'plexuslaw35.GeneralizedRefines': WHATEVER THE INPUT: true; the input reads as it did. -/
def generalizedRefinesSpec : ChangeSpec := { name := "generalizedRefines", fn := fun _ => fun
  | [d1, d2, d3] => { results := [.lit (.bool true)], args := [d1, d2, d3] }
  | _ => none }
def generalizedRefinesRow : OpenClaim := { program := "ytnkkokmmeplbgaagreat", sum := "1cd9ed83644457ab640a703af8e82de2febbaf39130a62582b94998de8ee899d", func := "plexus/plexuslaw35.GeneralizedRefines", spec := "generalizedRefines", inPlace := ["internal/bytealg.abigen_runtime_cmpstring"], unfollowed := true, recurses := true, loops := true, apart := false }
def GeneralizedRefinesSaid : Prop := generalizedRefinesRow.holds Tryz.pinned (OpenSpec.ofChange generalizedRefinesSpec)

/-- ITS FALSE NEIGHBOUR: 'it returns false'. Refute it at one input. -/
def generalizedRefinesWrong : ChangeSpec := { name := "generalizedRefines", fn := fun _ => fun
  | [d1, d2, d3] => { results := [.lit (.bool false)], args := [d1, d2, d3] }
  | _ => none }
def GeneralizedRefinesWrongFalsely : Prop := generalizedRefinesRow.holds Tryz.pinned (OpenSpec.ofChange generalizedRefinesWrong)

/-- 'plexuslaw35.GeneralizedNews': WHATEVER THE INPUT: true; the input reads as it did. -/
def generalizedNewsSpec : ChangeSpec := { name := "generalizedNews", fn := fun _ => fun
  | [d1, d2, d3] => { results := [.lit (.bool true)], args := [d1, d2, d3] }
  | _ => none }
def generalizedNewsRow : OpenClaim := { program := "ytnkkokmmeplbgaagreat", sum := "1cd9ed83644457ab640a703af8e82de2febbaf39130a62582b94998de8ee899d", func := "plexus/plexuslaw35.GeneralizedNews", spec := "generalizedNews", inPlace := ["internal/bytealg.abigen_runtime_cmpstring"], unfollowed := true, recurses := true, loops := true, apart := false }
def GeneralizedNewsSaid : Prop := generalizedNewsRow.holds Tryz.pinned (OpenSpec.ofChange generalizedNewsSpec)

/-- ITS FALSE NEIGHBOUR: 'it returns false'. Refute it at one input. -/
def generalizedNewsWrong : ChangeSpec := { name := "generalizedNews", fn := fun _ => fun
  | [d1, d2, d3] => { results := [.lit (.bool false)], args := [d1, d2, d3] }
  | _ => none }
def GeneralizedNewsWrongFalsely : Prop := generalizedNewsRow.holds Tryz.pinned (OpenSpec.ofChange generalizedNewsWrong)

/- THE SECOND FORM. 'bulk': how many values and letters a reading holds, each counted each time it is reached (what is shared counts as often as it is met; a slice's spare places count too). A statement '..UptoSaid' is the law's where the arguments, and the package variables that the reading takes, are together of bulk at most 1048576: NARROWER than '..Said'. Prove '..Said' where nothing that the law and all that it calls make is longer than what came in: it says more and counts as full. Else prove '..UptoSaid'. A law counts once. -/
mutual
def uptoBulk {H : Type} : DataW H → Nat
  | .lit (.string bytes) => bytes.length + 1
  | .lit _ => 1
  | .nil => 1
  | .ptr d => uptoBulk d + 1
  | .slice elems spare => uptoBulkAll elems + uptoBulkAll spare + 1
  | .agg parts => uptoBulkAll parts + 1
  | .iface _ d => uptoBulk d + 1
  | .map entries => uptoBulkEntries entries + 1
  | .held _ => 1
def uptoBulkAll {H : Type} : List (DataW H) → Nat
  | [] => 0
  | d :: r => uptoBulk d + uptoBulkAll r
def uptoBulkEntries {H : Type} : List (Lit × DataW H) → Nat
  | [] => 0
  | x :: r => uptoBulkEntry x + uptoBulkEntries r
def uptoBulkEntry {H : Type} : Lit × DataW H → Nat
  | (.string bytes, d) => bytes.length + uptoBulk d + 1
  | (_, d) => uptoBulk d + 1
 end
def uptoSmall : (H : Type) → List (DataW H) → Bool := fun _ ds => decide (uptoBulkAll ds ≤ 1048576)
def OpenSpec.upto (s : _root_.Go.ChangeSpec) : _root_.Go.OpenSpec := { _root_.Go.OpenSpec.ofChange s with cond := some uptoSmall }

/-- 'plexuslaw34.SingleshotProposer', WHERE WHAT IT READS IS OF BULK AT MOST 1048576: true; the input reads as it did. -/
def singleshotProposerUptoRow : OpenClaim := { program := "ytnkkokmmeplbgaagreat", sum := "1cd9ed83644457ab640a703af8e82de2febbaf39130a62582b94998de8ee899d", func := "plexus/plexuslaw34.SingleshotProposer", spec := "singleshotProposer", inPlace := ["internal/bytealg.abigen_runtime_cmpstring"], unfollowed := true, recurses := true, loops := true, apart := false, narrowed := true }
def SingleshotProposerUptoSaid : Prop := singleshotProposerUptoRow.holds Tryz.pinned (OpenSpec.upto singleshotProposerSpec)

/-- 'plexuslaw34.SingleshotAgrees', WHERE WHAT IT READS IS OF BULK AT MOST 1048576: true; the input reads as it did. -/
def singleshotAgreesUptoRow : OpenClaim := { program := "ytnkkokmmeplbgaagreat", sum := "1cd9ed83644457ab640a703af8e82de2febbaf39130a62582b94998de8ee899d", func := "plexus/plexuslaw34.SingleshotAgrees", spec := "singleshotAgrees", inPlace := ["internal/bytealg.abigen_runtime_cmpstring"], unfollowed := true, recurses := true, loops := true, apart := false, narrowed := true }
def SingleshotAgreesUptoSaid : Prop := singleshotAgreesUptoRow.holds Tryz.pinned (OpenSpec.upto singleshotAgreesSpec)

/-- 'plexuslaw34.SingleshotDecides', WHERE WHAT IT READS IS OF BULK AT MOST 1048576: true; the input reads as it did. -/
def singleshotDecidesUptoRow : OpenClaim := { program := "ytnkkokmmeplbgaagreat", sum := "1cd9ed83644457ab640a703af8e82de2febbaf39130a62582b94998de8ee899d", func := "plexus/plexuslaw34.SingleshotDecides", spec := "singleshotDecides", inPlace := ["internal/bytealg.abigen_runtime_cmpstring"], unfollowed := true, recurses := true, loops := true, apart := false, narrowed := true }
def SingleshotDecidesUptoSaid : Prop := singleshotDecidesUptoRow.holds Tryz.pinned (OpenSpec.upto singleshotDecidesSpec)

/-- 'plexuslaw34.SingleshotSplit', WHERE WHAT IT READS IS OF BULK AT MOST 1048576: true; the input reads as it did. -/
def singleshotSplitUptoRow : OpenClaim := { program := "ytnkkokmmeplbgaagreat", sum := "1cd9ed83644457ab640a703af8e82de2febbaf39130a62582b94998de8ee899d", func := "plexus/plexuslaw34.SingleshotSplit", spec := "singleshotSplit", inPlace := ["internal/bytealg.abigen_runtime_cmpstring"], unfollowed := true, recurses := true, loops := true, apart := false, narrowed := true }
def SingleshotSplitUptoSaid : Prop := singleshotSplitUptoRow.holds Tryz.pinned (OpenSpec.upto singleshotSplitSpec)

/-- 'plexuslaw34.SingleshotAlone', WHERE WHAT IT READS IS OF BULK AT MOST 1048576: true; the input reads as it did. -/
def singleshotAloneUptoRow : OpenClaim := { program := "ytnkkokmmeplbgaagreat", sum := "1cd9ed83644457ab640a703af8e82de2febbaf39130a62582b94998de8ee899d", func := "plexus/plexuslaw34.SingleshotAlone", spec := "singleshotAlone", inPlace := ["internal/bytealg.abigen_runtime_cmpstring"], unfollowed := true, recurses := true, loops := true, apart := false, narrowed := true }
def SingleshotAloneUptoSaid : Prop := singleshotAloneUptoRow.holds Tryz.pinned (OpenSpec.upto singleshotAloneSpec)

/-- 'plexuslaw35.GeneralizedPlays', WHERE WHAT IT READS IS OF BULK AT MOST 1048576: true; the input reads as it did. -/
def generalizedPlaysUptoRow : OpenClaim := { program := "ytnkkokmmeplbgaagreat", sum := "1cd9ed83644457ab640a703af8e82de2febbaf39130a62582b94998de8ee899d", func := "plexus/plexuslaw35.GeneralizedPlays", spec := "generalizedPlays", inPlace := ["internal/bytealg.abigen_runtime_cmpstring"], unfollowed := true, recurses := true, loops := true, apart := false, narrowed := true }
def GeneralizedPlaysUptoSaid : Prop := generalizedPlaysUptoRow.holds Tryz.pinned (OpenSpec.upto generalizedPlaysSpec)

/-- 'plexuslaw35.GeneralizedChain', WHERE WHAT IT READS IS OF BULK AT MOST 1048576: true; the input reads as it did. -/
def generalizedChainUptoRow : OpenClaim := { program := "ytnkkokmmeplbgaagreat", sum := "1cd9ed83644457ab640a703af8e82de2febbaf39130a62582b94998de8ee899d", func := "plexus/plexuslaw35.GeneralizedChain", spec := "generalizedChain", inPlace := ["internal/bytealg.abigen_runtime_cmpstring"], unfollowed := true, recurses := true, loops := true, apart := false, narrowed := true }
def GeneralizedChainUptoSaid : Prop := generalizedChainUptoRow.holds Tryz.pinned (OpenSpec.upto generalizedChainSpec)

/-- 'plexuslaw35.GeneralizedGrows', WHERE WHAT IT READS IS OF BULK AT MOST 1048576: true; the input reads as it did. -/
def generalizedGrowsUptoRow : OpenClaim := { program := "ytnkkokmmeplbgaagreat", sum := "1cd9ed83644457ab640a703af8e82de2febbaf39130a62582b94998de8ee899d", func := "plexus/plexuslaw35.GeneralizedGrows", spec := "generalizedGrows", inPlace := ["internal/bytealg.abigen_runtime_cmpstring"], unfollowed := true, recurses := true, loops := true, apart := false, narrowed := true }
def GeneralizedGrowsUptoSaid : Prop := generalizedGrowsUptoRow.holds Tryz.pinned (OpenSpec.upto generalizedGrowsSpec)

/-- 'plexuslaw35.GeneralizedContains', WHERE WHAT IT READS IS OF BULK AT MOST 1048576: true; the input reads as it did. -/
def generalizedContainsUptoRow : OpenClaim := { program := "ytnkkokmmeplbgaagreat", sum := "1cd9ed83644457ab640a703af8e82de2febbaf39130a62582b94998de8ee899d", func := "plexus/plexuslaw35.GeneralizedContains", spec := "generalizedContains", inPlace := ["internal/bytealg.abigen_runtime_cmpstring"], unfollowed := true, recurses := true, loops := true, apart := false, narrowed := true }
def GeneralizedContainsUptoSaid : Prop := generalizedContainsUptoRow.holds Tryz.pinned (OpenSpec.upto generalizedContainsSpec)

/-- 'plexuslaw35.GeneralizedRefines', WHERE WHAT IT READS IS OF BULK AT MOST 1048576: true; the input reads as it did. -/
def generalizedRefinesUptoRow : OpenClaim := { program := "ytnkkokmmeplbgaagreat", sum := "1cd9ed83644457ab640a703af8e82de2febbaf39130a62582b94998de8ee899d", func := "plexus/plexuslaw35.GeneralizedRefines", spec := "generalizedRefines", inPlace := ["internal/bytealg.abigen_runtime_cmpstring"], unfollowed := true, recurses := true, loops := true, apart := false, narrowed := true }
def GeneralizedRefinesUptoSaid : Prop := generalizedRefinesUptoRow.holds Tryz.pinned (OpenSpec.upto generalizedRefinesSpec)

/-- 'plexuslaw35.GeneralizedNews', WHERE WHAT IT READS IS OF BULK AT MOST 1048576: true; the input reads as it did. -/
def generalizedNewsUptoRow : OpenClaim := { program := "ytnkkokmmeplbgaagreat", sum := "1cd9ed83644457ab640a703af8e82de2febbaf39130a62582b94998de8ee899d", func := "plexus/plexuslaw35.GeneralizedNews", spec := "generalizedNews", inPlace := ["internal/bytealg.abigen_runtime_cmpstring"], unfollowed := true, recurses := true, loops := true, apart := false, narrowed := true }
def GeneralizedNewsUptoSaid : Prop := generalizedNewsUptoRow.holds Tryz.pinned (OpenSpec.upto generalizedNewsSpec)

end Rows
end Go.Proofs.YtnkkokmmeplbgaaGreat
