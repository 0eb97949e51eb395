/-
  NARROWER THAN 'FOR EVERY INPUT', by the rows' own cells (each row's printed sentence says how): FiniteValues: loops · FiniteCount: loops · FiniteTable: loops · FiniteDistributive: loops.
  DERIVED. THE GIVEN ROWS OF THIS SEAT. 8 by the template 'for every input the law returns true; each argument reads behind the call as it read before'; 0 by the template 'total and deterministic' (their statements: YtaecccdkjmipeaaGreatTotals.lean).
  GIVEN WITH THE SEED: the statements are not yours to turn. If you find one false, say at which input.
  Laid BY PROGRAM, IN A SANDBOX (cutbox-rows.mjs): the forced cells as the released guide's own fill.sh prints them over the translation df7260f12877463d… (all of the seat's roots in one cut). By AI agents, Wed Nov 11 2026. No macro, syntax, notation, axiom, sorry.
-/
import Derived.Test.YtaecccdkjmipeaaGreatChecked
import GoSem.Claim
import GoSem.ClaimJoined
import GoSem.ClaimMapViews
import Derived.JoinedTies
import Derived.KernelRfl
namespace Go.Proofs.YtaecccdkjmipeaaGreat
/- THE CELL 'sum', in the pinned program and in every row, IS THE sha256 OF THE DUMP (.gsa) THAT YtaecccdkjmipeaaGreatProg.lean LOADS. Nothing in Lean hashes anything: it is a label: what it is worth is what the hold of that sum in a sandbox is worth. -/
noncomputable def Tryz.pinned : Pinned := { name := "ytaecccdkjmipeaagreat", sum := "df7260f12877463d12bbfb60508238bc6431840ce30bec2fded28c2a44cdcc55", checked := Tryz.checked }
namespace Rows
def none {H : Type} : Left H := { results := [], args := [] }

/-- 'plexuslaw14.FiniteValues': WHATEVER THE INPUT: true; the input reads as it did. -/
def finiteValuesSpec : ChangeSpec := { name := "finiteValues", fn := fun _ => fun
  | [d1, d2] => { results := [.lit (.bool true)], args := [d1, d2] }
  | _ => none }
def finiteValuesRow : OpenClaim := { program := "ytaecccdkjmipeaagreat", sum := "df7260f12877463d12bbfb60508238bc6431840ce30bec2fded28c2a44cdcc55", func := "plexus/plexuslaw14.FiniteValues", spec := "finiteValues", inPlace := ["internal/bytealg.abigen_runtime_cmpstring"], unfollowed := true, recurses := true, loops := true, apart := false }
def FiniteValuesSaid : Prop := finiteValuesRow.holds Tryz.pinned (OpenSpec.ofChange finiteValuesSpec)

/-- ITS FALSE NEIGHBOUR: 'it returns false'. Refute it at one input. -/
def finiteValuesWrong : ChangeSpec := { name := "finiteValues", fn := fun _ => fun
  | [d1, d2] => { results := [.lit (.bool false)], args := [d1, d2] }
  | _ => none }
def FiniteValuesWrongFalsely : Prop := finiteValuesRow.holds Tryz.pinned (OpenSpec.ofChange finiteValuesWrong)

/-- 'plexuslaw14.FiniteCount': WHATEVER THE INPUT: true; the input reads as it did. -/
def finiteCountSpec : ChangeSpec := { name := "finiteCount", fn := fun _ => fun
  | [d] => { results := [.lit (.bool true)], args := [d] }
  | _ => none }
def finiteCountRow : OpenClaim := { program := "ytaecccdkjmipeaagreat", sum := "df7260f12877463d12bbfb60508238bc6431840ce30bec2fded28c2a44cdcc55", func := "plexus/plexuslaw14.FiniteCount", spec := "finiteCount", inPlace := ["internal/bytealg.abigen_runtime_cmpstring"], unfollowed := true, recurses := true, loops := true, apart := false }
def FiniteCountSaid : Prop := finiteCountRow.holds Tryz.pinned (OpenSpec.ofChange finiteCountSpec)

/-- ITS FALSE NEIGHBOUR: 'it returns false'. Refute it at one input. -/
def finiteCountWrong : ChangeSpec := { name := "finiteCount", fn := fun _ => fun
  | [d] => { results := [.lit (.bool false)], args := [d] }
  | _ => none }
def FiniteCountWrongFalsely : Prop := finiteCountRow.holds Tryz.pinned (OpenSpec.ofChange finiteCountWrong)

/-- 'plexuslaw14.FiniteTable': WHATEVER THE INPUT: true; the input reads as it did. -/
def finiteTableSpec : ChangeSpec := { name := "finiteTable", fn := fun _ => fun
  | [d] => { results := [.lit (.bool true)], args := [d] }
  | _ => none }
def finiteTableRow : OpenClaim := { program := "ytaecccdkjmipeaagreat", sum := "df7260f12877463d12bbfb60508238bc6431840ce30bec2fded28c2a44cdcc55", func := "plexus/plexuslaw14.FiniteTable", spec := "finiteTable", inPlace := ["internal/bytealg.abigen_runtime_cmpstring"], unfollowed := true, recurses := true, loops := true, apart := false }
def FiniteTableSaid : Prop := finiteTableRow.holds Tryz.pinned (OpenSpec.ofChange finiteTableSpec)

/-- ITS FALSE NEIGHBOUR: 'it returns false'. Refute it at one input. -/
def finiteTableWrong : ChangeSpec := { name := "finiteTable", fn := fun _ => fun
  | [d] => { results := [.lit (.bool false)], args := [d] }
  | _ => none }
def FiniteTableWrongFalsely : Prop := finiteTableRow.holds Tryz.pinned (OpenSpec.ofChange finiteTableWrong)

/-- 'plexuslaw14.FiniteCheck': WHATEVER THE INPUT: true; the input reads as it did. -/
def finiteCheckSpec : ChangeSpec := { name := "finiteCheck", fn := fun _ => fun
  | [d] => { results := [.lit (.bool true)], args := [d] }
  | _ => none }
def finiteCheckRow : OpenClaim := { program := "ytaecccdkjmipeaagreat", sum := "df7260f12877463d12bbfb60508238bc6431840ce30bec2fded28c2a44cdcc55", func := "plexus/plexuslaw14.FiniteCheck", spec := "finiteCheck", inPlace := ["internal/bytealg.abigen_runtime_cmpstring"], unfollowed := true, recurses := true, apart := false }
def FiniteCheckSaid : Prop := finiteCheckRow.holds Tryz.pinned (OpenSpec.ofChange finiteCheckSpec)

/-- ITS FALSE NEIGHBOUR: 'it returns false'. Refute it at one input. -/
def finiteCheckWrong : ChangeSpec := { name := "finiteCheck", fn := fun _ => fun
  | [d] => { results := [.lit (.bool false)], args := [d] }
  | _ => none }
def FiniteCheckWrongFalsely : Prop := finiteCheckRow.holds Tryz.pinned (OpenSpec.ofChange finiteCheckWrong)

/-- 'plexuslaw14.FiniteIrreducibles': WHATEVER THE INPUT: true; the input reads as it did. -/
def finiteIrreduciblesSpec : ChangeSpec := { name := "finiteIrreducibles", fn := fun _ => fun
  | [d] => { results := [.lit (.bool true)], args := [d] }
  | _ => none }
def finiteIrreduciblesRow : OpenClaim := { program := "ytaecccdkjmipeaagreat", sum := "df7260f12877463d12bbfb60508238bc6431840ce30bec2fded28c2a44cdcc55", func := "plexus/plexuslaw14.FiniteIrreducibles", spec := "finiteIrreducibles", inPlace := ["internal/bytealg.abigen_runtime_cmpstring"], unfollowed := true, recurses := true, apart := false }
def FiniteIrreduciblesSaid : Prop := finiteIrreduciblesRow.holds Tryz.pinned (OpenSpec.ofChange finiteIrreduciblesSpec)

/-- ITS FALSE NEIGHBOUR: 'it returns false'. Refute it at one input. -/
def finiteIrreduciblesWrong : ChangeSpec := { name := "finiteIrreducibles", fn := fun _ => fun
  | [d] => { results := [.lit (.bool false)], args := [d] }
  | _ => none }
def FiniteIrreduciblesWrongFalsely : Prop := finiteIrreduciblesRow.holds Tryz.pinned (OpenSpec.ofChange finiteIrreduciblesWrong)

/-- 'plexuslaw14.FiniteDistributive': WHATEVER THE INPUT: true; the input reads as it did. -/
def finiteDistributiveSpec : ChangeSpec := { name := "finiteDistributive", fn := fun _ => fun
  | [d1, d2] => { results := [.lit (.bool true)], args := [d1, d2] }
  | _ => none }
def finiteDistributiveRow : OpenClaim := { program := "ytaecccdkjmipeaagreat", sum := "df7260f12877463d12bbfb60508238bc6431840ce30bec2fded28c2a44cdcc55", func := "plexus/plexuslaw14.FiniteDistributive", spec := "finiteDistributive", inPlace := ["internal/bytealg.abigen_runtime_cmpstring"], unfollowed := true, recurses := true, loops := true, apart := false }
def FiniteDistributiveSaid : Prop := finiteDistributiveRow.holds Tryz.pinned (OpenSpec.ofChange finiteDistributiveSpec)

/-- ITS FALSE NEIGHBOUR: 'it returns false'. Refute it at one input. -/
def finiteDistributiveWrong : ChangeSpec := { name := "finiteDistributive", fn := fun _ => fun
  | [d1, d2] => { results := [.lit (.bool false)], args := [d1, d2] }
  | _ => none }
def FiniteDistributiveWrongFalsely : Prop := finiteDistributiveRow.holds Tryz.pinned (OpenSpec.ofChange finiteDistributiveWrong)

/-- 'plexuslaw14.FiniteCovers': WHATEVER THE INPUT: true; the input reads as it did. -/
def finiteCoversSpec : ChangeSpec := { name := "finiteCovers", fn := fun _ => fun
  | [d] => { results := [.lit (.bool true)], args := [d] }
  | _ => none }
def finiteCoversRow : OpenClaim := { program := "ytaecccdkjmipeaagreat", sum := "df7260f12877463d12bbfb60508238bc6431840ce30bec2fded28c2a44cdcc55", func := "plexus/plexuslaw14.FiniteCovers", spec := "finiteCovers", inPlace := ["internal/bytealg.abigen_runtime_cmpstring"], unfollowed := true, recurses := true, apart := false }
def FiniteCoversSaid : Prop := finiteCoversRow.holds Tryz.pinned (OpenSpec.ofChange finiteCoversSpec)

/-- ITS FALSE NEIGHBOUR: 'it returns false'. Refute it at one input. -/
def finiteCoversWrong : ChangeSpec := { name := "finiteCovers", fn := fun _ => fun
  | [d] => { results := [.lit (.bool false)], args := [d] }
  | _ => none }
def FiniteCoversWrongFalsely : Prop := finiteCoversRow.holds Tryz.pinned (OpenSpec.ofChange finiteCoversWrong)

/-- 'plexuslaw14.FiniteMeets': WHATEVER THE INPUT: true; the input reads as it did. -/
def finiteMeetsSpec : ChangeSpec := { name := "finiteMeets", fn := fun _ => fun
  | [d] => { results := [.lit (.bool true)], args := [d] }
  | _ => none }
def finiteMeetsRow : OpenClaim := { program := "ytaecccdkjmipeaagreat", sum := "df7260f12877463d12bbfb60508238bc6431840ce30bec2fded28c2a44cdcc55", func := "plexus/plexuslaw14.FiniteMeets", spec := "finiteMeets", inPlace := ["internal/bytealg.abigen_runtime_cmpstring"], unfollowed := true, recurses := true, apart := false }
def FiniteMeetsSaid : Prop := finiteMeetsRow.holds Tryz.pinned (OpenSpec.ofChange finiteMeetsSpec)

/-- ITS FALSE NEIGHBOUR: 'it returns false'. Refute it at one input. -/
def finiteMeetsWrong : ChangeSpec := { name := "finiteMeets", fn := fun _ => fun
  | [d] => { results := [.lit (.bool false)], args := [d] }
  | _ => none }
def FiniteMeetsWrongFalsely : Prop := finiteMeetsRow.holds Tryz.pinned (OpenSpec.ofChange finiteMeetsWrong)

/- THE SECOND FORM. 'bulk': how many values and letters a reading holds, each counted each time it is reached (what is shared counts as often as it is met; a slice's spare places count too). A statement '..UptoSaid' is the law's where the arguments, and the package variables that the reading takes, are together of bulk at most 1048576: NARROWER than '..Said'. Prove '..Said' where nothing that the law and all that it calls make is longer than what came in: it says more and counts as full. Else prove '..UptoSaid'. A law counts once. -/
mutual
def uptoBulk {H : Type} : DataW H → Nat
  | .lit (.string bytes) => bytes.length + 1
  | .lit _ => 1
  | .nil => 1
  | .ptr d => uptoBulk d + 1
  | .slice elems spare => uptoBulkAll elems + uptoBulkAll spare + 1
  | .agg parts => uptoBulkAll parts + 1
  | .iface _ d => uptoBulk d + 1
  | .map entries => uptoBulkEntries entries + 1
  | .held _ => 1
def uptoBulkAll {H : Type} : List (DataW H) → Nat
  | [] => 0
  | d :: r => uptoBulk d + uptoBulkAll r
def uptoBulkEntries {H : Type} : List (Lit × DataW H) → Nat
  | [] => 0
  | x :: r => uptoBulkEntry x + uptoBulkEntries r
def uptoBulkEntry {H : Type} : Lit × DataW H → Nat
  | (.string bytes, d) => bytes.length + uptoBulk d + 1
  | (_, d) => uptoBulk d + 1
 end
def uptoSmall : (H : Type) → List (DataW H) → Bool := fun _ ds => decide (uptoBulkAll ds ≤ 1048576)
def OpenSpec.upto (s : _root_.Go.ChangeSpec) : _root_.Go.OpenSpec := { _root_.Go.OpenSpec.ofChange s with cond := some uptoSmall }

/-- 'plexuslaw14.FiniteValues', WHERE WHAT IT READS IS OF BULK AT MOST 1048576: true; the input reads as it did. -/
def finiteValuesUptoRow : OpenClaim := { program := "ytaecccdkjmipeaagreat", sum := "df7260f12877463d12bbfb60508238bc6431840ce30bec2fded28c2a44cdcc55", func := "plexus/plexuslaw14.FiniteValues", spec := "finiteValues", inPlace := ["internal/bytealg.abigen_runtime_cmpstring"], unfollowed := true, recurses := true, loops := true, apart := false, narrowed := true }
def FiniteValuesUptoSaid : Prop := finiteValuesUptoRow.holds Tryz.pinned (OpenSpec.upto finiteValuesSpec)

/-- 'plexuslaw14.FiniteCount', WHERE WHAT IT READS IS OF BULK AT MOST 1048576: true; the input reads as it did. -/
def finiteCountUptoRow : OpenClaim := { program := "ytaecccdkjmipeaagreat", sum := "df7260f12877463d12bbfb60508238bc6431840ce30bec2fded28c2a44cdcc55", func := "plexus/plexuslaw14.FiniteCount", spec := "finiteCount", inPlace := ["internal/bytealg.abigen_runtime_cmpstring"], unfollowed := true, recurses := true, loops := true, apart := false, narrowed := true }
def FiniteCountUptoSaid : Prop := finiteCountUptoRow.holds Tryz.pinned (OpenSpec.upto finiteCountSpec)

/-- 'plexuslaw14.FiniteTable', WHERE WHAT IT READS IS OF BULK AT MOST 1048576: true; the input reads as it did. -/
def finiteTableUptoRow : OpenClaim := { program := "ytaecccdkjmipeaagreat", sum := "df7260f12877463d12bbfb60508238bc6431840ce30bec2fded28c2a44cdcc55", func := "plexus/plexuslaw14.FiniteTable", spec := "finiteTable", inPlace := ["internal/bytealg.abigen_runtime_cmpstring"], unfollowed := true, recurses := true, loops := true, apart := false, narrowed := true }
def FiniteTableUptoSaid : Prop := finiteTableUptoRow.holds Tryz.pinned (OpenSpec.upto finiteTableSpec)

/-- 'plexuslaw14.FiniteCheck', WHERE WHAT IT READS IS OF BULK AT MOST 1048576: true; the input reads as it did. -/
def finiteCheckUptoRow : OpenClaim := { program := "ytaecccdkjmipeaagreat", sum := "df7260f12877463d12bbfb60508238bc6431840ce30bec2fded28c2a44cdcc55", func := "plexus/plexuslaw14.FiniteCheck", spec := "finiteCheck", inPlace := ["internal/bytealg.abigen_runtime_cmpstring"], unfollowed := true, recurses := true, apart := false, narrowed := true }
def FiniteCheckUptoSaid : Prop := finiteCheckUptoRow.holds Tryz.pinned (OpenSpec.upto finiteCheckSpec)

/-- 'plexuslaw14.FiniteIrreducibles', WHERE WHAT IT READS IS OF BULK AT MOST 1048576: true; the input reads as it did. -/
def finiteIrreduciblesUptoRow : OpenClaim := { program := "ytaecccdkjmipeaagreat", sum := "df7260f12877463d12bbfb60508238bc6431840ce30bec2fded28c2a44cdcc55", func := "plexus/plexuslaw14.FiniteIrreducibles", spec := "finiteIrreducibles", inPlace := ["internal/bytealg.abigen_runtime_cmpstring"], unfollowed := true, recurses := true, apart := false, narrowed := true }
def FiniteIrreduciblesUptoSaid : Prop := finiteIrreduciblesUptoRow.holds Tryz.pinned (OpenSpec.upto finiteIrreduciblesSpec)

/-- 'plexuslaw14.FiniteDistributive', WHERE WHAT IT READS IS OF BULK AT MOST 1048576: true; the input reads as it did. -/
def finiteDistributiveUptoRow : OpenClaim := { program := "ytaecccdkjmipeaagreat", sum := "df7260f12877463d12bbfb60508238bc6431840ce30bec2fded28c2a44cdcc55", func := "plexus/plexuslaw14.FiniteDistributive", spec := "finiteDistributive", inPlace := ["internal/bytealg.abigen_runtime_cmpstring"], unfollowed := true, recurses := true, loops := true, apart := false, narrowed := true }
def FiniteDistributiveUptoSaid : Prop := finiteDistributiveUptoRow.holds Tryz.pinned (OpenSpec.upto finiteDistributiveSpec)

/-- 'plexuslaw14.FiniteCovers', WHERE WHAT IT READS IS OF BULK AT MOST 1048576: true; the input reads as it did. -/
def finiteCoversUptoRow : OpenClaim := { program := "ytaecccdkjmipeaagreat", sum := "df7260f12877463d12bbfb60508238bc6431840ce30bec2fded28c2a44cdcc55", func := "plexus/plexuslaw14.FiniteCovers", spec := "finiteCovers", inPlace := ["internal/bytealg.abigen_runtime_cmpstring"], unfollowed := true, recurses := true, apart := false, narrowed := true }
def FiniteCoversUptoSaid : Prop := finiteCoversUptoRow.holds Tryz.pinned (OpenSpec.upto finiteCoversSpec)

/-- 'plexuslaw14.FiniteMeets', WHERE WHAT IT READS IS OF BULK AT MOST 1048576: true; the input reads as it did. -/
def finiteMeetsUptoRow : OpenClaim := { program := "ytaecccdkjmipeaagreat", sum := "df7260f12877463d12bbfb60508238bc6431840ce30bec2fded28c2a44cdcc55", func := "plexus/plexuslaw14.FiniteMeets", spec := "finiteMeets", inPlace := ["internal/bytealg.abigen_runtime_cmpstring"], unfollowed := true, recurses := true, apart := false, narrowed := true }
def FiniteMeetsUptoSaid : Prop := finiteMeetsUptoRow.holds Tryz.pinned (OpenSpec.upto finiteMeetsSpec)

end Rows
end Go.Proofs.YtaecccdkjmipeaaGreat
