/-
  NARROWER THAN 'FOR EVERY INPUT', by the rows' own cells (each row's printed sentence says how): RegisterWrites: loops · RegisterReads: loops · RegisterCovers: loops · RegisterConcurrent: loops · RegisterAbove: loops · RegisterSince: loops.
  DERIVED. THE GIVEN ROWS OF THIS SEAT. 7 by the template 'for every input the law returns true; each argument reads behind the call as it read before'; 0 by the template 'total and deterministic' (their statements: YthldgioggjpnpaaGreatTotals.lean).
  GIVEN WITH THE SEED: the statements are not yours to turn. If you find one false, say at which input.
  Laid BY PROGRAM, IN A SANDBOX (cutbox-rows.mjs): the forced cells as the released guide's own fill.sh prints them over the translation 4e2a9d3d23631acd… (all of the seat's roots in one cut). By AI agents, Wed Nov 11 2026. No macro, syntax, notation, axiom, sorry.
-/
import Derived.Test.YthldgioggjpnpaaGreatChecked
import GoSem.Claim
import GoSem.ClaimJoined
import GoSem.ClaimMapViews
import Derived.JoinedTies
import Derived.KernelRfl
namespace Go.Proofs.YthldgioggjpnpaaGreat
/- THE CELL 'sum', in the pinned program and in every row, IS THE sha256 OF THE DUMP (.gsa) THAT YthldgioggjpnpaaGreatProg.lean LOADS. Nothing in Lean hashes anything: it is a label: what it is worth is what the hold of that sum in a sandbox is worth. -/
noncomputable def Tryz.pinned : Pinned := { name := "ythldgioggjpnpaagreat", sum := "4e2a9d3d23631acdcdbfebb8d6caad74639ff4ece7e0d7b464581c835f57e6c9", checked := Tryz.checked }
namespace Rows
def none {H : Type} : Left H := { results := [], args := [] }

/-- 'plexuslaw13.RegisterWrites': WHATEVER THE INPUT: true; the input reads as it did. -/
def registerWritesSpec : ChangeSpec := { name := "registerWrites", fn := fun _ => fun
  | [d1, d2, d3] => { results := [.lit (.bool true)], args := [d1, d2, d3] }
  | _ => none }
def registerWritesRow : OpenClaim := { program := "ythldgioggjpnpaagreat", sum := "4e2a9d3d23631acdcdbfebb8d6caad74639ff4ece7e0d7b464581c835f57e6c9", func := "plexus/plexuslaw13.RegisterWrites", spec := "registerWrites", inPlace := ["internal/bytealg.abigen_runtime_cmpstring"], unfollowed := true, recurses := true, loops := true, apart := false }
def RegisterWritesSaid : Prop := registerWritesRow.holds Tryz.pinned (OpenSpec.ofChange registerWritesSpec)

/-- ITS FALSE NEIGHBOUR: 'it returns false'. Refute it at one input. -/
def registerWritesWrong : ChangeSpec := { name := "registerWrites", fn := fun _ => fun
  | [d1, d2, d3] => { results := [.lit (.bool false)], args := [d1, d2, d3] }
  | _ => none }
def RegisterWritesWrongFalsely : Prop := registerWritesRow.holds Tryz.pinned (OpenSpec.ofChange registerWritesWrong)

/-- 'plexuslaw13.RegisterReads': WHATEVER THE INPUT: true; the input reads as it did. -/
def registerReadsSpec : ChangeSpec := { name := "registerReads", fn := fun _ => fun
  | [d] => { results := [.lit (.bool true)], args := [d] }
  | _ => none }
def registerReadsRow : OpenClaim := { program := "ythldgioggjpnpaagreat", sum := "4e2a9d3d23631acdcdbfebb8d6caad74639ff4ece7e0d7b464581c835f57e6c9", func := "plexus/plexuslaw13.RegisterReads", spec := "registerReads", inPlace := ["internal/bytealg.abigen_runtime_cmpstring"], unfollowed := true, recurses := true, loops := true, apart := false }
def RegisterReadsSaid : Prop := registerReadsRow.holds Tryz.pinned (OpenSpec.ofChange registerReadsSpec)

/-- ITS FALSE NEIGHBOUR: 'it returns false'. Refute it at one input. -/
def registerReadsWrong : ChangeSpec := { name := "registerReads", fn := fun _ => fun
  | [d] => { results := [.lit (.bool false)], args := [d] }
  | _ => none }
def RegisterReadsWrongFalsely : Prop := registerReadsRow.holds Tryz.pinned (OpenSpec.ofChange registerReadsWrong)

/-- 'plexuslaw13.RegisterCovers': WHATEVER THE INPUT: true; the input reads as it did. -/
def registerCoversSpec : ChangeSpec := { name := "registerCovers", fn := fun _ => fun
  | [d1, d2] => { results := [.lit (.bool true)], args := [d1, d2] }
  | _ => none }
def registerCoversRow : OpenClaim := { program := "ythldgioggjpnpaagreat", sum := "4e2a9d3d23631acdcdbfebb8d6caad74639ff4ece7e0d7b464581c835f57e6c9", func := "plexus/plexuslaw13.RegisterCovers", spec := "registerCovers", inPlace := ["internal/bytealg.abigen_runtime_cmpstring"], unfollowed := true, recurses := true, loops := true, apart := false }
def RegisterCoversSaid : Prop := registerCoversRow.holds Tryz.pinned (OpenSpec.ofChange registerCoversSpec)

/-- ITS FALSE NEIGHBOUR: 'it returns false'. Refute it at one input. -/
def registerCoversWrong : ChangeSpec := { name := "registerCovers", fn := fun _ => fun
  | [d1, d2] => { results := [.lit (.bool false)], args := [d1, d2] }
  | _ => none }
def RegisterCoversWrongFalsely : Prop := registerCoversRow.holds Tryz.pinned (OpenSpec.ofChange registerCoversWrong)

/-- 'plexuslaw13.RegisterConcurrent': WHATEVER THE INPUT: true; the input reads as it did. -/
def registerConcurrentSpec : ChangeSpec := { name := "registerConcurrent", fn := fun _ => fun
  | [d1, d2, d3, d4, d5, d6, d7] => { results := [.lit (.bool true)], args := [d1, d2, d3, d4, d5, d6, d7] }
  | _ => none }
def registerConcurrentRow : OpenClaim := { program := "ythldgioggjpnpaagreat", sum := "4e2a9d3d23631acdcdbfebb8d6caad74639ff4ece7e0d7b464581c835f57e6c9", func := "plexus/plexuslaw13.RegisterConcurrent", spec := "registerConcurrent", inPlace := ["internal/bytealg.abigen_runtime_cmpstring"], unfollowed := true, recurses := true, loops := true, apart := false }
def RegisterConcurrentSaid : Prop := registerConcurrentRow.holds Tryz.pinned (OpenSpec.ofChange registerConcurrentSpec)

/-- ITS FALSE NEIGHBOUR: 'it returns false'. Refute it at one input. -/
def registerConcurrentWrong : ChangeSpec := { name := "registerConcurrent", fn := fun _ => fun
  | [d1, d2, d3, d4, d5, d6, d7] => { results := [.lit (.bool false)], args := [d1, d2, d3, d4, d5, d6, d7] }
  | _ => none }
def RegisterConcurrentWrongFalsely : Prop := registerConcurrentRow.holds Tryz.pinned (OpenSpec.ofChange registerConcurrentWrong)

/-- 'plexuslaw13.RegisterCausal': WHATEVER THE INPUT: true; the input reads as it did. -/
def registerCausalSpec : ChangeSpec := { name := "registerCausal", fn := fun _ => fun
  | [d] => { results := [.lit (.bool true)], args := [d] }
  | _ => none }
def registerCausalRow : OpenClaim := { program := "ythldgioggjpnpaagreat", sum := "4e2a9d3d23631acdcdbfebb8d6caad74639ff4ece7e0d7b464581c835f57e6c9", func := "plexus/plexuslaw13.RegisterCausal", spec := "registerCausal", inPlace := ["internal/bytealg.abigen_runtime_cmpstring"], unfollowed := true, recurses := true, apart := false }
def RegisterCausalSaid : Prop := registerCausalRow.holds Tryz.pinned (OpenSpec.ofChange registerCausalSpec)

/-- ITS FALSE NEIGHBOUR: 'it returns false'. Refute it at one input. -/
def registerCausalWrong : ChangeSpec := { name := "registerCausal", fn := fun _ => fun
  | [d] => { results := [.lit (.bool false)], args := [d] }
  | _ => none }
def RegisterCausalWrongFalsely : Prop := registerCausalRow.holds Tryz.pinned (OpenSpec.ofChange registerCausalWrong)

/-- 'plexuslaw13.RegisterAbove': WHATEVER THE INPUT: true; the input reads as it did. -/
def registerAboveSpec : ChangeSpec := { name := "registerAbove", fn := fun _ => fun
  | [d1, d2, d3] => { results := [.lit (.bool true)], args := [d1, d2, d3] }
  | _ => none }
def registerAboveRow : OpenClaim := { program := "ythldgioggjpnpaagreat", sum := "4e2a9d3d23631acdcdbfebb8d6caad74639ff4ece7e0d7b464581c835f57e6c9", func := "plexus/plexuslaw13.RegisterAbove", spec := "registerAbove", inPlace := ["internal/bytealg.abigen_runtime_cmpstring"], unfollowed := true, recurses := true, loops := true, apart := false }
def RegisterAboveSaid : Prop := registerAboveRow.holds Tryz.pinned (OpenSpec.ofChange registerAboveSpec)

/-- ITS FALSE NEIGHBOUR: 'it returns false'. Refute it at one input. -/
def registerAboveWrong : ChangeSpec := { name := "registerAbove", fn := fun _ => fun
  | [d1, d2, d3] => { results := [.lit (.bool false)], args := [d1, d2, d3] }
  | _ => none }
def RegisterAboveWrongFalsely : Prop := registerAboveRow.holds Tryz.pinned (OpenSpec.ofChange registerAboveWrong)

/-- 'plexuslaw13.RegisterSince': WHATEVER THE INPUT: true; the input reads as it did. -/
def registerSinceSpec : ChangeSpec := { name := "registerSince", fn := fun _ => fun
  | [d1, d2] => { results := [.lit (.bool true)], args := [d1, d2] }
  | _ => none }
def registerSinceRow : OpenClaim := { program := "ythldgioggjpnpaagreat", sum := "4e2a9d3d23631acdcdbfebb8d6caad74639ff4ece7e0d7b464581c835f57e6c9", func := "plexus/plexuslaw13.RegisterSince", spec := "registerSince", inPlace := ["internal/bytealg.abigen_runtime_cmpstring"], unfollowed := true, recurses := true, loops := true, apart := false }
def RegisterSinceSaid : Prop := registerSinceRow.holds Tryz.pinned (OpenSpec.ofChange registerSinceSpec)

/-- ITS FALSE NEIGHBOUR: 'it returns false'. Refute it at one input. -/
def registerSinceWrong : ChangeSpec := { name := "registerSince", fn := fun _ => fun
  | [d1, d2] => { results := [.lit (.bool false)], args := [d1, d2] }
  | _ => none }
def RegisterSinceWrongFalsely : Prop := registerSinceRow.holds Tryz.pinned (OpenSpec.ofChange registerSinceWrong)

/- THE SECOND FORM. 'bulk': how many values and letters a reading holds, each counted each time it is reached (what is shared counts as often as it is met; a slice's spare places count too). A statement '..UptoSaid' is the law's where the arguments, and the package variables that the reading takes, are together of bulk at most 1048576: NARROWER than '..Said'. Prove '..Said' where nothing that the law and all that it calls make is longer than what came in: it says more and counts as full. Else prove '..UptoSaid'. A law counts once. -/
mutual
def uptoBulk {H : Type} : DataW H → Nat
  | .lit (.string bytes) => bytes.length + 1
  | .lit _ => 1
  | .nil => 1
  | .ptr d => uptoBulk d + 1
  | .slice elems spare => uptoBulkAll elems + uptoBulkAll spare + 1
  | .agg parts => uptoBulkAll parts + 1
  | .iface _ d => uptoBulk d + 1
  | .map entries => uptoBulkEntries entries + 1
  | .held _ => 1
def uptoBulkAll {H : Type} : List (DataW H) → Nat
  | [] => 0
  | d :: r => uptoBulk d + uptoBulkAll r
def uptoBulkEntries {H : Type} : List (Lit × DataW H) → Nat
  | [] => 0
  | x :: r => uptoBulkEntry x + uptoBulkEntries r
def uptoBulkEntry {H : Type} : Lit × DataW H → Nat
  | (.string bytes, d) => bytes.length + uptoBulk d + 1
  | (_, d) => uptoBulk d + 1
 end
def uptoSmall : (H : Type) → List (DataW H) → Bool := fun _ ds => decide (uptoBulkAll ds ≤ 1048576)
def OpenSpec.upto (s : _root_.Go.ChangeSpec) : _root_.Go.OpenSpec := { _root_.Go.OpenSpec.ofChange s with cond := some uptoSmall }

/-- 'plexuslaw13.RegisterWrites', WHERE WHAT IT READS IS OF BULK AT MOST 1048576: true; the input reads as it did. -/
def registerWritesUptoRow : OpenClaim := { program := "ythldgioggjpnpaagreat", sum := "4e2a9d3d23631acdcdbfebb8d6caad74639ff4ece7e0d7b464581c835f57e6c9", func := "plexus/plexuslaw13.RegisterWrites", spec := "registerWrites", inPlace := ["internal/bytealg.abigen_runtime_cmpstring"], unfollowed := true, recurses := true, loops := true, apart := false, narrowed := true }
def RegisterWritesUptoSaid : Prop := registerWritesUptoRow.holds Tryz.pinned (OpenSpec.upto registerWritesSpec)

/-- 'plexuslaw13.RegisterReads', WHERE WHAT IT READS IS OF BULK AT MOST 1048576: true; the input reads as it did. -/
def registerReadsUptoRow : OpenClaim := { program := "ythldgioggjpnpaagreat", sum := "4e2a9d3d23631acdcdbfebb8d6caad74639ff4ece7e0d7b464581c835f57e6c9", func := "plexus/plexuslaw13.RegisterReads", spec := "registerReads", inPlace := ["internal/bytealg.abigen_runtime_cmpstring"], unfollowed := true, recurses := true, loops := true, apart := false, narrowed := true }
def RegisterReadsUptoSaid : Prop := registerReadsUptoRow.holds Tryz.pinned (OpenSpec.upto registerReadsSpec)

/-- 'plexuslaw13.RegisterCovers', WHERE WHAT IT READS IS OF BULK AT MOST 1048576: true; the input reads as it did. -/
def registerCoversUptoRow : OpenClaim := { program := "ythldgioggjpnpaagreat", sum := "4e2a9d3d23631acdcdbfebb8d6caad74639ff4ece7e0d7b464581c835f57e6c9", func := "plexus/plexuslaw13.RegisterCovers", spec := "registerCovers", inPlace := ["internal/bytealg.abigen_runtime_cmpstring"], unfollowed := true, recurses := true, loops := true, apart := false, narrowed := true }
def RegisterCoversUptoSaid : Prop := registerCoversUptoRow.holds Tryz.pinned (OpenSpec.upto registerCoversSpec)

/-- 'plexuslaw13.RegisterConcurrent', WHERE WHAT IT READS IS OF BULK AT MOST 1048576: true; the input reads as it did. -/
def registerConcurrentUptoRow : OpenClaim := { program := "ythldgioggjpnpaagreat", sum := "4e2a9d3d23631acdcdbfebb8d6caad74639ff4ece7e0d7b464581c835f57e6c9", func := "plexus/plexuslaw13.RegisterConcurrent", spec := "registerConcurrent", inPlace := ["internal/bytealg.abigen_runtime_cmpstring"], unfollowed := true, recurses := true, loops := true, apart := false, narrowed := true }
def RegisterConcurrentUptoSaid : Prop := registerConcurrentUptoRow.holds Tryz.pinned (OpenSpec.upto registerConcurrentSpec)

/-- 'plexuslaw13.RegisterCausal', WHERE WHAT IT READS IS OF BULK AT MOST 1048576: true; the input reads as it did. -/
def registerCausalUptoRow : OpenClaim := { program := "ythldgioggjpnpaagreat", sum := "4e2a9d3d23631acdcdbfebb8d6caad74639ff4ece7e0d7b464581c835f57e6c9", func := "plexus/plexuslaw13.RegisterCausal", spec := "registerCausal", inPlace := ["internal/bytealg.abigen_runtime_cmpstring"], unfollowed := true, recurses := true, apart := false, narrowed := true }
def RegisterCausalUptoSaid : Prop := registerCausalUptoRow.holds Tryz.pinned (OpenSpec.upto registerCausalSpec)

/-- 'plexuslaw13.RegisterAbove', WHERE WHAT IT READS IS OF BULK AT MOST 1048576: true; the input reads as it did. -/
def registerAboveUptoRow : OpenClaim := { program := "ythldgioggjpnpaagreat", sum := "4e2a9d3d23631acdcdbfebb8d6caad74639ff4ece7e0d7b464581c835f57e6c9", func := "plexus/plexuslaw13.RegisterAbove", spec := "registerAbove", inPlace := ["internal/bytealg.abigen_runtime_cmpstring"], unfollowed := true, recurses := true, loops := true, apart := false, narrowed := true }
def RegisterAboveUptoSaid : Prop := registerAboveUptoRow.holds Tryz.pinned (OpenSpec.upto registerAboveSpec)

/-- 'plexuslaw13.RegisterSince', WHERE WHAT IT READS IS OF BULK AT MOST 1048576: true; the input reads as it did. -/
def registerSinceUptoRow : OpenClaim := { program := "ythldgioggjpnpaagreat", sum := "4e2a9d3d23631acdcdbfebb8d6caad74639ff4ece7e0d7b464581c835f57e6c9", func := "plexus/plexuslaw13.RegisterSince", spec := "registerSince", inPlace := ["internal/bytealg.abigen_runtime_cmpstring"], unfollowed := true, recurses := true, loops := true, apart := false, narrowed := true }
def RegisterSinceUptoSaid : Prop := registerSinceUptoRow.holds Tryz.pinned (OpenSpec.upto registerSinceSpec)

end Rows
end Go.Proofs.YthldgioggjpnpaaGreat
