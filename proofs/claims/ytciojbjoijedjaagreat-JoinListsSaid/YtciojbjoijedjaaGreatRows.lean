/-
  NARROWER THAN 'FOR EVERY INPUT', by the rows' own cells (each row's printed sentence says how): JoinCompares: loops · JoinJoins: loops · JoinOrder: loops · JoinLeast: loops · JoinGreatest: loops · JoinAlgebra: loops · JoinLists: loops · JoinChains: loops · JoinMaximal: loops · JoinDistributes: loops · JoinEnds: loops.
  DERIVED. THE GIVEN ROWS OF THIS SEAT. 11 by the template 'for every input the law returns true; each argument reads behind the call as it read before'; 0 by the template 'total and deterministic' (their statements: YtciojbjoijedjaaGreatTotals.lean).
  GIVEN WITH THE SEED: the statements are not yours to turn. If you find one false, say at which input.
  Laid BY PROGRAM, IN A SANDBOX (cutbox-rows.mjs): the forced cells as the released guide's own fill.sh prints them over the translation 9e35900cf90331c6… (all of the seat's roots in one cut). By AI agents, Wed Nov 11 2026. No macro, syntax, notation, axiom, sorry.
-/
import Derived.Test.YtciojbjoijedjaaGreatChecked
import GoSem.Claim
import GoSem.ClaimJoined
import GoSem.ClaimMapViews
import Derived.JoinedTies
import Derived.KernelRfl
namespace Go.Proofs.YtciojbjoijedjaaGreat
/- THE CELL 'sum', in the pinned program and in every row, IS THE sha256 OF THE DUMP (.gsa) THAT YtciojbjoijedjaaGreatProg.lean LOADS. Nothing in Lean hashes anything: it is a label: what it is worth is what the hold of that sum in a sandbox is worth. -/
noncomputable def Tryz.pinned : Pinned := { name := "ytciojbjoijedjaagreat", sum := "9e35900cf90331c6333094144e8b9670100232159f4a7e6d98e2621d5a622d84", checked := Tryz.checked }
namespace Rows
def none {H : Type} : Left H := { results := [], args := [] }

/-- 'plexuslaw11.JoinCompares': WHATEVER THE INPUT: true; the input reads as it did. -/
def joinComparesSpec : ChangeSpec := { name := "joinCompares", fn := fun _ => fun
  | [d1, d2, d3] => { results := [.lit (.bool true)], args := [d1, d2, d3] }
  | _ => none }
def joinComparesRow : OpenClaim := { program := "ytciojbjoijedjaagreat", sum := "9e35900cf90331c6333094144e8b9670100232159f4a7e6d98e2621d5a622d84", func := "plexus/plexuslaw11.JoinCompares", spec := "joinCompares", inPlace := ["internal/bytealg.abigen_runtime_cmpstring", "slices.overlaps[int]"], unfollowed := true, recurses := true, loops := true, apart := false }
def JoinComparesSaid : Prop := joinComparesRow.holds Tryz.pinned (OpenSpec.ofChange joinComparesSpec)

/-- ITS FALSE NEIGHBOUR: 'it returns false'. Refute it at one input. -/
def joinComparesWrong : ChangeSpec := { name := "joinCompares", fn := fun _ => fun
  | [d1, d2, d3] => { results := [.lit (.bool false)], args := [d1, d2, d3] }
  | _ => none }
def JoinComparesWrongFalsely : Prop := joinComparesRow.holds Tryz.pinned (OpenSpec.ofChange joinComparesWrong)

/-- 'plexuslaw11.JoinJoins': WHATEVER THE INPUT: true; the input reads as it did. -/
def joinJoinsSpec : ChangeSpec := { name := "joinJoins", fn := fun _ => fun
  | [d1, d2, d3] => { results := [.lit (.bool true)], args := [d1, d2, d3] }
  | _ => none }
def joinJoinsRow : OpenClaim := { program := "ytciojbjoijedjaagreat", sum := "9e35900cf90331c6333094144e8b9670100232159f4a7e6d98e2621d5a622d84", func := "plexus/plexuslaw11.JoinJoins", spec := "joinJoins", inPlace := ["internal/bytealg.abigen_runtime_cmpstring", "slices.overlaps[int]"], unfollowed := true, recurses := true, loops := true, apart := false }
def JoinJoinsSaid : Prop := joinJoinsRow.holds Tryz.pinned (OpenSpec.ofChange joinJoinsSpec)

/-- ITS FALSE NEIGHBOUR: 'it returns false'. Refute it at one input. -/
def joinJoinsWrong : ChangeSpec := { name := "joinJoins", fn := fun _ => fun
  | [d1, d2, d3] => { results := [.lit (.bool false)], args := [d1, d2, d3] }
  | _ => none }
def JoinJoinsWrongFalsely : Prop := joinJoinsRow.holds Tryz.pinned (OpenSpec.ofChange joinJoinsWrong)

/-- 'plexuslaw11.JoinOrder': WHATEVER THE INPUT: true; the input reads as it did. -/
def joinOrderSpec : ChangeSpec := { name := "joinOrder", fn := fun _ => fun
  | [d1, d2, d3, d4] => { results := [.lit (.bool true)], args := [d1, d2, d3, d4] }
  | _ => none }
def joinOrderRow : OpenClaim := { program := "ytciojbjoijedjaagreat", sum := "9e35900cf90331c6333094144e8b9670100232159f4a7e6d98e2621d5a622d84", func := "plexus/plexuslaw11.JoinOrder", spec := "joinOrder", inPlace := ["internal/bytealg.abigen_runtime_cmpstring", "slices.overlaps[int]"], unfollowed := true, recurses := true, loops := true, apart := false }
def JoinOrderSaid : Prop := joinOrderRow.holds Tryz.pinned (OpenSpec.ofChange joinOrderSpec)

/-- ITS FALSE NEIGHBOUR: 'it returns false'. Refute it at one input. -/
def joinOrderWrong : ChangeSpec := { name := "joinOrder", fn := fun _ => fun
  | [d1, d2, d3, d4] => { results := [.lit (.bool false)], args := [d1, d2, d3, d4] }
  | _ => none }
def JoinOrderWrongFalsely : Prop := joinOrderRow.holds Tryz.pinned (OpenSpec.ofChange joinOrderWrong)

/-- 'plexuslaw11.JoinLeast': WHATEVER THE INPUT: true; the input reads as it did. -/
def joinLeastSpec : ChangeSpec := { name := "joinLeast", fn := fun _ => fun
  | [d1, d2, d3, d4] => { results := [.lit (.bool true)], args := [d1, d2, d3, d4] }
  | _ => none }
def joinLeastRow : OpenClaim := { program := "ytciojbjoijedjaagreat", sum := "9e35900cf90331c6333094144e8b9670100232159f4a7e6d98e2621d5a622d84", func := "plexus/plexuslaw11.JoinLeast", spec := "joinLeast", inPlace := ["internal/bytealg.abigen_runtime_cmpstring", "slices.overlaps[int]"], unfollowed := true, recurses := true, loops := true, apart := false }
def JoinLeastSaid : Prop := joinLeastRow.holds Tryz.pinned (OpenSpec.ofChange joinLeastSpec)

/-- ITS FALSE NEIGHBOUR: 'it returns false'. Refute it at one input. -/
def joinLeastWrong : ChangeSpec := { name := "joinLeast", fn := fun _ => fun
  | [d1, d2, d3, d4] => { results := [.lit (.bool false)], args := [d1, d2, d3, d4] }
  | _ => none }
def JoinLeastWrongFalsely : Prop := joinLeastRow.holds Tryz.pinned (OpenSpec.ofChange joinLeastWrong)

/-- 'plexuslaw11.JoinGreatest': WHATEVER THE INPUT: true; the input reads as it did. -/
def joinGreatestSpec : ChangeSpec := { name := "joinGreatest", fn := fun _ => fun
  | [d1, d2, d3, d4] => { results := [.lit (.bool true)], args := [d1, d2, d3, d4] }
  | _ => none }
def joinGreatestRow : OpenClaim := { program := "ytciojbjoijedjaagreat", sum := "9e35900cf90331c6333094144e8b9670100232159f4a7e6d98e2621d5a622d84", func := "plexus/plexuslaw11.JoinGreatest", spec := "joinGreatest", inPlace := ["internal/bytealg.abigen_runtime_cmpstring", "slices.overlaps[int]"], unfollowed := true, recurses := true, loops := true, apart := false }
def JoinGreatestSaid : Prop := joinGreatestRow.holds Tryz.pinned (OpenSpec.ofChange joinGreatestSpec)

/-- ITS FALSE NEIGHBOUR: 'it returns false'. Refute it at one input. -/
def joinGreatestWrong : ChangeSpec := { name := "joinGreatest", fn := fun _ => fun
  | [d1, d2, d3, d4] => { results := [.lit (.bool false)], args := [d1, d2, d3, d4] }
  | _ => none }
def JoinGreatestWrongFalsely : Prop := joinGreatestRow.holds Tryz.pinned (OpenSpec.ofChange joinGreatestWrong)

/-- 'plexuslaw11.JoinAlgebra': WHATEVER THE INPUT: true; the input reads as it did. -/
def joinAlgebraSpec : ChangeSpec := { name := "joinAlgebra", fn := fun _ => fun
  | [d1, d2, d3, d4] => { results := [.lit (.bool true)], args := [d1, d2, d3, d4] }
  | _ => none }
def joinAlgebraRow : OpenClaim := { program := "ytciojbjoijedjaagreat", sum := "9e35900cf90331c6333094144e8b9670100232159f4a7e6d98e2621d5a622d84", func := "plexus/plexuslaw11.JoinAlgebra", spec := "joinAlgebra", inPlace := ["internal/bytealg.abigen_runtime_cmpstring", "slices.overlaps[int]"], unfollowed := true, recurses := true, loops := true, apart := false }
def JoinAlgebraSaid : Prop := joinAlgebraRow.holds Tryz.pinned (OpenSpec.ofChange joinAlgebraSpec)

/-- ITS FALSE NEIGHBOUR: 'it returns false'. Refute it at one input. -/
def joinAlgebraWrong : ChangeSpec := { name := "joinAlgebra", fn := fun _ => fun
  | [d1, d2, d3, d4] => { results := [.lit (.bool false)], args := [d1, d2, d3, d4] }
  | _ => none }
def JoinAlgebraWrongFalsely : Prop := joinAlgebraRow.holds Tryz.pinned (OpenSpec.ofChange joinAlgebraWrong)

/-- 'plexuslaw11.JoinLists': WHATEVER THE INPUT: true; the input reads as it did. -/
def joinListsSpec : ChangeSpec := { name := "joinLists", fn := fun _ => fun
  | [d1, d2] => { results := [.lit (.bool true)], args := [d1, d2] }
  | _ => none }
def joinListsRow : OpenClaim := { program := "ytciojbjoijedjaagreat", sum := "9e35900cf90331c6333094144e8b9670100232159f4a7e6d98e2621d5a622d84", func := "plexus/plexuslaw11.JoinLists", spec := "joinLists", inPlace := ["internal/bytealg.abigen_runtime_cmpstring", "slices.overlaps[int]"], unfollowed := true, recurses := true, loops := true, apart := false }
def JoinListsSaid : Prop := joinListsRow.holds Tryz.pinned (OpenSpec.ofChange joinListsSpec)

/-- ITS FALSE NEIGHBOUR: 'it returns false'. Refute it at one input. -/
def joinListsWrong : ChangeSpec := { name := "joinLists", fn := fun _ => fun
  | [d1, d2] => { results := [.lit (.bool false)], args := [d1, d2] }
  | _ => none }
def JoinListsWrongFalsely : Prop := joinListsRow.holds Tryz.pinned (OpenSpec.ofChange joinListsWrong)

/-- 'plexuslaw11.JoinChains': WHATEVER THE INPUT: true; the input reads as it did. -/
def joinChainsSpec : ChangeSpec := { name := "joinChains", fn := fun _ => fun
  | [d1, d2] => { results := [.lit (.bool true)], args := [d1, d2] }
  | _ => none }
def joinChainsRow : OpenClaim := { program := "ytciojbjoijedjaagreat", sum := "9e35900cf90331c6333094144e8b9670100232159f4a7e6d98e2621d5a622d84", func := "plexus/plexuslaw11.JoinChains", spec := "joinChains", inPlace := ["internal/bytealg.abigen_runtime_cmpstring", "slices.overlaps[int]"], unfollowed := true, recurses := true, loops := true, apart := false }
def JoinChainsSaid : Prop := joinChainsRow.holds Tryz.pinned (OpenSpec.ofChange joinChainsSpec)

/-- ITS FALSE NEIGHBOUR: 'it returns false'. Refute it at one input. -/
def joinChainsWrong : ChangeSpec := { name := "joinChains", fn := fun _ => fun
  | [d1, d2] => { results := [.lit (.bool false)], args := [d1, d2] }
  | _ => none }
def JoinChainsWrongFalsely : Prop := joinChainsRow.holds Tryz.pinned (OpenSpec.ofChange joinChainsWrong)

/-- 'plexuslaw11.JoinMaximal': WHATEVER THE INPUT: true; the input reads as it did. -/
def joinMaximalSpec : ChangeSpec := { name := "joinMaximal", fn := fun _ => fun
  | [d1, d2] => { results := [.lit (.bool true)], args := [d1, d2] }
  | _ => none }
def joinMaximalRow : OpenClaim := { program := "ytciojbjoijedjaagreat", sum := "9e35900cf90331c6333094144e8b9670100232159f4a7e6d98e2621d5a622d84", func := "plexus/plexuslaw11.JoinMaximal", spec := "joinMaximal", inPlace := ["internal/bytealg.abigen_runtime_cmpstring", "slices.overlaps[int]"], unfollowed := true, recurses := true, loops := true, apart := false }
def JoinMaximalSaid : Prop := joinMaximalRow.holds Tryz.pinned (OpenSpec.ofChange joinMaximalSpec)

/-- ITS FALSE NEIGHBOUR: 'it returns false'. Refute it at one input. -/
def joinMaximalWrong : ChangeSpec := { name := "joinMaximal", fn := fun _ => fun
  | [d1, d2] => { results := [.lit (.bool false)], args := [d1, d2] }
  | _ => none }
def JoinMaximalWrongFalsely : Prop := joinMaximalRow.holds Tryz.pinned (OpenSpec.ofChange joinMaximalWrong)

/-- 'plexuslaw11.JoinDistributes': WHATEVER THE INPUT: true; the input reads as it did. -/
def joinDistributesSpec : ChangeSpec := { name := "joinDistributes", fn := fun _ => fun
  | [d1, d2, d3, d4] => { results := [.lit (.bool true)], args := [d1, d2, d3, d4] }
  | _ => none }
def joinDistributesRow : OpenClaim := { program := "ytciojbjoijedjaagreat", sum := "9e35900cf90331c6333094144e8b9670100232159f4a7e6d98e2621d5a622d84", func := "plexus/plexuslaw11.JoinDistributes", spec := "joinDistributes", inPlace := ["internal/bytealg.abigen_runtime_cmpstring", "slices.overlaps[int]"], unfollowed := true, recurses := true, loops := true, apart := false }
def JoinDistributesSaid : Prop := joinDistributesRow.holds Tryz.pinned (OpenSpec.ofChange joinDistributesSpec)

/-- ITS FALSE NEIGHBOUR: 'it returns false'. Refute it at one input. -/
def joinDistributesWrong : ChangeSpec := { name := "joinDistributes", fn := fun _ => fun
  | [d1, d2, d3, d4] => { results := [.lit (.bool false)], args := [d1, d2, d3, d4] }
  | _ => none }
def JoinDistributesWrongFalsely : Prop := joinDistributesRow.holds Tryz.pinned (OpenSpec.ofChange joinDistributesWrong)

/-- 'plexuslaw11.JoinEnds': WHATEVER THE INPUT: true; the input reads as it did. -/
def joinEndsSpec : ChangeSpec := { name := "joinEnds", fn := fun _ => fun
  | [d1, d2] => { results := [.lit (.bool true)], args := [d1, d2] }
  | _ => none }
def joinEndsRow : OpenClaim := { program := "ytciojbjoijedjaagreat", sum := "9e35900cf90331c6333094144e8b9670100232159f4a7e6d98e2621d5a622d84", func := "plexus/plexuslaw11.JoinEnds", spec := "joinEnds", inPlace := ["internal/bytealg.abigen_runtime_cmpstring", "slices.overlaps[int]"], unfollowed := true, recurses := true, loops := true, apart := false }
def JoinEndsSaid : Prop := joinEndsRow.holds Tryz.pinned (OpenSpec.ofChange joinEndsSpec)

/-- ITS FALSE NEIGHBOUR: 'it returns false'. Refute it at one input. -/
def joinEndsWrong : ChangeSpec := { name := "joinEnds", fn := fun _ => fun
  | [d1, d2] => { results := [.lit (.bool false)], args := [d1, d2] }
  | _ => none }
def JoinEndsWrongFalsely : Prop := joinEndsRow.holds Tryz.pinned (OpenSpec.ofChange joinEndsWrong)

/- THE SECOND FORM. 'bulk': how many values and letters a reading holds, each counted each time it is reached (what is shared counts as often as it is met; a slice's spare places count too). A statement '..UptoSaid' is the law's where the arguments, and the package variables that the reading takes, are together of bulk at most 1048576: NARROWER than '..Said'. Prove '..Said' where nothing that the law and all that it calls make is longer than what came in: it says more and counts as full. Else prove '..UptoSaid'. A law counts once. -/
mutual
def uptoBulk {H : Type} : DataW H → Nat
  | .lit (.string bytes) => bytes.length + 1
  | .lit _ => 1
  | .nil => 1
  | .ptr d => uptoBulk d + 1
  | .slice elems spare => uptoBulkAll elems + uptoBulkAll spare + 1
  | .agg parts => uptoBulkAll parts + 1
  | .iface _ d => uptoBulk d + 1
  | .map entries => uptoBulkEntries entries + 1
  | .held _ => 1
def uptoBulkAll {H : Type} : List (DataW H) → Nat
  | [] => 0
  | d :: r => uptoBulk d + uptoBulkAll r
def uptoBulkEntries {H : Type} : List (Lit × DataW H) → Nat
  | [] => 0
  | x :: r => uptoBulkEntry x + uptoBulkEntries r
def uptoBulkEntry {H : Type} : Lit × DataW H → Nat
  | (.string bytes, d) => bytes.length + uptoBulk d + 1
  | (_, d) => uptoBulk d + 1
 end
def uptoSmall : (H : Type) → List (DataW H) → Bool := fun _ ds => decide (uptoBulkAll ds ≤ 1048576)
def OpenSpec.upto (s : _root_.Go.ChangeSpec) : _root_.Go.OpenSpec := { _root_.Go.OpenSpec.ofChange s with cond := some uptoSmall }

/-- 'plexuslaw11.JoinCompares', WHERE WHAT IT READS IS OF BULK AT MOST 1048576: true; the input reads as it did. -/
def joinComparesUptoRow : OpenClaim := { program := "ytciojbjoijedjaagreat", sum := "9e35900cf90331c6333094144e8b9670100232159f4a7e6d98e2621d5a622d84", func := "plexus/plexuslaw11.JoinCompares", spec := "joinCompares", inPlace := ["internal/bytealg.abigen_runtime_cmpstring", "slices.overlaps[int]"], unfollowed := true, recurses := true, loops := true, apart := false, narrowed := true }
def JoinComparesUptoSaid : Prop := joinComparesUptoRow.holds Tryz.pinned (OpenSpec.upto joinComparesSpec)

/-- 'plexuslaw11.JoinJoins', WHERE WHAT IT READS IS OF BULK AT MOST 1048576: true; the input reads as it did. -/
def joinJoinsUptoRow : OpenClaim := { program := "ytciojbjoijedjaagreat", sum := "9e35900cf90331c6333094144e8b9670100232159f4a7e6d98e2621d5a622d84", func := "plexus/plexuslaw11.JoinJoins", spec := "joinJoins", inPlace := ["internal/bytealg.abigen_runtime_cmpstring", "slices.overlaps[int]"], unfollowed := true, recurses := true, loops := true, apart := false, narrowed := true }
def JoinJoinsUptoSaid : Prop := joinJoinsUptoRow.holds Tryz.pinned (OpenSpec.upto joinJoinsSpec)

/-- 'plexuslaw11.JoinOrder', WHERE WHAT IT READS IS OF BULK AT MOST 1048576: true; the input reads as it did. -/
def joinOrderUptoRow : OpenClaim := { program := "ytciojbjoijedjaagreat", sum := "9e35900cf90331c6333094144e8b9670100232159f4a7e6d98e2621d5a622d84", func := "plexus/plexuslaw11.JoinOrder", spec := "joinOrder", inPlace := ["internal/bytealg.abigen_runtime_cmpstring", "slices.overlaps[int]"], unfollowed := true, recurses := true, loops := true, apart := false, narrowed := true }
def JoinOrderUptoSaid : Prop := joinOrderUptoRow.holds Tryz.pinned (OpenSpec.upto joinOrderSpec)

/-- 'plexuslaw11.JoinLeast', WHERE WHAT IT READS IS OF BULK AT MOST 1048576: true; the input reads as it did. -/
def joinLeastUptoRow : OpenClaim := { program := "ytciojbjoijedjaagreat", sum := "9e35900cf90331c6333094144e8b9670100232159f4a7e6d98e2621d5a622d84", func := "plexus/plexuslaw11.JoinLeast", spec := "joinLeast", inPlace := ["internal/bytealg.abigen_runtime_cmpstring", "slices.overlaps[int]"], unfollowed := true, recurses := true, loops := true, apart := false, narrowed := true }
def JoinLeastUptoSaid : Prop := joinLeastUptoRow.holds Tryz.pinned (OpenSpec.upto joinLeastSpec)

/-- 'plexuslaw11.JoinGreatest', WHERE WHAT IT READS IS OF BULK AT MOST 1048576: true; the input reads as it did. -/
def joinGreatestUptoRow : OpenClaim := { program := "ytciojbjoijedjaagreat", sum := "9e35900cf90331c6333094144e8b9670100232159f4a7e6d98e2621d5a622d84", func := "plexus/plexuslaw11.JoinGreatest", spec := "joinGreatest", inPlace := ["internal/bytealg.abigen_runtime_cmpstring", "slices.overlaps[int]"], unfollowed := true, recurses := true, loops := true, apart := false, narrowed := true }
def JoinGreatestUptoSaid : Prop := joinGreatestUptoRow.holds Tryz.pinned (OpenSpec.upto joinGreatestSpec)

/-- 'plexuslaw11.JoinAlgebra', WHERE WHAT IT READS IS OF BULK AT MOST 1048576: true; the input reads as it did. -/
def joinAlgebraUptoRow : OpenClaim := { program := "ytciojbjoijedjaagreat", sum := "9e35900cf90331c6333094144e8b9670100232159f4a7e6d98e2621d5a622d84", func := "plexus/plexuslaw11.JoinAlgebra", spec := "joinAlgebra", inPlace := ["internal/bytealg.abigen_runtime_cmpstring", "slices.overlaps[int]"], unfollowed := true, recurses := true, loops := true, apart := false, narrowed := true }
def JoinAlgebraUptoSaid : Prop := joinAlgebraUptoRow.holds Tryz.pinned (OpenSpec.upto joinAlgebraSpec)

/-- 'plexuslaw11.JoinLists', WHERE WHAT IT READS IS OF BULK AT MOST 1048576: true; the input reads as it did. -/
def joinListsUptoRow : OpenClaim := { program := "ytciojbjoijedjaagreat", sum := "9e35900cf90331c6333094144e8b9670100232159f4a7e6d98e2621d5a622d84", func := "plexus/plexuslaw11.JoinLists", spec := "joinLists", inPlace := ["internal/bytealg.abigen_runtime_cmpstring", "slices.overlaps[int]"], unfollowed := true, recurses := true, loops := true, apart := false, narrowed := true }
def JoinListsUptoSaid : Prop := joinListsUptoRow.holds Tryz.pinned (OpenSpec.upto joinListsSpec)

/-- 'plexuslaw11.JoinChains', WHERE WHAT IT READS IS OF BULK AT MOST 1048576: true; the input reads as it did. -/
def joinChainsUptoRow : OpenClaim := { program := "ytciojbjoijedjaagreat", sum := "9e35900cf90331c6333094144e8b9670100232159f4a7e6d98e2621d5a622d84", func := "plexus/plexuslaw11.JoinChains", spec := "joinChains", inPlace := ["internal/bytealg.abigen_runtime_cmpstring", "slices.overlaps[int]"], unfollowed := true, recurses := true, loops := true, apart := false, narrowed := true }
def JoinChainsUptoSaid : Prop := joinChainsUptoRow.holds Tryz.pinned (OpenSpec.upto joinChainsSpec)

/-- 'plexuslaw11.JoinMaximal', WHERE WHAT IT READS IS OF BULK AT MOST 1048576: true; the input reads as it did. -/
def joinMaximalUptoRow : OpenClaim := { program := "ytciojbjoijedjaagreat", sum := "9e35900cf90331c6333094144e8b9670100232159f4a7e6d98e2621d5a622d84", func := "plexus/plexuslaw11.JoinMaximal", spec := "joinMaximal", inPlace := ["internal/bytealg.abigen_runtime_cmpstring", "slices.overlaps[int]"], unfollowed := true, recurses := true, loops := true, apart := false, narrowed := true }
def JoinMaximalUptoSaid : Prop := joinMaximalUptoRow.holds Tryz.pinned (OpenSpec.upto joinMaximalSpec)

/-- 'plexuslaw11.JoinDistributes', WHERE WHAT IT READS IS OF BULK AT MOST 1048576: true; the input reads as it did. -/
def joinDistributesUptoRow : OpenClaim := { program := "ytciojbjoijedjaagreat", sum := "9e35900cf90331c6333094144e8b9670100232159f4a7e6d98e2621d5a622d84", func := "plexus/plexuslaw11.JoinDistributes", spec := "joinDistributes", inPlace := ["internal/bytealg.abigen_runtime_cmpstring", "slices.overlaps[int]"], unfollowed := true, recurses := true, loops := true, apart := false, narrowed := true }
def JoinDistributesUptoSaid : Prop := joinDistributesUptoRow.holds Tryz.pinned (OpenSpec.upto joinDistributesSpec)

/-- 'plexuslaw11.JoinEnds', WHERE WHAT IT READS IS OF BULK AT MOST 1048576: true; the input reads as it did. -/
def joinEndsUptoRow : OpenClaim := { program := "ytciojbjoijedjaagreat", sum := "9e35900cf90331c6333094144e8b9670100232159f4a7e6d98e2621d5a622d84", func := "plexus/plexuslaw11.JoinEnds", spec := "joinEnds", inPlace := ["internal/bytealg.abigen_runtime_cmpstring", "slices.overlaps[int]"], unfollowed := true, recurses := true, loops := true, apart := false, narrowed := true }
def JoinEndsUptoSaid : Prop := joinEndsUptoRow.holds Tryz.pinned (OpenSpec.upto joinEndsSpec)

end Rows
end Go.Proofs.YtciojbjoijedjaaGreat
