/-
  What the rules ask of this program's types and functions.
-/
import Derived.Test.YtnjmbgnaplomaaaGreatA2
import Derived.Test.YtnjmbgnaplomaaaGreatRows
namespace Go.Proofs.YtnjmbgnaplomaaaGreat
open Go.RowKit
instance : TZero Tryz.prog 0 [Value.tuple #[]] := ⟨by kernel_rfl⟩
instance : TVar Tryz.prog 1 1 false := ⟨by kernel_rfl, by kernel_rfl⟩
instance : TVar Tryz.prog 2 1 false := ⟨by kernel_rfl, by kernel_rfl⟩
instance : TInt Tryz.prog 2 .i64 := ⟨by kernel_rfl⟩
instance : TZero Tryz.prog 2 [Value.int IntKind.i64 0] := ⟨by kernel_rfl⟩
instance : TVar Tryz.prog 3 1 false := ⟨by kernel_rfl, by kernel_rfl⟩
instance : TInt Tryz.prog 3 .i64 := ⟨by kernel_rfl⟩
instance : TZero Tryz.prog 3 [Value.int IntKind.i64 0] := ⟨by kernel_rfl⟩
instance : TVar Tryz.prog 4 1 false := ⟨by kernel_rfl, by kernel_rfl⟩
instance : TBool Tryz.prog 4 := ⟨by kernel_rfl⟩
instance : TZero Tryz.prog 4 [Value.bool false] := ⟨by kernel_rfl⟩
instance : TVar Tryz.prog 5 1 false := ⟨by kernel_rfl, by kernel_rfl⟩
instance : TInt Tryz.prog 5 .u8 := ⟨by kernel_rfl⟩
instance : TZero Tryz.prog 5 [Value.int IntKind.u8 0] := ⟨by kernel_rfl⟩
instance : TVar Tryz.prog 6 1 false := ⟨by kernel_rfl, by kernel_rfl⟩
instance : TInt Tryz.prog 6 .u8 := ⟨by kernel_rfl⟩
instance : TZero Tryz.prog 6 [Value.int IntKind.u8 0] := ⟨by kernel_rfl⟩
instance : TVar Tryz.prog 7 4 true := ⟨by kernel_rfl, by kernel_rfl⟩
instance : TField Tryz.prog 7 0 0 1 false := ⟨⟨2, by kernel_rfl, by kernel_rfl, by kernel_rfl⟩, by decide⟩
instance : TField Tryz.prog 7 1 1 1 false := ⟨⟨3, by kernel_rfl, by kernel_rfl, by kernel_rfl⟩, by decide⟩
instance : TField Tryz.prog 7 2 2 1 false := ⟨⟨4, by kernel_rfl, by kernel_rfl, by kernel_rfl⟩, by decide⟩
instance : TField Tryz.prog 7 3 3 1 false := ⟨⟨6, by kernel_rfl, by kernel_rfl, by kernel_rfl⟩, by decide⟩
instance : TZero Tryz.prog 7 [Value.int IntKind.i64 0, Value.int IntKind.i64 0, Value.bool false, Value.int IntKind.u8 0] := ⟨by kernel_rfl⟩
instance : TBuild Tryz.prog 7 [Value.int IntKind.i64 0, Value.int IntKind.i64 0, Value.bool false, Value.int IntKind.u8 0] [(0, 1), (1, 1), (2, 1), (3, 1)] := ⟨by kernel_rfl, by kernel_rfl⟩
instance : TVar Tryz.prog 8 4 true := ⟨by kernel_rfl, by kernel_rfl⟩
instance : TField Tryz.prog 8 0 0 1 false := ⟨⟨2, by kernel_rfl, by kernel_rfl, by kernel_rfl⟩, by decide⟩
instance : TField Tryz.prog 8 1 1 1 false := ⟨⟨3, by kernel_rfl, by kernel_rfl, by kernel_rfl⟩, by decide⟩
instance : TField Tryz.prog 8 2 2 1 false := ⟨⟨4, by kernel_rfl, by kernel_rfl, by kernel_rfl⟩, by decide⟩
instance : TField Tryz.prog 8 3 3 1 false := ⟨⟨6, by kernel_rfl, by kernel_rfl, by kernel_rfl⟩, by decide⟩
instance : TZero Tryz.prog 8 [Value.int IntKind.i64 0, Value.int IntKind.i64 0, Value.bool false, Value.int IntKind.u8 0] := ⟨by kernel_rfl⟩
instance : TBuild Tryz.prog 8 [Value.int IntKind.i64 0, Value.int IntKind.i64 0, Value.bool false, Value.int IntKind.u8 0] [(0, 1), (1, 1), (2, 1), (3, 1)] := ⟨by kernel_rfl, by kernel_rfl⟩
instance : TVar Tryz.prog 9 1 false := ⟨by kernel_rfl, by kernel_rfl⟩
instance : TStr Tryz.prog 9 := ⟨by kernel_rfl⟩
instance : TZero Tryz.prog 9 [Value.string { data := #[] }] := ⟨by kernel_rfl⟩
instance : TVar Tryz.prog 10 1 false := ⟨by kernel_rfl, by kernel_rfl⟩
instance : TStr Tryz.prog 10 := ⟨by kernel_rfl⟩
instance : TZero Tryz.prog 10 [Value.string { data := #[] }] := ⟨by kernel_rfl⟩
instance : TVar Tryz.prog 11 1 false := ⟨by kernel_rfl, by kernel_rfl⟩
instance : TStr Tryz.prog 11 := ⟨by kernel_rfl⟩
instance : TZero Tryz.prog 11 [Value.string { data := #[] }] := ⟨by kernel_rfl⟩
instance : TVar Tryz.prog 12 1 false := ⟨by kernel_rfl, by kernel_rfl⟩
instance : TInt Tryz.prog 12 .u64 := ⟨by kernel_rfl⟩
instance : TZero Tryz.prog 12 [Value.int IntKind.u64 0] := ⟨by kernel_rfl⟩
instance : TVar Tryz.prog 22 1 false := ⟨by kernel_rfl, by kernel_rfl⟩
instance : TApp Tryz.prog 22 9 1 16 := ⟨by kernel_rfl, by kernel_rfl, by decide⟩
instance : TElem Tryz.prog 22 9 1 := ⟨by kernel_rfl, by kernel_rfl⟩
instance : TZero Tryz.prog 22 [Value.slice none 0 0] := ⟨by kernel_rfl⟩
instance : TVar Tryz.prog 23 1 false := ⟨by kernel_rfl, by kernel_rfl⟩
instance : TApp Tryz.prog 23 26 6 96 := ⟨by kernel_rfl, by kernel_rfl, by decide⟩
instance : TElem Tryz.prog 23 26 6 := ⟨by kernel_rfl, by kernel_rfl⟩
instance : TZero Tryz.prog 23 [Value.slice none 0 0] := ⟨by kernel_rfl⟩
instance : TVar Tryz.prog 24 1 false := ⟨by kernel_rfl, by kernel_rfl⟩
instance : TApp Tryz.prog 24 141 2 40 := ⟨by kernel_rfl, by kernel_rfl, by decide⟩
instance : TElem Tryz.prog 24 141 2 := ⟨by kernel_rfl, by kernel_rfl⟩
instance : TZero Tryz.prog 24 [Value.slice none 0 0] := ⟨by kernel_rfl⟩
instance : TVar Tryz.prog 26 6 true := ⟨by kernel_rfl, by kernel_rfl⟩
instance : TField Tryz.prog 26 0 0 1 false := ⟨⟨3, by kernel_rfl, by kernel_rfl, by kernel_rfl⟩, by decide⟩
instance : TField Tryz.prog 26 1 1 1 false := ⟨⟨2, by kernel_rfl, by kernel_rfl, by kernel_rfl⟩, by decide⟩
instance : TField Tryz.prog 26 2 2 1 false := ⟨⟨2, by kernel_rfl, by kernel_rfl, by kernel_rfl⟩, by decide⟩
instance : TField Tryz.prog 26 3 3 1 false := ⟨⟨22, by kernel_rfl, by kernel_rfl, by kernel_rfl⟩, by decide⟩
instance : TField Tryz.prog 26 4 4 1 false := ⟨⟨23, by kernel_rfl, by kernel_rfl, by kernel_rfl⟩, by decide⟩
instance : TField Tryz.prog 26 5 5 1 false := ⟨⟨24, by kernel_rfl, by kernel_rfl, by kernel_rfl⟩, by decide⟩
instance : TZero Tryz.prog 26 [Value.int IntKind.i64 0, Value.int IntKind.i64 0, Value.int IntKind.i64 0, Value.slice none 0 0, Value.slice none 0 0, Value.slice none 0 0] := ⟨by kernel_rfl⟩
instance : TBuild Tryz.prog 26 [Value.int IntKind.i64 0, Value.int IntKind.i64 0, Value.int IntKind.i64 0, Value.slice none 0 0, Value.slice none 0 0, Value.slice none 0 0] [(0, 1), (1, 1), (2, 1), (3, 1), (4, 1), (5, 1)] := ⟨by kernel_rfl, by kernel_rfl⟩
instance : TVar Tryz.prog 27 1 false := ⟨by kernel_rfl, by kernel_rfl⟩
instance : TApp Tryz.prog 27 46 8 112 := ⟨by kernel_rfl, by kernel_rfl, by decide⟩
instance : TElem Tryz.prog 27 46 8 := ⟨by kernel_rfl, by kernel_rfl⟩
instance : TZero Tryz.prog 27 [Value.slice none 0 0] := ⟨by kernel_rfl⟩
instance : TVar Tryz.prog 30 1 false := ⟨by kernel_rfl, by kernel_rfl⟩
instance : TZero Tryz.prog 30 [Value.pointer none] := ⟨by kernel_rfl⟩
instance : TVar Tryz.prog 31 1 false := ⟨by kernel_rfl, by kernel_rfl⟩
instance : TInt Tryz.prog 31 .i64 := ⟨by kernel_rfl⟩
instance : TZero Tryz.prog 31 [Value.int IntKind.i64 0] := ⟨by kernel_rfl⟩
instance : TZero Tryz.prog 32 [Value.tuple #[Value.pointer none, Value.int IntKind.i64 0]] := ⟨by kernel_rfl⟩
instance : TVar Tryz.prog 34 1 false := ⟨by kernel_rfl, by kernel_rfl⟩
instance : TZero Tryz.prog 34 [Value.pointer none] := ⟨by kernel_rfl⟩
instance : TZero Tryz.prog 35 [Value.tuple #[Value.pointer none, Value.int IntKind.i64 0]] := ⟨by kernel_rfl⟩
instance : TVar Tryz.prog 38 1 false := ⟨by kernel_rfl, by kernel_rfl⟩
instance : TApp Tryz.prog 38 41 4 80 := ⟨by kernel_rfl, by kernel_rfl, by decide⟩
instance : TElem Tryz.prog 38 41 4 := ⟨by kernel_rfl, by kernel_rfl⟩
instance : TZero Tryz.prog 38 [Value.slice none 0 0] := ⟨by kernel_rfl⟩
instance : TVar Tryz.prog 39 1 false := ⟨by kernel_rfl, by kernel_rfl⟩
instance : TApp Tryz.prog 39 114 2 40 := ⟨by kernel_rfl, by kernel_rfl, by decide⟩
instance : TElem Tryz.prog 39 114 2 := ⟨by kernel_rfl, by kernel_rfl⟩
instance : TZero Tryz.prog 39 [Value.slice none 0 0] := ⟨by kernel_rfl⟩
instance : TVar Tryz.prog 41 4 true := ⟨by kernel_rfl, by kernel_rfl⟩
instance : TField Tryz.prog 41 0 0 1 false := ⟨⟨2, by kernel_rfl, by kernel_rfl, by kernel_rfl⟩, by decide⟩
instance : TField Tryz.prog 41 1 1 1 false := ⟨⟨22, by kernel_rfl, by kernel_rfl, by kernel_rfl⟩, by decide⟩
instance : TField Tryz.prog 41 2 2 1 false := ⟨⟨38, by kernel_rfl, by kernel_rfl, by kernel_rfl⟩, by decide⟩
instance : TField Tryz.prog 41 3 3 1 false := ⟨⟨39, by kernel_rfl, by kernel_rfl, by kernel_rfl⟩, by decide⟩
instance : TZero Tryz.prog 41 [Value.int IntKind.i64 0, Value.slice none 0 0, Value.slice none 0 0, Value.slice none 0 0] := ⟨by kernel_rfl⟩
instance : TBuild Tryz.prog 41 [Value.int IntKind.i64 0, Value.slice none 0 0, Value.slice none 0 0, Value.slice none 0 0] [(0, 1), (1, 1), (2, 1), (3, 1)] := ⟨by kernel_rfl, by kernel_rfl⟩
instance : TVar Tryz.prog 44 11 true := ⟨by kernel_rfl, by kernel_rfl⟩
instance : TField Tryz.prog 44 0 0 6 true := ⟨⟨26, by kernel_rfl, by kernel_rfl, by kernel_rfl⟩, by decide⟩
instance : TField Tryz.prog 44 1 6 1 false := ⟨⟨3, by kernel_rfl, by kernel_rfl, by kernel_rfl⟩, by decide⟩
instance : TField Tryz.prog 44 2 7 4 true := ⟨⟨41, by kernel_rfl, by kernel_rfl, by kernel_rfl⟩, by decide⟩
instance : TZero Tryz.prog 44 [Value.int IntKind.i64 0, Value.int IntKind.i64 0, Value.int IntKind.i64 0, Value.slice none 0 0, Value.slice none 0 0, Value.slice none 0 0, Value.int IntKind.i64 0, Value.int IntKind.i64 0, Value.slice none 0 0, Value.slice none 0 0, Value.slice none 0 0] := ⟨by kernel_rfl⟩
instance : TBuild Tryz.prog 44 [Value.int IntKind.i64 0, Value.int IntKind.i64 0, Value.int IntKind.i64 0, Value.slice none 0 0, Value.slice none 0 0, Value.slice none 0 0, Value.int IntKind.i64 0, Value.int IntKind.i64 0, Value.slice none 0 0, Value.slice none 0 0, Value.slice none 0 0] [(0, 6), (6, 1), (7, 4)] := ⟨by kernel_rfl, by kernel_rfl⟩
instance : TVar Tryz.prog 46 8 true := ⟨by kernel_rfl, by kernel_rfl⟩
instance : TField Tryz.prog 46 0 0 1 false := ⟨⟨3, by kernel_rfl, by kernel_rfl, by kernel_rfl⟩, by decide⟩
instance : TField Tryz.prog 46 1 1 1 false := ⟨⟨3, by kernel_rfl, by kernel_rfl, by kernel_rfl⟩, by decide⟩
instance : TField Tryz.prog 46 2 2 1 false := ⟨⟨3, by kernel_rfl, by kernel_rfl, by kernel_rfl⟩, by decide⟩
instance : TField Tryz.prog 46 3 3 1 false := ⟨⟨3, by kernel_rfl, by kernel_rfl, by kernel_rfl⟩, by decide⟩
instance : TField Tryz.prog 46 4 4 4 true := ⟨⟨41, by kernel_rfl, by kernel_rfl, by kernel_rfl⟩, by decide⟩
instance : TZero Tryz.prog 46 [Value.int IntKind.i64 0, Value.int IntKind.i64 0, Value.int IntKind.i64 0, Value.int IntKind.i64 0, Value.int IntKind.i64 0, Value.slice none 0 0, Value.slice none 0 0, Value.slice none 0 0] := ⟨by kernel_rfl⟩
instance : TBuild Tryz.prog 46 [Value.int IntKind.i64 0, Value.int IntKind.i64 0, Value.int IntKind.i64 0, Value.int IntKind.i64 0, Value.int IntKind.i64 0, Value.slice none 0 0, Value.slice none 0 0, Value.slice none 0 0] [(0, 1), (1, 1), (2, 1), (3, 1), (4, 4)] := ⟨by kernel_rfl, by kernel_rfl⟩
instance : TZero Tryz.prog 47 [Value.tuple #[Value.agg #[Value.int IntKind.i64 0, Value.int IntKind.i64 0, Value.int IntKind.i64 0, Value.int IntKind.i64 0, Value.int IntKind.i64 0, Value.slice none 0 0, Value.slice none 0 0, Value.slice none 0 0], Value.int IntKind.i64 0]] := ⟨by kernel_rfl⟩
instance : TVar Tryz.prog 52 1 false := ⟨by kernel_rfl, by kernel_rfl⟩
instance : TZero Tryz.prog 52 [Value.pointer none] := ⟨by kernel_rfl⟩
instance : TZero Tryz.prog 53 [Value.tuple #[Value.pointer none, Value.int IntKind.i64 0]] := ⟨by kernel_rfl⟩
instance : TZero Tryz.prog 58 [Value.tuple #[Value.agg #[Value.int IntKind.i64 0, Value.slice none 0 0, Value.slice none 0 0, Value.slice none 0 0], Value.bool false]] := ⟨by kernel_rfl⟩
instance : TVar Tryz.prog 60 1 false := ⟨by kernel_rfl, by kernel_rfl⟩
instance : TApp Tryz.prog 60 3 1 8 := ⟨by kernel_rfl, by kernel_rfl, by decide⟩
instance : TElem Tryz.prog 60 3 1 := ⟨by kernel_rfl, by kernel_rfl⟩
instance : TZero Tryz.prog 60 [Value.slice none 0 0] := ⟨by kernel_rfl⟩
instance : TVar Tryz.prog 77 1 false := ⟨by kernel_rfl, by kernel_rfl⟩
instance : TApp Tryz.prog 77 4 1 1 := ⟨by kernel_rfl, by kernel_rfl, by decide⟩
instance : TElem Tryz.prog 77 4 1 := ⟨by kernel_rfl, by kernel_rfl⟩
instance : TZero Tryz.prog 77 [Value.slice none 0 0] := ⟨by kernel_rfl⟩
instance : TZero Tryz.prog 86 [Value.tuple #[Value.agg #[Value.int IntKind.i64 0, Value.slice none 0 0, Value.slice none 0 0, Value.slice none 0 0], Value.int IntKind.i64 0]] := ⟨by kernel_rfl⟩
instance : TVar Tryz.prog 92 11 true := ⟨by kernel_rfl, by kernel_rfl⟩
instance : TField Tryz.prog 92 0 0 6 true := ⟨⟨26, by kernel_rfl, by kernel_rfl, by kernel_rfl⟩, by decide⟩
instance : TField Tryz.prog 92 1 6 1 false := ⟨⟨3, by kernel_rfl, by kernel_rfl, by kernel_rfl⟩, by decide⟩
instance : TField Tryz.prog 92 2 7 4 true := ⟨⟨41, by kernel_rfl, by kernel_rfl, by kernel_rfl⟩, by decide⟩
instance : TZero Tryz.prog 92 [Value.int IntKind.i64 0, Value.int IntKind.i64 0, Value.int IntKind.i64 0, Value.slice none 0 0, Value.slice none 0 0, Value.slice none 0 0, Value.int IntKind.i64 0, Value.int IntKind.i64 0, Value.slice none 0 0, Value.slice none 0 0, Value.slice none 0 0] := ⟨by kernel_rfl⟩
instance : TBuild Tryz.prog 92 [Value.int IntKind.i64 0, Value.int IntKind.i64 0, Value.int IntKind.i64 0, Value.slice none 0 0, Value.slice none 0 0, Value.slice none 0 0, Value.int IntKind.i64 0, Value.int IntKind.i64 0, Value.slice none 0 0, Value.slice none 0 0, Value.slice none 0 0] [(0, 6), (6, 1), (7, 4)] := ⟨by kernel_rfl, by kernel_rfl⟩
instance : TVar Tryz.prog 93 1 false := ⟨by kernel_rfl, by kernel_rfl⟩
instance : TVar Tryz.prog 96 12 true := ⟨by kernel_rfl, by kernel_rfl⟩
instance : TArr Tryz.prog 96 12 4 1 := ⟨by kernel_rfl, by kernel_rfl⟩
instance : TZero Tryz.prog 96 [Value.bool false, Value.bool false, Value.bool false, Value.bool false, Value.bool false, Value.bool false, Value.bool false, Value.bool false, Value.bool false, Value.bool false, Value.bool false, Value.bool false] := ⟨by kernel_rfl⟩
instance : TVar Tryz.prog 98 29 true := ⟨by kernel_rfl, by kernel_rfl⟩
instance : TField Tryz.prog 98 0 0 6 true := ⟨⟨26, by kernel_rfl, by kernel_rfl, by kernel_rfl⟩, by decide⟩
instance : TField Tryz.prog 98 1 6 1 false := ⟨⟨3, by kernel_rfl, by kernel_rfl, by kernel_rfl⟩, by decide⟩
instance : TField Tryz.prog 98 2 7 1 false := ⟨⟨3, by kernel_rfl, by kernel_rfl, by kernel_rfl⟩, by decide⟩
instance : TField Tryz.prog 98 3 8 1 false := ⟨⟨3, by kernel_rfl, by kernel_rfl, by kernel_rfl⟩, by decide⟩
instance : TField Tryz.prog 98 4 9 4 true := ⟨⟨41, by kernel_rfl, by kernel_rfl, by kernel_rfl⟩, by decide⟩
instance : TField Tryz.prog 98 5 13 1 false := ⟨⟨3, by kernel_rfl, by kernel_rfl, by kernel_rfl⟩, by decide⟩
instance : TField Tryz.prog 98 6 14 12 true := ⟨⟨96, by kernel_rfl, by kernel_rfl, by kernel_rfl⟩, by decide⟩
instance : TField Tryz.prog 98 7 26 1 false := ⟨⟨3, by kernel_rfl, by kernel_rfl, by kernel_rfl⟩, by decide⟩
instance : TField Tryz.prog 98 8 27 1 false := ⟨⟨38, by kernel_rfl, by kernel_rfl, by kernel_rfl⟩, by decide⟩
instance : TField Tryz.prog 98 9 28 1 false := ⟨⟨4, by kernel_rfl, by kernel_rfl, by kernel_rfl⟩, by decide⟩
instance : TZero Tryz.prog 98 [Value.int IntKind.i64 0, Value.int IntKind.i64 0, Value.int IntKind.i64 0, Value.slice none 0 0, Value.slice none 0 0, Value.slice none 0 0, Value.int IntKind.i64 0, Value.int IntKind.i64 0, Value.int IntKind.i64 0, Value.int IntKind.i64 0, Value.slice none 0 0, Value.slice none 0 0, Value.slice none 0 0, Value.int IntKind.i64 0, Value.bool false, Value.bool false, Value.bool false, Value.bool false, Value.bool false, Value.bool false, Value.bool false, Value.bool false, Value.bool false, Value.bool false, Value.bool false, Value.bool false, Value.int IntKind.i64 0, Value.slice none 0 0, Value.bool false] := ⟨by kernel_rfl⟩
instance : TBuild Tryz.prog 98 [Value.int IntKind.i64 0, Value.int IntKind.i64 0, Value.int IntKind.i64 0, Value.slice none 0 0, Value.slice none 0 0, Value.slice none 0 0, Value.int IntKind.i64 0, Value.int IntKind.i64 0, Value.int IntKind.i64 0, Value.int IntKind.i64 0, Value.slice none 0 0, Value.slice none 0 0, Value.slice none 0 0, Value.int IntKind.i64 0, Value.bool false, Value.bool false, Value.bool false, Value.bool false, Value.bool false, Value.bool false, Value.bool false, Value.bool false, Value.bool false, Value.bool false, Value.bool false, Value.bool false, Value.int IntKind.i64 0, Value.slice none 0 0, Value.bool false] [(0, 6), (6, 1), (7, 1), (8, 1), (9, 4), (13, 1), (14, 12), (26, 1), (27, 1), (28, 1)] := ⟨by kernel_rfl, by kernel_rfl⟩
instance : TZero Tryz.prog 99 [Value.tuple #[Value.int IntKind.i64 0, Value.int IntKind.i64 0]] := ⟨by kernel_rfl⟩
instance : TVar Tryz.prog 106 1 true := ⟨by kernel_rfl, by kernel_rfl⟩
instance : TField Tryz.prog 106 0 0 1 false := ⟨⟨3, by kernel_rfl, by kernel_rfl, by kernel_rfl⟩, by decide⟩
instance : TZero Tryz.prog 106 [Value.int IntKind.i64 0] := ⟨by kernel_rfl⟩
instance : TBuild Tryz.prog 106 [Value.int IntKind.i64 0] [(0, 1)] := ⟨by kernel_rfl, by kernel_rfl⟩
instance : TVar Tryz.prog 111 1 false := ⟨by kernel_rfl, by kernel_rfl⟩
instance : TVar Tryz.prog 112 1 false := ⟨by kernel_rfl, by kernel_rfl⟩
instance : TApp Tryz.prog 112 148 2 16 := ⟨by kernel_rfl, by kernel_rfl, by decide⟩
instance : TElem Tryz.prog 112 148 2 := ⟨by kernel_rfl, by kernel_rfl⟩
instance : TZero Tryz.prog 112 [Value.slice none 0 0] := ⟨by kernel_rfl⟩
instance : TVar Tryz.prog 114 2 true := ⟨by kernel_rfl, by kernel_rfl⟩
instance : TField Tryz.prog 114 0 0 1 false := ⟨⟨112, by kernel_rfl, by kernel_rfl, by kernel_rfl⟩, by decide⟩
instance : TField Tryz.prog 114 1 1 1 false := ⟨⟨9, by kernel_rfl, by kernel_rfl, by kernel_rfl⟩, by decide⟩
instance : TZero Tryz.prog 114 [Value.slice none 0 0, Value.string { data := #[] }] := ⟨by kernel_rfl⟩
instance : TBuild Tryz.prog 114 [Value.slice none 0 0, Value.string { data := #[] }] [(0, 1), (1, 1)] := ⟨by kernel_rfl, by kernel_rfl⟩
instance : TVar Tryz.prog 129 1 false := ⟨by kernel_rfl, by kernel_rfl⟩
instance : TZero Tryz.prog 129 [Value.pointer none] := ⟨by kernel_rfl⟩
instance : TVar Tryz.prog 141 2 true := ⟨by kernel_rfl, by kernel_rfl⟩
instance : TField Tryz.prog 141 0 0 1 false := ⟨⟨22, by kernel_rfl, by kernel_rfl, by kernel_rfl⟩, by decide⟩
instance : TField Tryz.prog 141 1 1 1 false := ⟨⟨9, by kernel_rfl, by kernel_rfl, by kernel_rfl⟩, by decide⟩
instance : TZero Tryz.prog 141 [Value.slice none 0 0, Value.string { data := #[] }] := ⟨by kernel_rfl⟩
instance : TBuild Tryz.prog 141 [Value.slice none 0 0, Value.string { data := #[] }] [(0, 1), (1, 1)] := ⟨by kernel_rfl, by kernel_rfl⟩
instance : TZero Tryz.prog 143 [Value.tuple #[Value.slice none 0 0, Value.slice none 0 0]] := ⟨by kernel_rfl⟩
instance : TVar Tryz.prog 146 1 false := ⟨by kernel_rfl, by kernel_rfl⟩
instance : TApp Tryz.prog 146 31 1 8 := ⟨by kernel_rfl, by kernel_rfl, by decide⟩
instance : TElem Tryz.prog 146 31 1 := ⟨by kernel_rfl, by kernel_rfl⟩
instance : TZero Tryz.prog 146 [Value.slice none 0 0] := ⟨by kernel_rfl⟩
instance : TVar Tryz.prog 148 2 true := ⟨by kernel_rfl, by kernel_rfl⟩
instance : TField Tryz.prog 148 0 0 1 false := ⟨⟨3, by kernel_rfl, by kernel_rfl, by kernel_rfl⟩, by decide⟩
instance : TField Tryz.prog 148 1 1 1 false := ⟨⟨2, by kernel_rfl, by kernel_rfl, by kernel_rfl⟩, by decide⟩
instance : TZero Tryz.prog 148 [Value.int IntKind.i64 0, Value.int IntKind.i64 0] := ⟨by kernel_rfl⟩
instance : TBuild Tryz.prog 148 [Value.int IntKind.i64 0, Value.int IntKind.i64 0] [(0, 1), (1, 1)] := ⟨by kernel_rfl, by kernel_rfl⟩
instance : TVar Tryz.prog 151 1 false := ⟨by kernel_rfl, by kernel_rfl⟩
instance : TZero Tryz.prog 158 [Value.tuple #[Value.slice none 0 0, Value.int IntKind.i64 0]] := ⟨by kernel_rfl⟩
instance : TVar Tryz.prog 163 1 false := ⟨by kernel_rfl, by kernel_rfl⟩
instance : TVar Tryz.prog 167 1 false := ⟨by kernel_rfl, by kernel_rfl⟩
instance : TApp Tryz.prog 167 2 1 8 := ⟨by kernel_rfl, by kernel_rfl, by decide⟩
instance : TElem Tryz.prog 167 2 1 := ⟨by kernel_rfl, by kernel_rfl⟩
instance : TZero Tryz.prog 167 [Value.slice none 0 0] := ⟨by kernel_rfl⟩
instance : TVar Tryz.prog 170 1 false := ⟨by kernel_rfl, by kernel_rfl⟩
instance : TZero Tryz.prog 170 [Value.pointer none] := ⟨by kernel_rfl⟩
instance : TZero Tryz.prog 171 [Value.tuple #[Value.pointer none, Value.int IntKind.i64 0]] := ⟨by kernel_rfl⟩
instance : TZero Tryz.prog 173 [Value.tuple #[Value.slice none 0 0, Value.int IntKind.i64 0]] := ⟨by kernel_rfl⟩
instance : TVar Tryz.prog 179 1 false := ⟨by kernel_rfl, by kernel_rfl⟩
instance : TVar Tryz.prog 181 1 false := ⟨by kernel_rfl, by kernel_rfl⟩
instance : TApp Tryz.prog 181 195 2 32 := ⟨by kernel_rfl, by kernel_rfl, by decide⟩
instance : TElem Tryz.prog 181 195 2 := ⟨by kernel_rfl, by kernel_rfl⟩
instance : TZero Tryz.prog 181 [Value.slice none 0 0] := ⟨by kernel_rfl⟩
instance : TVar Tryz.prog 183 2 true := ⟨by kernel_rfl, by kernel_rfl⟩
instance : TField Tryz.prog 183 0 0 1 false := ⟨⟨22, by kernel_rfl, by kernel_rfl, by kernel_rfl⟩, by decide⟩
instance : TField Tryz.prog 183 1 1 1 false := ⟨⟨181, by kernel_rfl, by kernel_rfl, by kernel_rfl⟩, by decide⟩
instance : TZero Tryz.prog 183 [Value.slice none 0 0, Value.slice none 0 0] := ⟨by kernel_rfl⟩
instance : TBuild Tryz.prog 183 [Value.slice none 0 0, Value.slice none 0 0] [(0, 1), (1, 1)] := ⟨by kernel_rfl, by kernel_rfl⟩
instance : TVar Tryz.prog 186 1 false := ⟨by kernel_rfl, by kernel_rfl⟩
instance : TApp Tryz.prog 186 199 2 16 := ⟨by kernel_rfl, by kernel_rfl, by decide⟩
instance : TElem Tryz.prog 186 199 2 := ⟨by kernel_rfl, by kernel_rfl⟩
instance : TZero Tryz.prog 186 [Value.slice none 0 0] := ⟨by kernel_rfl⟩
instance : TZero Tryz.prog 187 [Value.tuple #[Value.slice none 0 0, Value.slice none 0 0]] := ⟨by kernel_rfl⟩
instance : TVar Tryz.prog 189 1 false := ⟨by kernel_rfl, by kernel_rfl⟩
instance : TVar Tryz.prog 192 1 false := ⟨by kernel_rfl, by kernel_rfl⟩
instance : TInt Tryz.prog 192 .u64 := ⟨by kernel_rfl⟩
instance : TZero Tryz.prog 192 [Value.int IntKind.u64 0] := ⟨by kernel_rfl⟩
instance : TVar Tryz.prog 195 2 true := ⟨by kernel_rfl, by kernel_rfl⟩
instance : TField Tryz.prog 195 0 0 1 false := ⟨⟨60, by kernel_rfl, by kernel_rfl, by kernel_rfl⟩, by decide⟩
instance : TField Tryz.prog 195 1 1 1 false := ⟨⟨3, by kernel_rfl, by kernel_rfl, by kernel_rfl⟩, by decide⟩
instance : TZero Tryz.prog 195 [Value.slice none 0 0, Value.int IntKind.i64 0] := ⟨by kernel_rfl⟩
instance : TBuild Tryz.prog 195 [Value.slice none 0 0, Value.int IntKind.i64 0] [(0, 1), (1, 1)] := ⟨by kernel_rfl, by kernel_rfl⟩
instance : TZero Tryz.prog 196 [Value.tuple #[Value.int IntKind.i64 0, Value.bool false]] := ⟨by kernel_rfl⟩
instance : TVar Tryz.prog 199 2 true := ⟨by kernel_rfl, by kernel_rfl⟩
instance : TField Tryz.prog 199 0 0 1 false := ⟨⟨3, by kernel_rfl, by kernel_rfl, by kernel_rfl⟩, by decide⟩
instance : TField Tryz.prog 199 1 1 1 false := ⟨⟨3, by kernel_rfl, by kernel_rfl, by kernel_rfl⟩, by decide⟩
instance : TZero Tryz.prog 199 [Value.int IntKind.i64 0, Value.int IntKind.i64 0] := ⟨by kernel_rfl⟩
instance : TBuild Tryz.prog 199 [Value.int IntKind.i64 0, Value.int IntKind.i64 0] [(0, 1), (1, 1)] := ⟨by kernel_rfl, by kernel_rfl⟩
instance : TVar Tryz.prog 202 1 false := ⟨by kernel_rfl, by kernel_rfl⟩
instance : TInt Tryz.prog 202 .i64 := ⟨by kernel_rfl⟩
instance : TZero Tryz.prog 202 [Value.int IntKind.i64 0] := ⟨by kernel_rfl⟩
instance : TZero Tryz.prog 203 [Value.tuple #[Value.int IntKind.i64 0, Value.int IntKind.i64 0]] := ⟨by kernel_rfl⟩
instance : TVar Tryz.prog 209 1 false := ⟨by kernel_rfl, by kernel_rfl⟩
instance : TInt Tryz.prog 209 .u32 := ⟨by kernel_rfl⟩
instance : TZero Tryz.prog 209 [Value.int IntKind.u32 0] := ⟨by kernel_rfl⟩
instance : TVar Tryz.prog 211 1 false := ⟨by kernel_rfl, by kernel_rfl⟩
instance : TInt Tryz.prog 211 .u64 := ⟨by kernel_rfl⟩
instance : TZero Tryz.prog 211 [Value.int IntKind.u64 0] := ⟨by kernel_rfl⟩
instance : TVar Tryz.prog 214 1 false := ⟨by kernel_rfl, by kernel_rfl⟩
instance : TInt Tryz.prog 214 .u64 := ⟨by kernel_rfl⟩
instance : TZero Tryz.prog 214 [Value.int IntKind.u64 0] := ⟨by kernel_rfl⟩
instance : TVar Tryz.prog 218 1 false := ⟨by kernel_rfl, by kernel_rfl⟩
instance : TZero Tryz.prog 218 [Value.pointer none] := ⟨by kernel_rfl⟩
instance : TVar Tryz.prog 225 1 false := ⟨by kernel_rfl, by kernel_rfl⟩
instance : TZero Tryz.prog 225 [Value.pointer none] := ⟨by kernel_rfl⟩
instance : TZero Tryz.prog 226 [Value.tuple #[Value.int IntKind.i64 0, Value.int IntKind.i64 0]] := ⟨by kernel_rfl⟩
instance : TFn Tryz.prog 3 := ⟨fun _ _ => by kernel_rfl⟩
instance : TFn Tryz.prog 10 := ⟨fun _ _ => by kernel_rfl⟩
instance : TFn Tryz.prog 11 := ⟨fun _ _ => by kernel_rfl⟩
instance : TFn Tryz.prog 12 := ⟨fun _ _ => by kernel_rfl⟩
instance : TFn Tryz.prog 13 := ⟨fun _ _ => by kernel_rfl⟩
instance : TFn Tryz.prog 14 := ⟨fun _ _ => by kernel_rfl⟩
instance : TFn Tryz.prog 15 := ⟨fun _ _ => by kernel_rfl⟩
instance : TFn Tryz.prog 16 := ⟨fun _ _ => by kernel_rfl⟩
instance : TFn Tryz.prog 17 := ⟨fun _ _ => by kernel_rfl⟩
instance : TFn Tryz.prog 18 := ⟨fun _ _ => by kernel_rfl⟩
instance : TFn Tryz.prog 19 := ⟨fun _ _ => by kernel_rfl⟩
instance : TFn Tryz.prog 20 := ⟨fun _ _ => by kernel_rfl⟩
instance : TFn Tryz.prog 22 := ⟨fun _ _ => by kernel_rfl⟩
instance : TFn Tryz.prog 24 := ⟨fun _ _ => by kernel_rfl⟩
instance : TFn Tryz.prog 25 := ⟨fun _ _ => by kernel_rfl⟩
instance : TFn Tryz.prog 27 := ⟨fun _ _ => by kernel_rfl⟩
instance : TFn Tryz.prog 29 := ⟨fun _ _ => by kernel_rfl⟩
instance : TFn Tryz.prog 31 := ⟨fun _ _ => by kernel_rfl⟩
instance : TFn Tryz.prog 32 := ⟨fun _ _ => by kernel_rfl⟩
instance : TFn Tryz.prog 33 := ⟨fun _ _ => by kernel_rfl⟩
instance : TFn Tryz.prog 41 := ⟨fun _ _ => by kernel_rfl⟩
instance : TFn Tryz.prog 42 := ⟨fun _ _ => by kernel_rfl⟩
instance : TFn Tryz.prog 43 := ⟨fun _ _ => by kernel_rfl⟩
instance : TFn Tryz.prog 44 := ⟨fun _ _ => by kernel_rfl⟩
instance : TFn Tryz.prog 45 := ⟨fun _ _ => by kernel_rfl⟩
instance : TFn Tryz.prog 46 := ⟨fun _ _ => by kernel_rfl⟩
instance : TFn Tryz.prog 47 := ⟨fun _ _ => by kernel_rfl⟩
instance : TFn Tryz.prog 48 := ⟨fun _ _ => by kernel_rfl⟩
instance : TFn Tryz.prog 49 := ⟨fun _ _ => by kernel_rfl⟩
instance : TFn Tryz.prog 50 := ⟨fun _ _ => by kernel_rfl⟩
instance : TFn Tryz.prog 51 := ⟨fun _ _ => by kernel_rfl⟩
instance : TFn Tryz.prog 52 := ⟨fun _ _ => by kernel_rfl⟩
instance : TFn Tryz.prog 53 := ⟨fun _ _ => by kernel_rfl⟩
instance : TFn Tryz.prog 54 := ⟨fun _ _ => by kernel_rfl⟩
instance : TFn Tryz.prog 55 := ⟨fun _ _ => by kernel_rfl⟩
instance : TFn Tryz.prog 58 := ⟨fun _ _ => by kernel_rfl⟩
instance : TFn Tryz.prog 59 := ⟨fun _ _ => by kernel_rfl⟩
instance : TFn Tryz.prog 60 := ⟨fun _ _ => by kernel_rfl⟩
instance : TFn Tryz.prog 61 := ⟨fun _ _ => by kernel_rfl⟩
instance : TFn Tryz.prog 62 := ⟨fun _ _ => by kernel_rfl⟩
instance : TFn Tryz.prog 63 := ⟨fun _ _ => by kernel_rfl⟩
instance : TFn Tryz.prog 64 := ⟨fun _ _ => by kernel_rfl⟩
instance : TFn Tryz.prog 65 := ⟨fun _ _ => by kernel_rfl⟩
instance : TFn Tryz.prog 66 := ⟨fun _ _ => by kernel_rfl⟩
instance : TFn Tryz.prog 67 := ⟨fun _ _ => by kernel_rfl⟩
instance : TFn Tryz.prog 68 := ⟨fun _ _ => by kernel_rfl⟩
instance : TFn Tryz.prog 69 := ⟨fun _ _ => by kernel_rfl⟩
instance : TFn Tryz.prog 70 := ⟨fun _ _ => by kernel_rfl⟩
instance : TFn Tryz.prog 71 := ⟨fun _ _ => by kernel_rfl⟩
instance : TFn Tryz.prog 72 := ⟨fun _ _ => by kernel_rfl⟩
instance : TFn Tryz.prog 73 := ⟨fun _ _ => by kernel_rfl⟩
instance : TFn Tryz.prog 74 := ⟨fun _ _ => by kernel_rfl⟩
instance : TFn Tryz.prog 75 := ⟨fun _ _ => by kernel_rfl⟩
instance : TFn Tryz.prog 76 := ⟨fun _ _ => by kernel_rfl⟩
instance : TFn Tryz.prog 77 := ⟨fun _ _ => by kernel_rfl⟩
instance : TFn Tryz.prog 78 := ⟨fun _ _ => by kernel_rfl⟩
instance : TFn Tryz.prog 80 := ⟨fun _ _ => by kernel_rfl⟩
instance : TFn Tryz.prog 81 := ⟨fun _ _ => by kernel_rfl⟩
instance : TFn Tryz.prog 82 := ⟨fun _ _ => by kernel_rfl⟩
instance : TFn Tryz.prog 83 := ⟨fun _ _ => by kernel_rfl⟩
instance : TFn Tryz.prog 84 := ⟨fun _ _ => by kernel_rfl⟩
instance : TFn Tryz.prog 85 := ⟨fun _ _ => by kernel_rfl⟩
instance : TFn Tryz.prog 86 := ⟨fun _ _ => by kernel_rfl⟩
instance : TFn Tryz.prog 87 := ⟨fun _ _ => by kernel_rfl⟩
instance : TFn Tryz.prog 88 := ⟨fun _ _ => by kernel_rfl⟩
instance : TFn Tryz.prog 89 := ⟨fun _ _ => by kernel_rfl⟩
instance : TFn Tryz.prog 90 := ⟨fun _ _ => by kernel_rfl⟩
instance : TFn Tryz.prog 91 := ⟨fun _ _ => by kernel_rfl⟩
instance : TFn Tryz.prog 92 := ⟨fun _ _ => by kernel_rfl⟩
instance : TFn Tryz.prog 93 := ⟨fun _ _ => by kernel_rfl⟩
instance : TFn Tryz.prog 94 := ⟨fun _ _ => by kernel_rfl⟩
instance : TFn Tryz.prog 95 := ⟨fun _ _ => by kernel_rfl⟩
instance : TFn Tryz.prog 96 := ⟨fun _ _ => by kernel_rfl⟩
instance : TFn Tryz.prog 97 := ⟨fun _ _ => by kernel_rfl⟩
instance : TFn Tryz.prog 98 := ⟨fun _ _ => by kernel_rfl⟩
instance : TFn Tryz.prog 99 := ⟨fun _ _ => by kernel_rfl⟩
instance : TFn Tryz.prog 100 := ⟨fun _ _ => by kernel_rfl⟩
instance : TFn Tryz.prog 101 := ⟨fun _ _ => by kernel_rfl⟩
instance : TFn Tryz.prog 102 := ⟨fun _ _ => by kernel_rfl⟩
instance : TFn Tryz.prog 103 := ⟨fun _ _ => by kernel_rfl⟩
instance : TFn Tryz.prog 104 := ⟨fun _ _ => by kernel_rfl⟩
instance : TFn Tryz.prog 105 := ⟨fun _ _ => by kernel_rfl⟩
instance : TFn Tryz.prog 106 := ⟨fun _ _ => by kernel_rfl⟩
instance : TFn Tryz.prog 107 := ⟨fun _ _ => by kernel_rfl⟩
instance : TFn Tryz.prog 108 := ⟨fun _ _ => by kernel_rfl⟩
instance : TFn Tryz.prog 109 := ⟨fun _ _ => by kernel_rfl⟩
instance : TFn Tryz.prog 110 := ⟨fun _ _ => by kernel_rfl⟩
instance : TFn Tryz.prog 111 := ⟨fun _ _ => by kernel_rfl⟩
instance : TFn Tryz.prog 112 := ⟨fun _ _ => by kernel_rfl⟩
instance : TFn Tryz.prog 113 := ⟨fun _ _ => by kernel_rfl⟩
instance : TFn Tryz.prog 114 := ⟨fun _ _ => by kernel_rfl⟩
instance : TFn Tryz.prog 115 := ⟨fun _ _ => by kernel_rfl⟩
instance : TFn Tryz.prog 116 := ⟨fun _ _ => by kernel_rfl⟩
instance : TFn Tryz.prog 117 := ⟨fun _ _ => by kernel_rfl⟩
instance : TFn Tryz.prog 118 := ⟨fun _ _ => by kernel_rfl⟩
instance : TFn Tryz.prog 119 := ⟨fun _ _ => by kernel_rfl⟩
instance : TFn Tryz.prog 120 := ⟨fun _ _ => by kernel_rfl⟩
instance : TFn Tryz.prog 121 := ⟨fun _ _ => by kernel_rfl⟩
instance : TFn Tryz.prog 122 := ⟨fun _ _ => by kernel_rfl⟩
instance : TFn Tryz.prog 123 := ⟨fun _ _ => by kernel_rfl⟩
instance : TFn Tryz.prog 124 := ⟨fun _ _ => by kernel_rfl⟩
instance : TFn Tryz.prog 125 := ⟨fun _ _ => by kernel_rfl⟩
instance : TFn Tryz.prog 126 := ⟨fun _ _ => by kernel_rfl⟩
instance : TFn Tryz.prog 127 := ⟨fun _ _ => by kernel_rfl⟩
instance : TFn Tryz.prog 128 := ⟨fun _ _ => by kernel_rfl⟩
instance : TFn Tryz.prog 129 := ⟨fun _ _ => by kernel_rfl⟩
instance : TFn Tryz.prog 130 := ⟨fun _ _ => by kernel_rfl⟩
instance : TFn Tryz.prog 131 := ⟨fun _ _ => by kernel_rfl⟩
instance : TFn Tryz.prog 132 := ⟨fun _ _ => by kernel_rfl⟩
instance : TFn Tryz.prog 133 := ⟨fun _ _ => by kernel_rfl⟩
instance : TFn Tryz.prog 134 := ⟨fun _ _ => by kernel_rfl⟩
instance : TFn Tryz.prog 135 := ⟨fun _ _ => by kernel_rfl⟩
instance : TFn Tryz.prog 136 := ⟨fun _ _ => by kernel_rfl⟩
instance : TFn Tryz.prog 137 := ⟨fun _ _ => by kernel_rfl⟩
instance : TFn Tryz.prog 138 := ⟨fun _ _ => by kernel_rfl⟩
instance : TFn Tryz.prog 139 := ⟨fun _ _ => by kernel_rfl⟩
instance : TFn Tryz.prog 140 := ⟨fun _ _ => by kernel_rfl⟩
instance : TFn Tryz.prog 141 := ⟨fun _ _ => by kernel_rfl⟩
instance : TFn Tryz.prog 142 := ⟨fun _ _ => by kernel_rfl⟩
instance : TFn Tryz.prog 143 := ⟨fun _ _ => by kernel_rfl⟩
instance : TFn Tryz.prog 144 := ⟨fun _ _ => by kernel_rfl⟩
instance : TFn Tryz.prog 145 := ⟨fun _ _ => by kernel_rfl⟩
instance : TFn Tryz.prog 146 := ⟨fun _ _ => by kernel_rfl⟩
instance : TFn Tryz.prog 147 := ⟨fun _ _ => by kernel_rfl⟩
instance : TFn Tryz.prog 148 := ⟨fun _ _ => by kernel_rfl⟩
instance : TFn Tryz.prog 149 := ⟨fun _ _ => by kernel_rfl⟩
instance : TFn Tryz.prog 150 := ⟨fun _ _ => by kernel_rfl⟩
instance : TFn Tryz.prog 151 := ⟨fun _ _ => by kernel_rfl⟩
instance : TFn Tryz.prog 152 := ⟨fun _ _ => by kernel_rfl⟩
instance : TFn Tryz.prog 153 := ⟨fun _ _ => by kernel_rfl⟩
instance : TFn Tryz.prog 154 := ⟨fun _ _ => by kernel_rfl⟩
instance : TFn Tryz.prog 155 := ⟨fun _ _ => by kernel_rfl⟩
instance : TFn Tryz.prog 156 := ⟨fun _ _ => by kernel_rfl⟩
instance : TFn Tryz.prog 157 := ⟨fun _ _ => by kernel_rfl⟩
instance : TFn Tryz.prog 158 := ⟨fun _ _ => by kernel_rfl⟩
instance : TFn Tryz.prog 159 := ⟨fun _ _ => by kernel_rfl⟩
instance : TFn Tryz.prog 160 := ⟨fun _ _ => by kernel_rfl⟩
instance : TFn Tryz.prog 161 := ⟨fun _ _ => by kernel_rfl⟩
instance : TFn Tryz.prog 162 := ⟨fun _ _ => by kernel_rfl⟩
instance : TFn Tryz.prog 163 := ⟨fun _ _ => by kernel_rfl⟩
instance : TFn Tryz.prog 164 := ⟨fun _ _ => by kernel_rfl⟩
instance : TFn Tryz.prog 165 := ⟨fun _ _ => by kernel_rfl⟩
instance : TFn Tryz.prog 166 := ⟨fun _ _ => by kernel_rfl⟩
instance : TFn Tryz.prog 167 := ⟨fun _ _ => by kernel_rfl⟩
instance : TFn Tryz.prog 168 := ⟨fun _ _ => by kernel_rfl⟩
instance : TFn Tryz.prog 169 := ⟨fun _ _ => by kernel_rfl⟩
instance : TFn Tryz.prog 170 := ⟨fun _ _ => by kernel_rfl⟩
instance : TFn Tryz.prog 171 := ⟨fun _ _ => by kernel_rfl⟩
instance : TFn Tryz.prog 172 := ⟨fun _ _ => by kernel_rfl⟩
instance : TFn Tryz.prog 173 := ⟨fun _ _ => by kernel_rfl⟩
instance : TFn Tryz.prog 174 := ⟨fun _ _ => by kernel_rfl⟩
instance : TFn Tryz.prog 175 := ⟨fun _ _ => by kernel_rfl⟩
instance : TFn Tryz.prog 176 := ⟨fun _ _ => by kernel_rfl⟩
instance : TFn Tryz.prog 177 := ⟨fun _ _ => by kernel_rfl⟩
instance : TFn Tryz.prog 178 := ⟨fun _ _ => by kernel_rfl⟩
instance : TFn Tryz.prog 179 := ⟨fun _ _ => by kernel_rfl⟩
instance : TFn Tryz.prog 180 := ⟨fun _ _ => by kernel_rfl⟩
instance : TFn Tryz.prog 182 := ⟨fun _ _ => by kernel_rfl⟩
instance : TFn Tryz.prog 183 := ⟨fun _ _ => by kernel_rfl⟩
instance : TFn Tryz.prog 184 := ⟨fun _ _ => by kernel_rfl⟩
instance : TFn Tryz.prog 185 := ⟨fun _ _ => by kernel_rfl⟩
instance : TFn Tryz.prog 186 := ⟨fun _ _ => by kernel_rfl⟩
instance : TFn Tryz.prog 187 := ⟨fun _ _ => by kernel_rfl⟩
instance : TFn Tryz.prog 188 := ⟨fun _ _ => by kernel_rfl⟩
instance : TFn Tryz.prog 189 := ⟨fun _ _ => by kernel_rfl⟩
instance : TFn Tryz.prog 190 := ⟨fun _ _ => by kernel_rfl⟩
instance : TFn Tryz.prog 191 := ⟨fun _ _ => by kernel_rfl⟩
instance : TFn Tryz.prog 192 := ⟨fun _ _ => by kernel_rfl⟩
instance : TFn Tryz.prog 193 := ⟨fun _ _ => by kernel_rfl⟩
instance : TFn Tryz.prog 194 := ⟨fun _ _ => by kernel_rfl⟩
instance : TFn Tryz.prog 195 := ⟨fun _ _ => by kernel_rfl⟩
instance : TFn Tryz.prog 196 := ⟨fun _ _ => by kernel_rfl⟩
instance : TFn Tryz.prog 197 := ⟨fun _ _ => by kernel_rfl⟩
instance : TFn Tryz.prog 198 := ⟨fun _ _ => by kernel_rfl⟩
instance : TFn Tryz.prog 200 := ⟨fun _ _ => by kernel_rfl⟩
instance : TFn Tryz.prog 201 := ⟨fun _ _ => by kernel_rfl⟩
instance : TFn Tryz.prog 202 := ⟨fun _ _ => by kernel_rfl⟩
instance : TFn Tryz.prog 203 := ⟨fun _ _ => by kernel_rfl⟩
instance : TFn Tryz.prog 204 := ⟨fun _ _ => by kernel_rfl⟩
instance : TFn Tryz.prog 205 := ⟨fun _ _ => by kernel_rfl⟩
instance : TFn Tryz.prog 206 := ⟨fun _ _ => by kernel_rfl⟩
instance : TFn Tryz.prog 207 := ⟨fun _ _ => by kernel_rfl⟩
instance : TFn Tryz.prog 208 := ⟨fun _ _ => by kernel_rfl⟩
instance : TFn Tryz.prog 209 := ⟨fun _ _ => by kernel_rfl⟩
instance : TFn Tryz.prog 210 := ⟨fun _ _ => by kernel_rfl⟩
instance : TFn Tryz.prog 211 := ⟨fun _ _ => by kernel_rfl⟩
instance : TFn Tryz.prog 212 := ⟨fun _ _ => by kernel_rfl⟩
instance : TFn Tryz.prog 213 := ⟨fun _ _ => by kernel_rfl⟩
instance : TFn Tryz.prog 214 := ⟨fun _ _ => by kernel_rfl⟩
instance : TFn Tryz.prog 215 := ⟨fun _ _ => by kernel_rfl⟩
instance : TFn Tryz.prog 216 := ⟨fun _ _ => by kernel_rfl⟩
instance : TFn Tryz.prog 217 := ⟨fun _ _ => by kernel_rfl⟩
end Go.Proofs.YtnjmbgnaplomaaaGreat
