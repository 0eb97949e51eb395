/-
  What the rules ask of this program's types and functions.
-/
import Derived.Test.YtaecccdkjmipeaaGreatA2
import Derived.Test.YtaecccdkjmipeaaGreatRows
namespace Go.Proofs.YtaecccdkjmipeaaGreat
open Go.RowKit
instance : TZero Tryz.prog 0 [Value.tuple #[]] := ⟨by kernel_rfl⟩
instance : TVar Tryz.prog 1 1 false := ⟨by kernel_rfl, by kernel_rfl⟩
instance : TVar Tryz.prog 2 1 false := ⟨by kernel_rfl, by kernel_rfl⟩
instance : TInt Tryz.prog 2 .i64 := ⟨by kernel_rfl⟩
instance : TZero Tryz.prog 2 [Value.int IntKind.i64 0] := ⟨by kernel_rfl⟩
instance : TVar Tryz.prog 3 1 false := ⟨by kernel_rfl, by kernel_rfl⟩
instance : TInt Tryz.prog 3 .i64 := ⟨by kernel_rfl⟩
instance : TZero Tryz.prog 3 [Value.int IntKind.i64 0] := ⟨by kernel_rfl⟩
instance : TVar Tryz.prog 4 1 false := ⟨by kernel_rfl, by kernel_rfl⟩
instance : TBool Tryz.prog 4 := ⟨by kernel_rfl⟩
instance : TZero Tryz.prog 4 [Value.bool false] := ⟨by kernel_rfl⟩
instance : TVar Tryz.prog 5 1 false := ⟨by kernel_rfl, by kernel_rfl⟩
instance : TInt Tryz.prog 5 .u8 := ⟨by kernel_rfl⟩
instance : TZero Tryz.prog 5 [Value.int IntKind.u8 0] := ⟨by kernel_rfl⟩
instance : TVar Tryz.prog 6 1 false := ⟨by kernel_rfl, by kernel_rfl⟩
instance : TInt Tryz.prog 6 .u8 := ⟨by kernel_rfl⟩
instance : TZero Tryz.prog 6 [Value.int IntKind.u8 0] := ⟨by kernel_rfl⟩
instance : TVar Tryz.prog 7 4 true := ⟨by kernel_rfl, by kernel_rfl⟩
instance : TField Tryz.prog 7 0 0 1 false := ⟨⟨2, by kernel_rfl, by kernel_rfl, by kernel_rfl⟩, by decide⟩
instance : TField Tryz.prog 7 1 1 1 false := ⟨⟨3, by kernel_rfl, by kernel_rfl, by kernel_rfl⟩, by decide⟩
instance : TField Tryz.prog 7 2 2 1 false := ⟨⟨4, by kernel_rfl, by kernel_rfl, by kernel_rfl⟩, by decide⟩
instance : TField Tryz.prog 7 3 3 1 false := ⟨⟨6, by kernel_rfl, by kernel_rfl, by kernel_rfl⟩, by decide⟩
instance : TZero Tryz.prog 7 [Value.int IntKind.i64 0, Value.int IntKind.i64 0, Value.bool false, Value.int IntKind.u8 0] := ⟨by kernel_rfl⟩
instance : TBuild Tryz.prog 7 [Value.int IntKind.i64 0, Value.int IntKind.i64 0, Value.bool false, Value.int IntKind.u8 0] [(0, 1), (1, 1), (2, 1), (3, 1)] := ⟨by kernel_rfl, by kernel_rfl⟩
instance : TVar Tryz.prog 8 4 true := ⟨by kernel_rfl, by kernel_rfl⟩
instance : TField Tryz.prog 8 0 0 1 false := ⟨⟨2, by kernel_rfl, by kernel_rfl, by kernel_rfl⟩, by decide⟩
instance : TField Tryz.prog 8 1 1 1 false := ⟨⟨3, by kernel_rfl, by kernel_rfl, by kernel_rfl⟩, by decide⟩
instance : TField Tryz.prog 8 2 2 1 false := ⟨⟨4, by kernel_rfl, by kernel_rfl, by kernel_rfl⟩, by decide⟩
instance : TField Tryz.prog 8 3 3 1 false := ⟨⟨6, by kernel_rfl, by kernel_rfl, by kernel_rfl⟩, by decide⟩
instance : TZero Tryz.prog 8 [Value.int IntKind.i64 0, Value.int IntKind.i64 0, Value.bool false, Value.int IntKind.u8 0] := ⟨by kernel_rfl⟩
instance : TBuild Tryz.prog 8 [Value.int IntKind.i64 0, Value.int IntKind.i64 0, Value.bool false, Value.int IntKind.u8 0] [(0, 1), (1, 1), (2, 1), (3, 1)] := ⟨by kernel_rfl, by kernel_rfl⟩
instance : TVar Tryz.prog 9 1 false := ⟨by kernel_rfl, by kernel_rfl⟩
instance : TStr Tryz.prog 9 := ⟨by kernel_rfl⟩
instance : TZero Tryz.prog 9 [Value.string { data := #[] }] := ⟨by kernel_rfl⟩
instance : TVar Tryz.prog 10 1 false := ⟨by kernel_rfl, by kernel_rfl⟩
instance : TStr Tryz.prog 10 := ⟨by kernel_rfl⟩
instance : TZero Tryz.prog 10 [Value.string { data := #[] }] := ⟨by kernel_rfl⟩
instance : TVar Tryz.prog 11 1 false := ⟨by kernel_rfl, by kernel_rfl⟩
instance : TStr Tryz.prog 11 := ⟨by kernel_rfl⟩
instance : TZero Tryz.prog 11 [Value.string { data := #[] }] := ⟨by kernel_rfl⟩
instance : TVar Tryz.prog 12 1 false := ⟨by kernel_rfl, by kernel_rfl⟩
instance : TInt Tryz.prog 12 .u64 := ⟨by kernel_rfl⟩
instance : TZero Tryz.prog 12 [Value.int IntKind.u64 0] := ⟨by kernel_rfl⟩
instance : TVar Tryz.prog 20 1 false := ⟨by kernel_rfl, by kernel_rfl⟩
instance : TVar Tryz.prog 22 1 false := ⟨by kernel_rfl, by kernel_rfl⟩
instance : TApp Tryz.prog 22 9 1 16 := ⟨by kernel_rfl, by kernel_rfl, by decide⟩
instance : TElem Tryz.prog 22 9 1 := ⟨by kernel_rfl, by kernel_rfl⟩
instance : TZero Tryz.prog 22 [Value.slice none 0 0] := ⟨by kernel_rfl⟩
instance : TVar Tryz.prog 23 1 false := ⟨by kernel_rfl, by kernel_rfl⟩
instance : TApp Tryz.prog 23 26 6 96 := ⟨by kernel_rfl, by kernel_rfl, by decide⟩
instance : TElem Tryz.prog 23 26 6 := ⟨by kernel_rfl, by kernel_rfl⟩
instance : TZero Tryz.prog 23 [Value.slice none 0 0] := ⟨by kernel_rfl⟩
instance : TVar Tryz.prog 24 1 false := ⟨by kernel_rfl, by kernel_rfl⟩
instance : TApp Tryz.prog 24 133 2 40 := ⟨by kernel_rfl, by kernel_rfl, by decide⟩
instance : TElem Tryz.prog 24 133 2 := ⟨by kernel_rfl, by kernel_rfl⟩
instance : TZero Tryz.prog 24 [Value.slice none 0 0] := ⟨by kernel_rfl⟩
instance : TVar Tryz.prog 26 6 true := ⟨by kernel_rfl, by kernel_rfl⟩
instance : TField Tryz.prog 26 0 0 1 false := ⟨⟨3, by kernel_rfl, by kernel_rfl, by kernel_rfl⟩, by decide⟩
instance : TField Tryz.prog 26 1 1 1 false := ⟨⟨2, by kernel_rfl, by kernel_rfl, by kernel_rfl⟩, by decide⟩
instance : TField Tryz.prog 26 2 2 1 false := ⟨⟨2, by kernel_rfl, by kernel_rfl, by kernel_rfl⟩, by decide⟩
instance : TField Tryz.prog 26 3 3 1 false := ⟨⟨22, by kernel_rfl, by kernel_rfl, by kernel_rfl⟩, by decide⟩
instance : TField Tryz.prog 26 4 4 1 false := ⟨⟨23, by kernel_rfl, by kernel_rfl, by kernel_rfl⟩, by decide⟩
instance : TField Tryz.prog 26 5 5 1 false := ⟨⟨24, by kernel_rfl, by kernel_rfl, by kernel_rfl⟩, by decide⟩
instance : TZero Tryz.prog 26 [Value.int IntKind.i64 0, Value.int IntKind.i64 0, Value.int IntKind.i64 0, Value.slice none 0 0, Value.slice none 0 0, Value.slice none 0 0] := ⟨by kernel_rfl⟩
instance : TBuild Tryz.prog 26 [Value.int IntKind.i64 0, Value.int IntKind.i64 0, Value.int IntKind.i64 0, Value.slice none 0 0, Value.slice none 0 0, Value.slice none 0 0] [(0, 1), (1, 1), (2, 1), (3, 1), (4, 1), (5, 1)] := ⟨by kernel_rfl, by kernel_rfl⟩
instance : TVar Tryz.prog 27 1 false := ⟨by kernel_rfl, by kernel_rfl⟩
instance : TApp Tryz.prog 27 30 4 80 := ⟨by kernel_rfl, by kernel_rfl, by decide⟩
instance : TElem Tryz.prog 27 30 4 := ⟨by kernel_rfl, by kernel_rfl⟩
instance : TZero Tryz.prog 27 [Value.slice none 0 0] := ⟨by kernel_rfl⟩
instance : TVar Tryz.prog 28 1 false := ⟨by kernel_rfl, by kernel_rfl⟩
instance : TApp Tryz.prog 28 88 2 40 := ⟨by kernel_rfl, by kernel_rfl, by decide⟩
instance : TElem Tryz.prog 28 88 2 := ⟨by kernel_rfl, by kernel_rfl⟩
instance : TZero Tryz.prog 28 [Value.slice none 0 0] := ⟨by kernel_rfl⟩
instance : TVar Tryz.prog 30 4 true := ⟨by kernel_rfl, by kernel_rfl⟩
instance : TField Tryz.prog 30 0 0 1 false := ⟨⟨2, by kernel_rfl, by kernel_rfl, by kernel_rfl⟩, by decide⟩
instance : TField Tryz.prog 30 1 1 1 false := ⟨⟨22, by kernel_rfl, by kernel_rfl, by kernel_rfl⟩, by decide⟩
instance : TField Tryz.prog 30 2 2 1 false := ⟨⟨27, by kernel_rfl, by kernel_rfl, by kernel_rfl⟩, by decide⟩
instance : TField Tryz.prog 30 3 3 1 false := ⟨⟨28, by kernel_rfl, by kernel_rfl, by kernel_rfl⟩, by decide⟩
instance : TZero Tryz.prog 30 [Value.int IntKind.i64 0, Value.slice none 0 0, Value.slice none 0 0, Value.slice none 0 0] := ⟨by kernel_rfl⟩
instance : TBuild Tryz.prog 30 [Value.int IntKind.i64 0, Value.slice none 0 0, Value.slice none 0 0, Value.slice none 0 0] [(0, 1), (1, 1), (2, 1), (3, 1)] := ⟨by kernel_rfl, by kernel_rfl⟩
instance : TVar Tryz.prog 33 1 false := ⟨by kernel_rfl, by kernel_rfl⟩
instance : TInt Tryz.prog 33 .i64 := ⟨by kernel_rfl⟩
instance : TZero Tryz.prog 33 [Value.int IntKind.i64 0] := ⟨by kernel_rfl⟩
instance : TZero Tryz.prog 34 [Value.tuple #[Value.int IntKind.i64 0, Value.int IntKind.i64 0]] := ⟨by kernel_rfl⟩
instance : TZero Tryz.prog 36 [Value.tuple #[Value.slice none 0 0, Value.int IntKind.i64 0]] := ⟨by kernel_rfl⟩
instance : TVar Tryz.prog 40 1 false := ⟨by kernel_rfl, by kernel_rfl⟩
instance : TVar Tryz.prog 44 1 false := ⟨by kernel_rfl, by kernel_rfl⟩
instance : TApp Tryz.prog 44 56 1 24 := ⟨by kernel_rfl, by kernel_rfl, by decide⟩
instance : TElem Tryz.prog 44 56 1 := ⟨by kernel_rfl, by kernel_rfl⟩
instance : TZero Tryz.prog 44 [Value.slice none 0 0] := ⟨by kernel_rfl⟩
instance : TZero Tryz.prog 45 [Value.tuple #[Value.slice none 0 0, Value.int IntKind.i64 0]] := ⟨by kernel_rfl⟩
instance : TVar Tryz.prog 48 4 true := ⟨by kernel_rfl, by kernel_rfl⟩
instance : TField Tryz.prog 48 0 0 1 false := ⟨⟨3, by kernel_rfl, by kernel_rfl, by kernel_rfl⟩, by decide⟩
instance : TField Tryz.prog 48 1 1 1 false := ⟨⟨3, by kernel_rfl, by kernel_rfl, by kernel_rfl⟩, by decide⟩
instance : TField Tryz.prog 48 2 2 1 false := ⟨⟨3, by kernel_rfl, by kernel_rfl, by kernel_rfl⟩, by decide⟩
instance : TField Tryz.prog 48 3 3 1 false := ⟨⟨3, by kernel_rfl, by kernel_rfl, by kernel_rfl⟩, by decide⟩
instance : TZero Tryz.prog 48 [Value.int IntKind.i64 0, Value.int IntKind.i64 0, Value.int IntKind.i64 0, Value.int IntKind.i64 0] := ⟨by kernel_rfl⟩
instance : TBuild Tryz.prog 48 [Value.int IntKind.i64 0, Value.int IntKind.i64 0, Value.int IntKind.i64 0, Value.int IntKind.i64 0] [(0, 1), (1, 1), (2, 1), (3, 1)] := ⟨by kernel_rfl, by kernel_rfl⟩
instance : TZero Tryz.prog 49 [Value.tuple #[Value.agg #[Value.int IntKind.i64 0, Value.int IntKind.i64 0, Value.int IntKind.i64 0, Value.int IntKind.i64 0], Value.int IntKind.i64 0]] := ⟨by kernel_rfl⟩
instance : TVar Tryz.prog 56 1 false := ⟨by kernel_rfl, by kernel_rfl⟩
instance : TApp Tryz.prog 56 3 1 8 := ⟨by kernel_rfl, by kernel_rfl, by decide⟩
instance : TElem Tryz.prog 56 3 1 := ⟨by kernel_rfl, by kernel_rfl⟩
instance : TZero Tryz.prog 56 [Value.slice none 0 0] := ⟨by kernel_rfl⟩
instance : TZero Tryz.prog 57 [Value.tuple #[Value.slice none 0 0, Value.int IntKind.i64 0]] := ⟨by kernel_rfl⟩
instance : TVar Tryz.prog 59 1 false := ⟨by kernel_rfl, by kernel_rfl⟩
instance : TApp Tryz.prog 59 62 2 16 := ⟨by kernel_rfl, by kernel_rfl, by decide⟩
instance : TElem Tryz.prog 59 62 2 := ⟨by kernel_rfl, by kernel_rfl⟩
instance : TZero Tryz.prog 59 [Value.slice none 0 0] := ⟨by kernel_rfl⟩
instance : TZero Tryz.prog 60 [Value.tuple #[Value.slice none 0 0, Value.int IntKind.i64 0]] := ⟨by kernel_rfl⟩
instance : TVar Tryz.prog 62 2 true := ⟨by kernel_rfl, by kernel_rfl⟩
instance : TArr Tryz.prog 62 2 3 1 := ⟨by kernel_rfl, by kernel_rfl⟩
instance : TZero Tryz.prog 62 [Value.int IntKind.i64 0, Value.int IntKind.i64 0] := ⟨by kernel_rfl⟩
instance : TZero Tryz.prog 65 [Value.tuple #[Value.bool false, Value.int IntKind.i64 0]] := ⟨by kernel_rfl⟩
instance : TVar Tryz.prog 71 1 false := ⟨by kernel_rfl, by kernel_rfl⟩
instance : TApp Tryz.prog 71 4 1 1 := ⟨by kernel_rfl, by kernel_rfl, by decide⟩
instance : TElem Tryz.prog 71 4 1 := ⟨by kernel_rfl, by kernel_rfl⟩
instance : TZero Tryz.prog 71 [Value.slice none 0 0] := ⟨by kernel_rfl⟩
instance : TZero Tryz.prog 77 [Value.tuple #[Value.slice none 0 0, Value.bool false]] := ⟨by kernel_rfl⟩
instance : TZero Tryz.prog 80 [Value.tuple #[Value.int IntKind.i64 0, Value.bool false]] := ⟨by kernel_rfl⟩
instance : TVar Tryz.prog 85 1 false := ⟨by kernel_rfl, by kernel_rfl⟩
instance : TVar Tryz.prog 86 1 false := ⟨by kernel_rfl, by kernel_rfl⟩
instance : TApp Tryz.prog 86 153 2 16 := ⟨by kernel_rfl, by kernel_rfl, by decide⟩
instance : TElem Tryz.prog 86 153 2 := ⟨by kernel_rfl, by kernel_rfl⟩
instance : TZero Tryz.prog 86 [Value.slice none 0 0] := ⟨by kernel_rfl⟩
instance : TVar Tryz.prog 88 2 true := ⟨by kernel_rfl, by kernel_rfl⟩
instance : TField Tryz.prog 88 0 0 1 false := ⟨⟨86, by kernel_rfl, by kernel_rfl, by kernel_rfl⟩, by decide⟩
instance : TField Tryz.prog 88 1 1 1 false := ⟨⟨9, by kernel_rfl, by kernel_rfl, by kernel_rfl⟩, by decide⟩
instance : TZero Tryz.prog 88 [Value.slice none 0 0, Value.string { data := #[] }] := ⟨by kernel_rfl⟩
instance : TBuild Tryz.prog 88 [Value.slice none 0 0, Value.string { data := #[] }] [(0, 1), (1, 1)] := ⟨by kernel_rfl, by kernel_rfl⟩
instance : TZero Tryz.prog 91 [Value.tuple #[Value.agg #[Value.int IntKind.i64 0, Value.slice none 0 0, Value.slice none 0 0, Value.slice none 0 0], Value.int IntKind.i64 0]] := ⟨by kernel_rfl⟩
instance : TVar Tryz.prog 101 1 true := ⟨by kernel_rfl, by kernel_rfl⟩
instance : TField Tryz.prog 101 0 0 1 false := ⟨⟨3, by kernel_rfl, by kernel_rfl, by kernel_rfl⟩, by decide⟩
instance : TZero Tryz.prog 101 [Value.int IntKind.i64 0] := ⟨by kernel_rfl⟩
instance : TBuild Tryz.prog 101 [Value.int IntKind.i64 0] [(0, 1)] := ⟨by kernel_rfl, by kernel_rfl⟩
instance : TVar Tryz.prog 105 1 false := ⟨by kernel_rfl, by kernel_rfl⟩
instance : TVar Tryz.prog 108 1 false := ⟨by kernel_rfl, by kernel_rfl⟩
instance : TVar Tryz.prog 113 1 false := ⟨by kernel_rfl, by kernel_rfl⟩
instance : TInt Tryz.prog 113 .u64 := ⟨by kernel_rfl⟩
instance : TZero Tryz.prog 113 [Value.int IntKind.u64 0] := ⟨by kernel_rfl⟩
instance : TVar Tryz.prog 128 1 false := ⟨by kernel_rfl, by kernel_rfl⟩
instance : TVar Tryz.prog 130 1 false := ⟨by kernel_rfl, by kernel_rfl⟩
instance : TZero Tryz.prog 130 [Value.pointer none] := ⟨by kernel_rfl⟩
instance : TVar Tryz.prog 133 2 true := ⟨by kernel_rfl, by kernel_rfl⟩
instance : TField Tryz.prog 133 0 0 1 false := ⟨⟨22, by kernel_rfl, by kernel_rfl, by kernel_rfl⟩, by decide⟩
instance : TField Tryz.prog 133 1 1 1 false := ⟨⟨9, by kernel_rfl, by kernel_rfl, by kernel_rfl⟩, by decide⟩
instance : TZero Tryz.prog 133 [Value.slice none 0 0, Value.string { data := #[] }] := ⟨by kernel_rfl⟩
instance : TBuild Tryz.prog 133 [Value.slice none 0 0, Value.string { data := #[] }] [(0, 1), (1, 1)] := ⟨by kernel_rfl, by kernel_rfl⟩
instance : TVar Tryz.prog 139 1 false := ⟨by kernel_rfl, by kernel_rfl⟩
instance : TInt Tryz.prog 139 .i64 := ⟨by kernel_rfl⟩
instance : TZero Tryz.prog 139 [Value.int IntKind.i64 0] := ⟨by kernel_rfl⟩
instance : TZero Tryz.prog 140 [Value.tuple #[Value.int IntKind.i64 0, Value.int IntKind.i64 0]] := ⟨by kernel_rfl⟩
instance : TVar Tryz.prog 146 1 false := ⟨by kernel_rfl, by kernel_rfl⟩
instance : TInt Tryz.prog 146 .u32 := ⟨by kernel_rfl⟩
instance : TZero Tryz.prog 146 [Value.int IntKind.u32 0] := ⟨by kernel_rfl⟩
instance : TVar Tryz.prog 148 1 false := ⟨by kernel_rfl, by kernel_rfl⟩
instance : TInt Tryz.prog 148 .u64 := ⟨by kernel_rfl⟩
instance : TZero Tryz.prog 148 [Value.int IntKind.u64 0] := ⟨by kernel_rfl⟩
instance : TVar Tryz.prog 153 2 true := ⟨by kernel_rfl, by kernel_rfl⟩
instance : TField Tryz.prog 153 0 0 1 false := ⟨⟨3, by kernel_rfl, by kernel_rfl, by kernel_rfl⟩, by decide⟩
instance : TField Tryz.prog 153 1 1 1 false := ⟨⟨2, by kernel_rfl, by kernel_rfl, by kernel_rfl⟩, by decide⟩
instance : TZero Tryz.prog 153 [Value.int IntKind.i64 0, Value.int IntKind.i64 0] := ⟨by kernel_rfl⟩
instance : TBuild Tryz.prog 153 [Value.int IntKind.i64 0, Value.int IntKind.i64 0] [(0, 1), (1, 1)] := ⟨by kernel_rfl, by kernel_rfl⟩
instance : TVar Tryz.prog 154 1 false := ⟨by kernel_rfl, by kernel_rfl⟩
instance : TVar Tryz.prog 165 1 false := ⟨by kernel_rfl, by kernel_rfl⟩
instance : TApp Tryz.prog 165 33 1 8 := ⟨by kernel_rfl, by kernel_rfl, by decide⟩
instance : TElem Tryz.prog 165 33 1 := ⟨by kernel_rfl, by kernel_rfl⟩
instance : TZero Tryz.prog 165 [Value.slice none 0 0] := ⟨by kernel_rfl⟩
instance : TVar Tryz.prog 166 1 false := ⟨by kernel_rfl, by kernel_rfl⟩
instance : TInt Tryz.prog 166 .u64 := ⟨by kernel_rfl⟩
instance : TZero Tryz.prog 166 [Value.int IntKind.u64 0] := ⟨by kernel_rfl⟩
instance : TVar Tryz.prog 170 1 false := ⟨by kernel_rfl, by kernel_rfl⟩
instance : TZero Tryz.prog 170 [Value.pointer none] := ⟨by kernel_rfl⟩
instance : TZero Tryz.prog 175 [Value.tuple #[Value.slice none 0 0, Value.int IntKind.i64 0]] := ⟨by kernel_rfl⟩
instance : TVar Tryz.prog 180 1 false := ⟨by kernel_rfl, by kernel_rfl⟩
instance : TZero Tryz.prog 180 [Value.pointer none] := ⟨by kernel_rfl⟩
instance : TZero Tryz.prog 181 [Value.tuple #[Value.int IntKind.i64 0, Value.int IntKind.i64 0]] := ⟨by kernel_rfl⟩
instance : TVar Tryz.prog 186 1 false := ⟨by kernel_rfl, by kernel_rfl⟩
instance : TZero Tryz.prog 186 [Value.pointer none] := ⟨by kernel_rfl⟩
instance : TZero Tryz.prog 187 [Value.tuple #[Value.pointer none, Value.int IntKind.i64 0]] := ⟨by kernel_rfl⟩
instance : TZero Tryz.prog 189 [Value.tuple #[Value.slice none 0 0, Value.int IntKind.i64 0]] := ⟨by kernel_rfl⟩
instance : TVar Tryz.prog 195 1 false := ⟨by kernel_rfl, by kernel_rfl⟩
instance : TVar Tryz.prog 198 1 false := ⟨by kernel_rfl, by kernel_rfl⟩
instance : TApp Tryz.prog 198 213 2 32 := ⟨by kernel_rfl, by kernel_rfl, by decide⟩
instance : TElem Tryz.prog 198 213 2 := ⟨by kernel_rfl, by kernel_rfl⟩
instance : TZero Tryz.prog 198 [Value.slice none 0 0] := ⟨by kernel_rfl⟩
instance : TVar Tryz.prog 200 2 true := ⟨by kernel_rfl, by kernel_rfl⟩
instance : TField Tryz.prog 200 0 0 1 false := ⟨⟨22, by kernel_rfl, by kernel_rfl, by kernel_rfl⟩, by decide⟩
instance : TField Tryz.prog 200 1 1 1 false := ⟨⟨198, by kernel_rfl, by kernel_rfl, by kernel_rfl⟩, by decide⟩
instance : TZero Tryz.prog 200 [Value.slice none 0 0, Value.slice none 0 0] := ⟨by kernel_rfl⟩
instance : TBuild Tryz.prog 200 [Value.slice none 0 0, Value.slice none 0 0] [(0, 1), (1, 1)] := ⟨by kernel_rfl, by kernel_rfl⟩
instance : TVar Tryz.prog 203 1 false := ⟨by kernel_rfl, by kernel_rfl⟩
instance : TApp Tryz.prog 203 216 2 16 := ⟨by kernel_rfl, by kernel_rfl, by decide⟩
instance : TElem Tryz.prog 203 216 2 := ⟨by kernel_rfl, by kernel_rfl⟩
instance : TZero Tryz.prog 203 [Value.slice none 0 0] := ⟨by kernel_rfl⟩
instance : TZero Tryz.prog 204 [Value.tuple #[Value.slice none 0 0, Value.slice none 0 0]] := ⟨by kernel_rfl⟩
instance : TVar Tryz.prog 213 2 true := ⟨by kernel_rfl, by kernel_rfl⟩
instance : TField Tryz.prog 213 0 0 1 false := ⟨⟨56, by kernel_rfl, by kernel_rfl, by kernel_rfl⟩, by decide⟩
instance : TField Tryz.prog 213 1 1 1 false := ⟨⟨3, by kernel_rfl, by kernel_rfl, by kernel_rfl⟩, by decide⟩
instance : TZero Tryz.prog 213 [Value.slice none 0 0, Value.int IntKind.i64 0] := ⟨by kernel_rfl⟩
instance : TBuild Tryz.prog 213 [Value.slice none 0 0, Value.int IntKind.i64 0] [(0, 1), (1, 1)] := ⟨by kernel_rfl, by kernel_rfl⟩
instance : TVar Tryz.prog 216 2 true := ⟨by kernel_rfl, by kernel_rfl⟩
instance : TField Tryz.prog 216 0 0 1 false := ⟨⟨3, by kernel_rfl, by kernel_rfl, by kernel_rfl⟩, by decide⟩
instance : TField Tryz.prog 216 1 1 1 false := ⟨⟨3, by kernel_rfl, by kernel_rfl, by kernel_rfl⟩, by decide⟩
instance : TZero Tryz.prog 216 [Value.int IntKind.i64 0, Value.int IntKind.i64 0] := ⟨by kernel_rfl⟩
instance : TBuild Tryz.prog 216 [Value.int IntKind.i64 0, Value.int IntKind.i64 0] [(0, 1), (1, 1)] := ⟨by kernel_rfl, by kernel_rfl⟩
instance : TVar Tryz.prog 219 1 false := ⟨by kernel_rfl, by kernel_rfl⟩
instance : TFn Tryz.prog 4 := ⟨fun _ _ => by kernel_rfl⟩
instance : TFn Tryz.prog 12 := ⟨fun _ _ => by kernel_rfl⟩
instance : TFn Tryz.prog 13 := ⟨fun _ _ => by kernel_rfl⟩
instance : TFn Tryz.prog 14 := ⟨fun _ _ => by kernel_rfl⟩
instance : TFn Tryz.prog 15 := ⟨fun _ _ => by kernel_rfl⟩
instance : TFn Tryz.prog 20 := ⟨fun _ _ => by kernel_rfl⟩
instance : TFn Tryz.prog 21 := ⟨fun _ _ => by kernel_rfl⟩
instance : TFn Tryz.prog 23 := ⟨fun _ _ => by kernel_rfl⟩
instance : TFn Tryz.prog 25 := ⟨fun _ _ => by kernel_rfl⟩
instance : TFn Tryz.prog 26 := ⟨fun _ _ => by kernel_rfl⟩
instance : TFn Tryz.prog 31 := ⟨fun _ _ => by kernel_rfl⟩
instance : TFn Tryz.prog 32 := ⟨fun _ _ => by kernel_rfl⟩
instance : TFn Tryz.prog 33 := ⟨fun _ _ => by kernel_rfl⟩
instance : TFn Tryz.prog 35 := ⟨fun _ _ => by kernel_rfl⟩
instance : TFn Tryz.prog 36 := ⟨fun _ _ => by kernel_rfl⟩
instance : TFn Tryz.prog 44 := ⟨fun _ _ => by kernel_rfl⟩
instance : TFn Tryz.prog 45 := ⟨fun _ _ => by kernel_rfl⟩
instance : TFn Tryz.prog 46 := ⟨fun _ _ => by kernel_rfl⟩
instance : TFn Tryz.prog 47 := ⟨fun _ _ => by kernel_rfl⟩
instance : TFn Tryz.prog 48 := ⟨fun _ _ => by kernel_rfl⟩
instance : TFn Tryz.prog 49 := ⟨fun _ _ => by kernel_rfl⟩
instance : TFn Tryz.prog 50 := ⟨fun _ _ => by kernel_rfl⟩
instance : TFn Tryz.prog 51 := ⟨fun _ _ => by kernel_rfl⟩
instance : TFn Tryz.prog 57 := ⟨fun _ _ => by kernel_rfl⟩
instance : TFn Tryz.prog 59 := ⟨fun _ _ => by kernel_rfl⟩
instance : TFn Tryz.prog 61 := ⟨fun _ _ => by kernel_rfl⟩
instance : TFn Tryz.prog 62 := ⟨fun _ _ => by kernel_rfl⟩
instance : TFn Tryz.prog 63 := ⟨fun _ _ => by kernel_rfl⟩
instance : TFn Tryz.prog 64 := ⟨fun _ _ => by kernel_rfl⟩
instance : TFn Tryz.prog 65 := ⟨fun _ _ => by kernel_rfl⟩
instance : TFn Tryz.prog 66 := ⟨fun _ _ => by kernel_rfl⟩
instance : TFn Tryz.prog 68 := ⟨fun _ _ => by kernel_rfl⟩
instance : TFn Tryz.prog 69 := ⟨fun _ _ => by kernel_rfl⟩
instance : TFn Tryz.prog 70 := ⟨fun _ _ => by kernel_rfl⟩
instance : TFn Tryz.prog 71 := ⟨fun _ _ => by kernel_rfl⟩
instance : TFn Tryz.prog 72 := ⟨fun _ _ => by kernel_rfl⟩
instance : TFn Tryz.prog 73 := ⟨fun _ _ => by kernel_rfl⟩
instance : TFn Tryz.prog 74 := ⟨fun _ _ => by kernel_rfl⟩
instance : TFn Tryz.prog 75 := ⟨fun _ _ => by kernel_rfl⟩
instance : TFn Tryz.prog 76 := ⟨fun _ _ => by kernel_rfl⟩
instance : TFn Tryz.prog 77 := ⟨fun _ _ => by kernel_rfl⟩
instance : TFn Tryz.prog 78 := ⟨fun _ _ => by kernel_rfl⟩
instance : TFn Tryz.prog 79 := ⟨fun _ _ => by kernel_rfl⟩
instance : TFn Tryz.prog 80 := ⟨fun _ _ => by kernel_rfl⟩
instance : TFn Tryz.prog 81 := ⟨fun _ _ => by kernel_rfl⟩
instance : TFn Tryz.prog 82 := ⟨fun _ _ => by kernel_rfl⟩
instance : TFn Tryz.prog 83 := ⟨fun _ _ => by kernel_rfl⟩
instance : TFn Tryz.prog 84 := ⟨fun _ _ => by kernel_rfl⟩
instance : TFn Tryz.prog 85 := ⟨fun _ _ => by kernel_rfl⟩
instance : TFn Tryz.prog 86 := ⟨fun _ _ => by kernel_rfl⟩
instance : TFn Tryz.prog 94 := ⟨fun _ _ => by kernel_rfl⟩
instance : TFn Tryz.prog 96 := ⟨fun _ _ => by kernel_rfl⟩
instance : TFn Tryz.prog 98 := ⟨fun _ _ => by kernel_rfl⟩
instance : TFn Tryz.prog 99 := ⟨fun _ _ => by kernel_rfl⟩
instance : TFn Tryz.prog 100 := ⟨fun _ _ => by kernel_rfl⟩
instance : TFn Tryz.prog 101 := ⟨fun _ _ => by kernel_rfl⟩
instance : TFn Tryz.prog 102 := ⟨fun _ _ => by kernel_rfl⟩
instance : TFn Tryz.prog 103 := ⟨fun _ _ => by kernel_rfl⟩
instance : TFn Tryz.prog 104 := ⟨fun _ _ => by kernel_rfl⟩
instance : TFn Tryz.prog 105 := ⟨fun _ _ => by kernel_rfl⟩
instance : TFn Tryz.prog 106 := ⟨fun _ _ => by kernel_rfl⟩
instance : TFn Tryz.prog 107 := ⟨fun _ _ => by kernel_rfl⟩
instance : TFn Tryz.prog 108 := ⟨fun _ _ => by kernel_rfl⟩
instance : TFn Tryz.prog 109 := ⟨fun _ _ => by kernel_rfl⟩
instance : TFn Tryz.prog 110 := ⟨fun _ _ => by kernel_rfl⟩
instance : TFn Tryz.prog 111 := ⟨fun _ _ => by kernel_rfl⟩
instance : TFn Tryz.prog 112 := ⟨fun _ _ => by kernel_rfl⟩
instance : TFn Tryz.prog 113 := ⟨fun _ _ => by kernel_rfl⟩
instance : TFn Tryz.prog 114 := ⟨fun _ _ => by kernel_rfl⟩
instance : TFn Tryz.prog 115 := ⟨fun _ _ => by kernel_rfl⟩
instance : TFn Tryz.prog 116 := ⟨fun _ _ => by kernel_rfl⟩
instance : TFn Tryz.prog 117 := ⟨fun _ _ => by kernel_rfl⟩
instance : TFn Tryz.prog 118 := ⟨fun _ _ => by kernel_rfl⟩
instance : TFn Tryz.prog 119 := ⟨fun _ _ => by kernel_rfl⟩
instance : TFn Tryz.prog 120 := ⟨fun _ _ => by kernel_rfl⟩
instance : TFn Tryz.prog 121 := ⟨fun _ _ => by kernel_rfl⟩
instance : TFn Tryz.prog 122 := ⟨fun _ _ => by kernel_rfl⟩
instance : TFn Tryz.prog 123 := ⟨fun _ _ => by kernel_rfl⟩
instance : TFn Tryz.prog 124 := ⟨fun _ _ => by kernel_rfl⟩
instance : TFn Tryz.prog 125 := ⟨fun _ _ => by kernel_rfl⟩
instance : TFn Tryz.prog 126 := ⟨fun _ _ => by kernel_rfl⟩
instance : TFn Tryz.prog 127 := ⟨fun _ _ => by kernel_rfl⟩
instance : TFn Tryz.prog 128 := ⟨fun _ _ => by kernel_rfl⟩
instance : TFn Tryz.prog 129 := ⟨fun _ _ => by kernel_rfl⟩
instance : TFn Tryz.prog 137 := ⟨fun _ _ => by kernel_rfl⟩
instance : TFn Tryz.prog 138 := ⟨fun _ _ => by kernel_rfl⟩
instance : TFn Tryz.prog 139 := ⟨fun _ _ => by kernel_rfl⟩
instance : TFn Tryz.prog 140 := ⟨fun _ _ => by kernel_rfl⟩
instance : TFn Tryz.prog 141 := ⟨fun _ _ => by kernel_rfl⟩
instance : TFn Tryz.prog 142 := ⟨fun _ _ => by kernel_rfl⟩
instance : TFn Tryz.prog 143 := ⟨fun _ _ => by kernel_rfl⟩
instance : TFn Tryz.prog 145 := ⟨fun _ _ => by kernel_rfl⟩
instance : TFn Tryz.prog 146 := ⟨fun _ _ => by kernel_rfl⟩
instance : TFn Tryz.prog 147 := ⟨fun _ _ => by kernel_rfl⟩
instance : TFn Tryz.prog 148 := ⟨fun _ _ => by kernel_rfl⟩
instance : TFn Tryz.prog 149 := ⟨fun _ _ => by kernel_rfl⟩
instance : TFn Tryz.prog 150 := ⟨fun _ _ => by kernel_rfl⟩
instance : TFn Tryz.prog 151 := ⟨fun _ _ => by kernel_rfl⟩
instance : TFn Tryz.prog 152 := ⟨fun _ _ => by kernel_rfl⟩
instance : TFn Tryz.prog 153 := ⟨fun _ _ => by kernel_rfl⟩
instance : TFn Tryz.prog 154 := ⟨fun _ _ => by kernel_rfl⟩
instance : TFn Tryz.prog 155 := ⟨fun _ _ => by kernel_rfl⟩
instance : TFn Tryz.prog 156 := ⟨fun _ _ => by kernel_rfl⟩
instance : TFn Tryz.prog 157 := ⟨fun _ _ => by kernel_rfl⟩
instance : TFn Tryz.prog 158 := ⟨fun _ _ => by kernel_rfl⟩
instance : TFn Tryz.prog 162 := ⟨fun _ _ => by kernel_rfl⟩
instance : TFn Tryz.prog 163 := ⟨fun _ _ => by kernel_rfl⟩
instance : TFn Tryz.prog 164 := ⟨fun _ _ => by kernel_rfl⟩
instance : TFn Tryz.prog 165 := ⟨fun _ _ => by kernel_rfl⟩
instance : TFn Tryz.prog 166 := ⟨fun _ _ => by kernel_rfl⟩
instance : TFn Tryz.prog 167 := ⟨fun _ _ => by kernel_rfl⟩
instance : TFn Tryz.prog 168 := ⟨fun _ _ => by kernel_rfl⟩
instance : TFn Tryz.prog 169 := ⟨fun _ _ => by kernel_rfl⟩
instance : TFn Tryz.prog 170 := ⟨fun _ _ => by kernel_rfl⟩
instance : TFn Tryz.prog 171 := ⟨fun _ _ => by kernel_rfl⟩
instance : TFn Tryz.prog 172 := ⟨fun _ _ => by kernel_rfl⟩
instance : TFn Tryz.prog 173 := ⟨fun _ _ => by kernel_rfl⟩
instance : TFn Tryz.prog 174 := ⟨fun _ _ => by kernel_rfl⟩
instance : TFn Tryz.prog 176 := ⟨fun _ _ => by kernel_rfl⟩
instance : TFn Tryz.prog 178 := ⟨fun _ _ => by kernel_rfl⟩
instance : TFn Tryz.prog 179 := ⟨fun _ _ => by kernel_rfl⟩
instance : TFn Tryz.prog 180 := ⟨fun _ _ => by kernel_rfl⟩
instance : TFn Tryz.prog 181 := ⟨fun _ _ => by kernel_rfl⟩
instance : TFn Tryz.prog 182 := ⟨fun _ _ => by kernel_rfl⟩
instance : TFn Tryz.prog 183 := ⟨fun _ _ => by kernel_rfl⟩
instance : TFn Tryz.prog 184 := ⟨fun _ _ => by kernel_rfl⟩
instance : TFn Tryz.prog 185 := ⟨fun _ _ => by kernel_rfl⟩
instance : TFn Tryz.prog 186 := ⟨fun _ _ => by kernel_rfl⟩
instance : TFn Tryz.prog 187 := ⟨fun _ _ => by kernel_rfl⟩
instance : TFn Tryz.prog 188 := ⟨fun _ _ => by kernel_rfl⟩
instance : TFn Tryz.prog 189 := ⟨fun _ _ => by kernel_rfl⟩
instance : TFn Tryz.prog 191 := ⟨fun _ _ => by kernel_rfl⟩
instance : TFn Tryz.prog 192 := ⟨fun _ _ => by kernel_rfl⟩
instance : TFn Tryz.prog 193 := ⟨fun _ _ => by kernel_rfl⟩
instance : TFn Tryz.prog 194 := ⟨fun _ _ => by kernel_rfl⟩
instance : TFn Tryz.prog 195 := ⟨fun _ _ => by kernel_rfl⟩
instance : TFn Tryz.prog 196 := ⟨fun _ _ => by kernel_rfl⟩
instance : TFn Tryz.prog 197 := ⟨fun _ _ => by kernel_rfl⟩
instance : TFn Tryz.prog 198 := ⟨fun _ _ => by kernel_rfl⟩
instance : TFn Tryz.prog 199 := ⟨fun _ _ => by kernel_rfl⟩
instance : TFn Tryz.prog 200 := ⟨fun _ _ => by kernel_rfl⟩
instance : TFn Tryz.prog 201 := ⟨fun _ _ => by kernel_rfl⟩
instance : TFn Tryz.prog 202 := ⟨fun _ _ => by kernel_rfl⟩
instance : TFn Tryz.prog 203 := ⟨fun _ _ => by kernel_rfl⟩
instance : TFn Tryz.prog 204 := ⟨fun _ _ => by kernel_rfl⟩
instance : TFn Tryz.prog 205 := ⟨fun _ _ => by kernel_rfl⟩
instance : TFn Tryz.prog 206 := ⟨fun _ _ => by kernel_rfl⟩
instance : TFn Tryz.prog 207 := ⟨fun _ _ => by kernel_rfl⟩
instance : TFn Tryz.prog 208 := ⟨fun _ _ => by kernel_rfl⟩
instance : TFn Tryz.prog 209 := ⟨fun _ _ => by kernel_rfl⟩
instance : TFn Tryz.prog 210 := ⟨fun _ _ => by kernel_rfl⟩
instance : TFn Tryz.prog 211 := ⟨fun _ _ => by kernel_rfl⟩
instance : TFn Tryz.prog 212 := ⟨fun _ _ => by kernel_rfl⟩
instance : TFn Tryz.prog 213 := ⟨fun _ _ => by kernel_rfl⟩
instance : TFn Tryz.prog 214 := ⟨fun _ _ => by kernel_rfl⟩
instance : TFn Tryz.prog 215 := ⟨fun _ _ => by kernel_rfl⟩
instance : TFn Tryz.prog 216 := ⟨fun _ _ => by kernel_rfl⟩
instance : TFn Tryz.prog 217 := ⟨fun _ _ => by kernel_rfl⟩
instance : TFn Tryz.prog 218 := ⟨fun _ _ => by kernel_rfl⟩
instance : TFn Tryz.prog 219 := ⟨fun _ _ => by kernel_rfl⟩
instance : TFn Tryz.prog 220 := ⟨fun _ _ => by kernel_rfl⟩
instance : TFn Tryz.prog 221 := ⟨fun _ _ => by kernel_rfl⟩
instance : TFn Tryz.prog 222 := ⟨fun _ _ => by kernel_rfl⟩
instance : TFn Tryz.prog 224 := ⟨fun _ _ => by kernel_rfl⟩
instance : TFn Tryz.prog 225 := ⟨fun _ _ => by kernel_rfl⟩
instance : TFn Tryz.prog 226 := ⟨fun _ _ => by kernel_rfl⟩
instance : TFn Tryz.prog 227 := ⟨fun _ _ => by kernel_rfl⟩
instance : TFn Tryz.prog 228 := ⟨fun _ _ => by kernel_rfl⟩
instance : TFn Tryz.prog 229 := ⟨fun _ _ => by kernel_rfl⟩
instance : TFn Tryz.prog 230 := ⟨fun _ _ => by kernel_rfl⟩
instance : TFn Tryz.prog 231 := ⟨fun _ _ => by kernel_rfl⟩
instance : TFn Tryz.prog 232 := ⟨fun _ _ => by kernel_rfl⟩
instance : TFn Tryz.prog 233 := ⟨fun _ _ => by kernel_rfl⟩
instance : TFn Tryz.prog 234 := ⟨fun _ _ => by kernel_rfl⟩
instance : TFn Tryz.prog 235 := ⟨fun _ _ => by kernel_rfl⟩
instance : TFn Tryz.prog 236 := ⟨fun _ _ => by kernel_rfl⟩
instance : TFn Tryz.prog 237 := ⟨fun _ _ => by kernel_rfl⟩
instance : TFn Tryz.prog 238 := ⟨fun _ _ => by kernel_rfl⟩
instance : TFn Tryz.prog 239 := ⟨fun _ _ => by kernel_rfl⟩
end Go.Proofs.YtaecccdkjmipeaaGreat
