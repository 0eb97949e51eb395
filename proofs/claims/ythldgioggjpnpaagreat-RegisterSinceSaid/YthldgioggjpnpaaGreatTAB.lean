/-
  What the rules ask of this program's types and functions.
-/
import Derived.Test.YthldgioggjpnpaaGreatA2
import Derived.Test.YthldgioggjpnpaaGreatRows
namespace Go.Proofs.YthldgioggjpnpaaGreat
open Go.RowKit
instance : TZero Tryz.prog 0 [Value.tuple #[]] := ⟨by kernel_rfl⟩
instance : TVar Tryz.prog 1 1 false := ⟨by kernel_rfl, by kernel_rfl⟩
instance : TVar Tryz.prog 2 1 false := ⟨by kernel_rfl, by kernel_rfl⟩
instance : TInt Tryz.prog 2 .i64 := ⟨by kernel_rfl⟩
instance : TZero Tryz.prog 2 [Value.int IntKind.i64 0] := ⟨by kernel_rfl⟩
instance : TVar Tryz.prog 3 1 false := ⟨by kernel_rfl, by kernel_rfl⟩
instance : TInt Tryz.prog 3 .i64 := ⟨by kernel_rfl⟩
instance : TZero Tryz.prog 3 [Value.int IntKind.i64 0] := ⟨by kernel_rfl⟩
instance : TVar Tryz.prog 4 1 false := ⟨by kernel_rfl, by kernel_rfl⟩
instance : TBool Tryz.prog 4 := ⟨by kernel_rfl⟩
instance : TZero Tryz.prog 4 [Value.bool false] := ⟨by kernel_rfl⟩
instance : TVar Tryz.prog 5 1 false := ⟨by kernel_rfl, by kernel_rfl⟩
instance : TInt Tryz.prog 5 .u8 := ⟨by kernel_rfl⟩
instance : TZero Tryz.prog 5 [Value.int IntKind.u8 0] := ⟨by kernel_rfl⟩
instance : TVar Tryz.prog 6 1 false := ⟨by kernel_rfl, by kernel_rfl⟩
instance : TInt Tryz.prog 6 .u8 := ⟨by kernel_rfl⟩
instance : TZero Tryz.prog 6 [Value.int IntKind.u8 0] := ⟨by kernel_rfl⟩
instance : TVar Tryz.prog 7 4 true := ⟨by kernel_rfl, by kernel_rfl⟩
instance : TField Tryz.prog 7 0 0 1 false := ⟨⟨2, by kernel_rfl, by kernel_rfl, by kernel_rfl⟩, by decide⟩
instance : TField Tryz.prog 7 1 1 1 false := ⟨⟨3, by kernel_rfl, by kernel_rfl, by kernel_rfl⟩, by decide⟩
instance : TField Tryz.prog 7 2 2 1 false := ⟨⟨4, by kernel_rfl, by kernel_rfl, by kernel_rfl⟩, by decide⟩
instance : TField Tryz.prog 7 3 3 1 false := ⟨⟨6, by kernel_rfl, by kernel_rfl, by kernel_rfl⟩, by decide⟩
instance : TZero Tryz.prog 7 [Value.int IntKind.i64 0, Value.int IntKind.i64 0, Value.bool false, Value.int IntKind.u8 0] := ⟨by kernel_rfl⟩
instance : TBuild Tryz.prog 7 [Value.int IntKind.i64 0, Value.int IntKind.i64 0, Value.bool false, Value.int IntKind.u8 0] [(0, 1), (1, 1), (2, 1), (3, 1)] := ⟨by kernel_rfl, by kernel_rfl⟩
instance : TVar Tryz.prog 8 4 true := ⟨by kernel_rfl, by kernel_rfl⟩
instance : TField Tryz.prog 8 0 0 1 false := ⟨⟨2, by kernel_rfl, by kernel_rfl, by kernel_rfl⟩, by decide⟩
instance : TField Tryz.prog 8 1 1 1 false := ⟨⟨3, by kernel_rfl, by kernel_rfl, by kernel_rfl⟩, by decide⟩
instance : TField Tryz.prog 8 2 2 1 false := ⟨⟨4, by kernel_rfl, by kernel_rfl, by kernel_rfl⟩, by decide⟩
instance : TField Tryz.prog 8 3 3 1 false := ⟨⟨6, by kernel_rfl, by kernel_rfl, by kernel_rfl⟩, by decide⟩
instance : TZero Tryz.prog 8 [Value.int IntKind.i64 0, Value.int IntKind.i64 0, Value.bool false, Value.int IntKind.u8 0] := ⟨by kernel_rfl⟩
instance : TBuild Tryz.prog 8 [Value.int IntKind.i64 0, Value.int IntKind.i64 0, Value.bool false, Value.int IntKind.u8 0] [(0, 1), (1, 1), (2, 1), (3, 1)] := ⟨by kernel_rfl, by kernel_rfl⟩
instance : TVar Tryz.prog 9 1 false := ⟨by kernel_rfl, by kernel_rfl⟩
instance : TStr Tryz.prog 9 := ⟨by kernel_rfl⟩
instance : TZero Tryz.prog 9 [Value.string { data := #[] }] := ⟨by kernel_rfl⟩
instance : TVar Tryz.prog 10 1 false := ⟨by kernel_rfl, by kernel_rfl⟩
instance : TStr Tryz.prog 10 := ⟨by kernel_rfl⟩
instance : TZero Tryz.prog 10 [Value.string { data := #[] }] := ⟨by kernel_rfl⟩
instance : TVar Tryz.prog 11 1 false := ⟨by kernel_rfl, by kernel_rfl⟩
instance : TStr Tryz.prog 11 := ⟨by kernel_rfl⟩
instance : TZero Tryz.prog 11 [Value.string { data := #[] }] := ⟨by kernel_rfl⟩
instance : TVar Tryz.prog 12 1 false := ⟨by kernel_rfl, by kernel_rfl⟩
instance : TInt Tryz.prog 12 .u64 := ⟨by kernel_rfl⟩
instance : TZero Tryz.prog 12 [Value.int IntKind.u64 0] := ⟨by kernel_rfl⟩
instance : TVar Tryz.prog 22 1 false := ⟨by kernel_rfl, by kernel_rfl⟩
instance : TApp Tryz.prog 22 9 1 16 := ⟨by kernel_rfl, by kernel_rfl, by decide⟩
instance : TElem Tryz.prog 22 9 1 := ⟨by kernel_rfl, by kernel_rfl⟩
instance : TZero Tryz.prog 22 [Value.slice none 0 0] := ⟨by kernel_rfl⟩
instance : TVar Tryz.prog 23 1 false := ⟨by kernel_rfl, by kernel_rfl⟩
instance : TApp Tryz.prog 23 26 4 80 := ⟨by kernel_rfl, by kernel_rfl, by decide⟩
instance : TElem Tryz.prog 23 26 4 := ⟨by kernel_rfl, by kernel_rfl⟩
instance : TZero Tryz.prog 23 [Value.slice none 0 0] := ⟨by kernel_rfl⟩
instance : TVar Tryz.prog 24 1 false := ⟨by kernel_rfl, by kernel_rfl⟩
instance : TApp Tryz.prog 24 64 2 40 := ⟨by kernel_rfl, by kernel_rfl, by decide⟩
instance : TElem Tryz.prog 24 64 2 := ⟨by kernel_rfl, by kernel_rfl⟩
instance : TZero Tryz.prog 24 [Value.slice none 0 0] := ⟨by kernel_rfl⟩
instance : TVar Tryz.prog 26 4 true := ⟨by kernel_rfl, by kernel_rfl⟩
instance : TField Tryz.prog 26 0 0 1 false := ⟨⟨2, by kernel_rfl, by kernel_rfl, by kernel_rfl⟩, by decide⟩
instance : TField Tryz.prog 26 1 1 1 false := ⟨⟨22, by kernel_rfl, by kernel_rfl, by kernel_rfl⟩, by decide⟩
instance : TField Tryz.prog 26 2 2 1 false := ⟨⟨23, by kernel_rfl, by kernel_rfl, by kernel_rfl⟩, by decide⟩
instance : TField Tryz.prog 26 3 3 1 false := ⟨⟨24, by kernel_rfl, by kernel_rfl, by kernel_rfl⟩, by decide⟩
instance : TZero Tryz.prog 26 [Value.int IntKind.i64 0, Value.slice none 0 0, Value.slice none 0 0, Value.slice none 0 0] := ⟨by kernel_rfl⟩
instance : TBuild Tryz.prog 26 [Value.int IntKind.i64 0, Value.slice none 0 0, Value.slice none 0 0, Value.slice none 0 0] [(0, 1), (1, 1), (2, 1), (3, 1)] := ⟨by kernel_rfl, by kernel_rfl⟩
instance : TVar Tryz.prog 29 1 false := ⟨by kernel_rfl, by kernel_rfl⟩
instance : TInt Tryz.prog 29 .i64 := ⟨by kernel_rfl⟩
instance : TZero Tryz.prog 29 [Value.int IntKind.i64 0] := ⟨by kernel_rfl⟩
instance : TZero Tryz.prog 30 [Value.tuple #[Value.agg #[Value.int IntKind.i64 0, Value.slice none 0 0, Value.slice none 0 0, Value.slice none 0 0], Value.int IntKind.i64 0]] := ⟨by kernel_rfl⟩
instance : TVar Tryz.prog 37 1 false := ⟨by kernel_rfl, by kernel_rfl⟩
instance : TApp Tryz.prog 37 40 2 16 := ⟨by kernel_rfl, by kernel_rfl, by decide⟩
instance : TElem Tryz.prog 37 40 2 := ⟨by kernel_rfl, by kernel_rfl⟩
instance : TZero Tryz.prog 37 [Value.slice none 0 0] := ⟨by kernel_rfl⟩
instance : TVar Tryz.prog 40 2 true := ⟨by kernel_rfl, by kernel_rfl⟩
instance : TField Tryz.prog 40 0 0 1 false := ⟨⟨3, by kernel_rfl, by kernel_rfl, by kernel_rfl⟩, by decide⟩
instance : TField Tryz.prog 40 1 1 1 false := ⟨⟨2, by kernel_rfl, by kernel_rfl, by kernel_rfl⟩, by decide⟩
instance : TZero Tryz.prog 40 [Value.int IntKind.i64 0, Value.int IntKind.i64 0] := ⟨by kernel_rfl⟩
instance : TBuild Tryz.prog 40 [Value.int IntKind.i64 0, Value.int IntKind.i64 0] [(0, 1), (1, 1)] := ⟨by kernel_rfl, by kernel_rfl⟩
instance : TVar Tryz.prog 43 1 false := ⟨by kernel_rfl, by kernel_rfl⟩
instance : TApp Tryz.prog 43 46 6 96 := ⟨by kernel_rfl, by kernel_rfl, by decide⟩
instance : TElem Tryz.prog 43 46 6 := ⟨by kernel_rfl, by kernel_rfl⟩
instance : TZero Tryz.prog 43 [Value.slice none 0 0] := ⟨by kernel_rfl⟩
instance : TVar Tryz.prog 44 1 false := ⟨by kernel_rfl, by kernel_rfl⟩
instance : TApp Tryz.prog 44 138 2 40 := ⟨by kernel_rfl, by kernel_rfl, by decide⟩
instance : TElem Tryz.prog 44 138 2 := ⟨by kernel_rfl, by kernel_rfl⟩
instance : TZero Tryz.prog 44 [Value.slice none 0 0] := ⟨by kernel_rfl⟩
instance : TVar Tryz.prog 46 6 true := ⟨by kernel_rfl, by kernel_rfl⟩
instance : TField Tryz.prog 46 0 0 1 false := ⟨⟨3, by kernel_rfl, by kernel_rfl, by kernel_rfl⟩, by decide⟩
instance : TField Tryz.prog 46 1 1 1 false := ⟨⟨2, by kernel_rfl, by kernel_rfl, by kernel_rfl⟩, by decide⟩
instance : TField Tryz.prog 46 2 2 1 false := ⟨⟨2, by kernel_rfl, by kernel_rfl, by kernel_rfl⟩, by decide⟩
instance : TField Tryz.prog 46 3 3 1 false := ⟨⟨22, by kernel_rfl, by kernel_rfl, by kernel_rfl⟩, by decide⟩
instance : TField Tryz.prog 46 4 4 1 false := ⟨⟨43, by kernel_rfl, by kernel_rfl, by kernel_rfl⟩, by decide⟩
instance : TField Tryz.prog 46 5 5 1 false := ⟨⟨44, by kernel_rfl, by kernel_rfl, by kernel_rfl⟩, by decide⟩
instance : TZero Tryz.prog 46 [Value.int IntKind.i64 0, Value.int IntKind.i64 0, Value.int IntKind.i64 0, Value.slice none 0 0, Value.slice none 0 0, Value.slice none 0 0] := ⟨by kernel_rfl⟩
instance : TBuild Tryz.prog 46 [Value.int IntKind.i64 0, Value.int IntKind.i64 0, Value.int IntKind.i64 0, Value.slice none 0 0, Value.slice none 0 0, Value.slice none 0 0] [(0, 1), (1, 1), (2, 1), (3, 1), (4, 1), (5, 1)] := ⟨by kernel_rfl, by kernel_rfl⟩
instance : TVar Tryz.prog 51 1 false := ⟨by kernel_rfl, by kernel_rfl⟩
instance : TApp Tryz.prog 51 3 1 8 := ⟨by kernel_rfl, by kernel_rfl, by decide⟩
instance : TElem Tryz.prog 51 3 1 := ⟨by kernel_rfl, by kernel_rfl⟩
instance : TZero Tryz.prog 51 [Value.slice none 0 0] := ⟨by kernel_rfl⟩
instance : TVar Tryz.prog 64 2 true := ⟨by kernel_rfl, by kernel_rfl⟩
instance : TField Tryz.prog 64 0 0 1 false := ⟨⟨37, by kernel_rfl, by kernel_rfl, by kernel_rfl⟩, by decide⟩
instance : TField Tryz.prog 64 1 1 1 false := ⟨⟨9, by kernel_rfl, by kernel_rfl, by kernel_rfl⟩, by decide⟩
instance : TZero Tryz.prog 64 [Value.slice none 0 0, Value.string { data := #[] }] := ⟨by kernel_rfl⟩
instance : TBuild Tryz.prog 64 [Value.slice none 0 0, Value.string { data := #[] }] [(0, 1), (1, 1)] := ⟨by kernel_rfl, by kernel_rfl⟩
instance : TZero Tryz.prog 68 [Value.tuple #[Value.slice none 0 0, Value.int IntKind.i64 0]] := ⟨by kernel_rfl⟩
instance : TVar Tryz.prog 71 1 false := ⟨by kernel_rfl, by kernel_rfl⟩
instance : TVar Tryz.prog 72 1 false := ⟨by kernel_rfl, by kernel_rfl⟩
instance : TZero Tryz.prog 72 [Value.map none] := ⟨by kernel_rfl⟩
instance : TVar Tryz.prog 83 1 false := ⟨by kernel_rfl, by kernel_rfl⟩
instance : TApp Tryz.prog 83 2 1 8 := ⟨by kernel_rfl, by kernel_rfl, by decide⟩
instance : TElem Tryz.prog 83 2 1 := ⟨by kernel_rfl, by kernel_rfl⟩
instance : TZero Tryz.prog 83 [Value.slice none 0 0] := ⟨by kernel_rfl⟩
instance : TVar Tryz.prog 88 1 false := ⟨by kernel_rfl, by kernel_rfl⟩
instance : TVar Tryz.prog 91 1 false := ⟨by kernel_rfl, by kernel_rfl⟩
instance : TInt Tryz.prog 91 .u64 := ⟨by kernel_rfl⟩
instance : TZero Tryz.prog 91 [Value.int IntKind.u64 0] := ⟨by kernel_rfl⟩
instance : TVar Tryz.prog 93 1 false := ⟨by kernel_rfl, by kernel_rfl⟩
instance : TVar Tryz.prog 96 1 false := ⟨by kernel_rfl, by kernel_rfl⟩
instance : TVar Tryz.prog 106 1 true := ⟨by kernel_rfl, by kernel_rfl⟩
instance : TField Tryz.prog 106 0 0 1 false := ⟨⟨3, by kernel_rfl, by kernel_rfl, by kernel_rfl⟩, by decide⟩
instance : TZero Tryz.prog 106 [Value.int IntKind.i64 0] := ⟨by kernel_rfl⟩
instance : TBuild Tryz.prog 106 [Value.int IntKind.i64 0] [(0, 1)] := ⟨by kernel_rfl, by kernel_rfl⟩
instance : TVar Tryz.prog 112 1 false := ⟨by kernel_rfl, by kernel_rfl⟩
instance : TInt Tryz.prog 112 .i64 := ⟨by kernel_rfl⟩
instance : TZero Tryz.prog 112 [Value.int IntKind.i64 0] := ⟨by kernel_rfl⟩
instance : TZero Tryz.prog 113 [Value.tuple #[Value.int IntKind.i64 0, Value.int IntKind.i64 0]] := ⟨by kernel_rfl⟩
instance : TZero Tryz.prog 118 [Value.tuple #[Value.int IntKind.i64 0, Value.bool false]] := ⟨by kernel_rfl⟩
instance : TVar Tryz.prog 121 1 false := ⟨by kernel_rfl, by kernel_rfl⟩
instance : TInt Tryz.prog 121 .u32 := ⟨by kernel_rfl⟩
instance : TZero Tryz.prog 121 [Value.int IntKind.u32 0] := ⟨by kernel_rfl⟩
instance : TVar Tryz.prog 123 1 false := ⟨by kernel_rfl, by kernel_rfl⟩
instance : TInt Tryz.prog 123 .u64 := ⟨by kernel_rfl⟩
instance : TZero Tryz.prog 123 [Value.int IntKind.u64 0] := ⟨by kernel_rfl⟩
instance : TZero Tryz.prog 127 [Value.tuple #[Value.slice none 0 0, Value.int IntKind.i64 0]] := ⟨by kernel_rfl⟩
instance : TVar Tryz.prog 134 1 false := ⟨by kernel_rfl, by kernel_rfl⟩
instance : TZero Tryz.prog 134 [Value.pointer none] := ⟨by kernel_rfl⟩
instance : TVar Tryz.prog 138 2 true := ⟨by kernel_rfl, by kernel_rfl⟩
instance : TField Tryz.prog 138 0 0 1 false := ⟨⟨22, by kernel_rfl, by kernel_rfl, by kernel_rfl⟩, by decide⟩
instance : TField Tryz.prog 138 1 1 1 false := ⟨⟨9, by kernel_rfl, by kernel_rfl, by kernel_rfl⟩, by decide⟩
instance : TZero Tryz.prog 138 [Value.slice none 0 0, Value.string { data := #[] }] := ⟨by kernel_rfl⟩
instance : TBuild Tryz.prog 138 [Value.slice none 0 0, Value.string { data := #[] }] [(0, 1), (1, 1)] := ⟨by kernel_rfl, by kernel_rfl⟩
instance : TZero Tryz.prog 139 [Value.tuple #[Value.int IntKind.i64 0, Value.int IntKind.i64 0]] := ⟨by kernel_rfl⟩
instance : TVar Tryz.prog 141 1 false := ⟨by kernel_rfl, by kernel_rfl⟩
instance : TInt Tryz.prog 141 .u64 := ⟨by kernel_rfl⟩
instance : TZero Tryz.prog 141 [Value.int IntKind.u64 0] := ⟨by kernel_rfl⟩
instance : TVar Tryz.prog 145 1 false := ⟨by kernel_rfl, by kernel_rfl⟩
instance : TZero Tryz.prog 145 [Value.pointer none] := ⟨by kernel_rfl⟩
instance : TVar Tryz.prog 148 1 false := ⟨by kernel_rfl, by kernel_rfl⟩
instance : TZero Tryz.prog 148 [Value.pointer none] := ⟨by kernel_rfl⟩
instance : TZero Tryz.prog 149 [Value.tuple #[Value.pointer none, Value.int IntKind.i64 0]] := ⟨by kernel_rfl⟩
instance : TVar Tryz.prog 151 1 false := ⟨by kernel_rfl, by kernel_rfl⟩
instance : TApp Tryz.prog 151 4 1 1 := ⟨by kernel_rfl, by kernel_rfl, by decide⟩
instance : TElem Tryz.prog 151 4 1 := ⟨by kernel_rfl, by kernel_rfl⟩
instance : TZero Tryz.prog 151 [Value.slice none 0 0] := ⟨by kernel_rfl⟩
instance : TZero Tryz.prog 152 [Value.tuple #[Value.slice none 0 0, Value.int IntKind.i64 0]] := ⟨by kernel_rfl⟩
instance : TVar Tryz.prog 163 1 false := ⟨by kernel_rfl, by kernel_rfl⟩
instance : TApp Tryz.prog 163 29 1 8 := ⟨by kernel_rfl, by kernel_rfl, by decide⟩
instance : TElem Tryz.prog 163 29 1 := ⟨by kernel_rfl, by kernel_rfl⟩
instance : TZero Tryz.prog 163 [Value.slice none 0 0] := ⟨by kernel_rfl⟩
instance : TVar Tryz.prog 167 1 false := ⟨by kernel_rfl, by kernel_rfl⟩
instance : TVar Tryz.prog 169 1 false := ⟨by kernel_rfl, by kernel_rfl⟩
instance : TZero Tryz.prog 169 [Value.pointer none] := ⟨by kernel_rfl⟩
instance : TZero Tryz.prog 170 [Value.tuple #[Value.int IntKind.i64 0, Value.int IntKind.i64 0]] := ⟨by kernel_rfl⟩
instance : TVar Tryz.prog 172 1 false := ⟨by kernel_rfl, by kernel_rfl⟩
instance : TApp Tryz.prog 172 184 2 32 := ⟨by kernel_rfl, by kernel_rfl, by decide⟩
instance : TElem Tryz.prog 172 184 2 := ⟨by kernel_rfl, by kernel_rfl⟩
instance : TZero Tryz.prog 172 [Value.slice none 0 0] := ⟨by kernel_rfl⟩
instance : TVar Tryz.prog 174 2 true := ⟨by kernel_rfl, by kernel_rfl⟩
instance : TField Tryz.prog 174 0 0 1 false := ⟨⟨22, by kernel_rfl, by kernel_rfl, by kernel_rfl⟩, by decide⟩
instance : TField Tryz.prog 174 1 1 1 false := ⟨⟨172, by kernel_rfl, by kernel_rfl, by kernel_rfl⟩, by decide⟩
instance : TZero Tryz.prog 174 [Value.slice none 0 0, Value.slice none 0 0] := ⟨by kernel_rfl⟩
instance : TBuild Tryz.prog 174 [Value.slice none 0 0, Value.slice none 0 0] [(0, 1), (1, 1)] := ⟨by kernel_rfl, by kernel_rfl⟩
instance : TVar Tryz.prog 177 1 false := ⟨by kernel_rfl, by kernel_rfl⟩
instance : TApp Tryz.prog 177 187 2 16 := ⟨by kernel_rfl, by kernel_rfl, by decide⟩
instance : TElem Tryz.prog 177 187 2 := ⟨by kernel_rfl, by kernel_rfl⟩
instance : TZero Tryz.prog 177 [Value.slice none 0 0] := ⟨by kernel_rfl⟩
instance : TZero Tryz.prog 178 [Value.tuple #[Value.slice none 0 0, Value.slice none 0 0]] := ⟨by kernel_rfl⟩
instance : TVar Tryz.prog 180 1 false := ⟨by kernel_rfl, by kernel_rfl⟩
instance : TVar Tryz.prog 184 2 true := ⟨by kernel_rfl, by kernel_rfl⟩
instance : TField Tryz.prog 184 0 0 1 false := ⟨⟨51, by kernel_rfl, by kernel_rfl, by kernel_rfl⟩, by decide⟩
instance : TField Tryz.prog 184 1 1 1 false := ⟨⟨3, by kernel_rfl, by kernel_rfl, by kernel_rfl⟩, by decide⟩
instance : TZero Tryz.prog 184 [Value.slice none 0 0, Value.int IntKind.i64 0] := ⟨by kernel_rfl⟩
instance : TBuild Tryz.prog 184 [Value.slice none 0 0, Value.int IntKind.i64 0] [(0, 1), (1, 1)] := ⟨by kernel_rfl, by kernel_rfl⟩
instance : TVar Tryz.prog 187 2 true := ⟨by kernel_rfl, by kernel_rfl⟩
instance : TField Tryz.prog 187 0 0 1 false := ⟨⟨3, by kernel_rfl, by kernel_rfl, by kernel_rfl⟩, by decide⟩
instance : TField Tryz.prog 187 1 1 1 false := ⟨⟨3, by kernel_rfl, by kernel_rfl, by kernel_rfl⟩, by decide⟩
instance : TZero Tryz.prog 187 [Value.int IntKind.i64 0, Value.int IntKind.i64 0] := ⟨by kernel_rfl⟩
instance : TBuild Tryz.prog 187 [Value.int IntKind.i64 0, Value.int IntKind.i64 0] [(0, 1), (1, 1)] := ⟨by kernel_rfl, by kernel_rfl⟩
instance : TFn Tryz.prog 9 := ⟨fun _ _ => by kernel_rfl⟩
instance : TFn Tryz.prog 10 := ⟨fun _ _ => by kernel_rfl⟩
instance : TFn Tryz.prog 12 := ⟨fun _ _ => by kernel_rfl⟩
instance : TFn Tryz.prog 14 := ⟨fun _ _ => by kernel_rfl⟩
instance : TFn Tryz.prog 16 := ⟨fun _ _ => by kernel_rfl⟩
instance : TFn Tryz.prog 17 := ⟨fun _ _ => by kernel_rfl⟩
instance : TFn Tryz.prog 18 := ⟨fun _ _ => by kernel_rfl⟩
instance : TFn Tryz.prog 20 := ⟨fun _ _ => by kernel_rfl⟩
instance : TFn Tryz.prog 22 := ⟨fun _ _ => by kernel_rfl⟩
instance : TFn Tryz.prog 23 := ⟨fun _ _ => by kernel_rfl⟩
instance : TFn Tryz.prog 25 := ⟨fun _ _ => by kernel_rfl⟩
instance : TFn Tryz.prog 27 := ⟨fun _ _ => by kernel_rfl⟩
instance : TFn Tryz.prog 28 := ⟨fun _ _ => by kernel_rfl⟩
instance : TFn Tryz.prog 32 := ⟨fun _ _ => by kernel_rfl⟩
instance : TFn Tryz.prog 34 := ⟨fun _ _ => by kernel_rfl⟩
instance : TFn Tryz.prog 35 := ⟨fun _ _ => by kernel_rfl⟩
instance : TFn Tryz.prog 36 := ⟨fun _ _ => by kernel_rfl⟩
instance : TFn Tryz.prog 37 := ⟨fun _ _ => by kernel_rfl⟩
instance : TFn Tryz.prog 38 := ⟨fun _ _ => by kernel_rfl⟩
instance : TFn Tryz.prog 39 := ⟨fun _ _ => by kernel_rfl⟩
instance : TFn Tryz.prog 40 := ⟨fun _ _ => by kernel_rfl⟩
instance : TFn Tryz.prog 42 := ⟨fun _ _ => by kernel_rfl⟩
instance : TFn Tryz.prog 43 := ⟨fun _ _ => by kernel_rfl⟩
instance : TFn Tryz.prog 44 := ⟨fun _ _ => by kernel_rfl⟩
instance : TFn Tryz.prog 46 := ⟨fun _ _ => by kernel_rfl⟩
instance : TFn Tryz.prog 48 := ⟨fun _ _ => by kernel_rfl⟩
instance : TFn Tryz.prog 50 := ⟨fun _ _ => by kernel_rfl⟩
instance : TFn Tryz.prog 51 := ⟨fun _ _ => by kernel_rfl⟩
instance : TFn Tryz.prog 52 := ⟨fun _ _ => by kernel_rfl⟩
instance : TFn Tryz.prog 53 := ⟨fun _ _ => by kernel_rfl⟩
instance : TFn Tryz.prog 54 := ⟨fun _ _ => by kernel_rfl⟩
instance : TFn Tryz.prog 55 := ⟨fun _ _ => by kernel_rfl⟩
instance : TFn Tryz.prog 56 := ⟨fun _ _ => by kernel_rfl⟩
instance : TFn Tryz.prog 57 := ⟨fun _ _ => by kernel_rfl⟩
instance : TFn Tryz.prog 58 := ⟨fun _ _ => by kernel_rfl⟩
instance : TFn Tryz.prog 59 := ⟨fun _ _ => by kernel_rfl⟩
instance : TFn Tryz.prog 61 := ⟨fun _ _ => by kernel_rfl⟩
instance : TFn Tryz.prog 62 := ⟨fun _ _ => by kernel_rfl⟩
instance : TFn Tryz.prog 63 := ⟨fun _ _ => by kernel_rfl⟩
instance : TFn Tryz.prog 64 := ⟨fun _ _ => by kernel_rfl⟩
instance : TFn Tryz.prog 65 := ⟨fun _ _ => by kernel_rfl⟩
instance : TFn Tryz.prog 66 := ⟨fun _ _ => by kernel_rfl⟩
instance : TFn Tryz.prog 67 := ⟨fun _ _ => by kernel_rfl⟩
instance : TFn Tryz.prog 68 := ⟨fun _ _ => by kernel_rfl⟩
instance : TFn Tryz.prog 69 := ⟨fun _ _ => by kernel_rfl⟩
instance : TFn Tryz.prog 70 := ⟨fun _ _ => by kernel_rfl⟩
instance : TFn Tryz.prog 71 := ⟨fun _ _ => by kernel_rfl⟩
instance : TFn Tryz.prog 73 := ⟨fun _ _ => by kernel_rfl⟩
instance : TFn Tryz.prog 74 := ⟨fun _ _ => by kernel_rfl⟩
instance : TFn Tryz.prog 75 := ⟨fun _ _ => by kernel_rfl⟩
instance : TFn Tryz.prog 76 := ⟨fun _ _ => by kernel_rfl⟩
instance : TFn Tryz.prog 77 := ⟨fun _ _ => by kernel_rfl⟩
instance : TFn Tryz.prog 78 := ⟨fun _ _ => by kernel_rfl⟩
instance : TFn Tryz.prog 79 := ⟨fun _ _ => by kernel_rfl⟩
instance : TFn Tryz.prog 80 := ⟨fun _ _ => by kernel_rfl⟩
instance : TFn Tryz.prog 81 := ⟨fun _ _ => by kernel_rfl⟩
instance : TFn Tryz.prog 82 := ⟨fun _ _ => by kernel_rfl⟩
instance : TFn Tryz.prog 83 := ⟨fun _ _ => by kernel_rfl⟩
instance : TFn Tryz.prog 84 := ⟨fun _ _ => by kernel_rfl⟩
instance : TFn Tryz.prog 85 := ⟨fun _ _ => by kernel_rfl⟩
instance : TFn Tryz.prog 86 := ⟨fun _ _ => by kernel_rfl⟩
instance : TFn Tryz.prog 87 := ⟨fun _ _ => by kernel_rfl⟩
instance : TFn Tryz.prog 88 := ⟨fun _ _ => by kernel_rfl⟩
instance : TFn Tryz.prog 89 := ⟨fun _ _ => by kernel_rfl⟩
instance : TFn Tryz.prog 90 := ⟨fun _ _ => by kernel_rfl⟩
instance : TFn Tryz.prog 91 := ⟨fun _ _ => by kernel_rfl⟩
instance : TFn Tryz.prog 92 := ⟨fun _ _ => by kernel_rfl⟩
instance : TFn Tryz.prog 93 := ⟨fun _ _ => by kernel_rfl⟩
instance : TFn Tryz.prog 94 := ⟨fun _ _ => by kernel_rfl⟩
instance : TFn Tryz.prog 95 := ⟨fun _ _ => by kernel_rfl⟩
instance : TFn Tryz.prog 96 := ⟨fun _ _ => by kernel_rfl⟩
instance : TFn Tryz.prog 97 := ⟨fun _ _ => by kernel_rfl⟩
instance : TFn Tryz.prog 98 := ⟨fun _ _ => by kernel_rfl⟩
instance : TFn Tryz.prog 99 := ⟨fun _ _ => by kernel_rfl⟩
instance : TFn Tryz.prog 100 := ⟨fun _ _ => by kernel_rfl⟩
instance : TFn Tryz.prog 101 := ⟨fun _ _ => by kernel_rfl⟩
instance : TFn Tryz.prog 102 := ⟨fun _ _ => by kernel_rfl⟩
instance : TFn Tryz.prog 103 := ⟨fun _ _ => by kernel_rfl⟩
instance : TFn Tryz.prog 104 := ⟨fun _ _ => by kernel_rfl⟩
instance : TFn Tryz.prog 105 := ⟨fun _ _ => by kernel_rfl⟩
instance : TFn Tryz.prog 106 := ⟨fun _ _ => by kernel_rfl⟩
instance : TFn Tryz.prog 107 := ⟨fun _ _ => by kernel_rfl⟩
instance : TFn Tryz.prog 108 := ⟨fun _ _ => by kernel_rfl⟩
instance : TFn Tryz.prog 109 := ⟨fun _ _ => by kernel_rfl⟩
instance : TFn Tryz.prog 110 := ⟨fun _ _ => by kernel_rfl⟩
instance : TFn Tryz.prog 111 := ⟨fun _ _ => by kernel_rfl⟩
instance : TFn Tryz.prog 112 := ⟨fun _ _ => by kernel_rfl⟩
instance : TFn Tryz.prog 113 := ⟨fun _ _ => by kernel_rfl⟩
instance : TFn Tryz.prog 114 := ⟨fun _ _ => by kernel_rfl⟩
instance : TFn Tryz.prog 115 := ⟨fun _ _ => by kernel_rfl⟩
instance : TFn Tryz.prog 116 := ⟨fun _ _ => by kernel_rfl⟩
instance : TFn Tryz.prog 117 := ⟨fun _ _ => by kernel_rfl⟩
instance : TFn Tryz.prog 118 := ⟨fun _ _ => by kernel_rfl⟩
instance : TFn Tryz.prog 119 := ⟨fun _ _ => by kernel_rfl⟩
instance : TFn Tryz.prog 120 := ⟨fun _ _ => by kernel_rfl⟩
instance : TFn Tryz.prog 121 := ⟨fun _ _ => by kernel_rfl⟩
instance : TFn Tryz.prog 122 := ⟨fun _ _ => by kernel_rfl⟩
instance : TFn Tryz.prog 123 := ⟨fun _ _ => by kernel_rfl⟩
instance : TFn Tryz.prog 124 := ⟨fun _ _ => by kernel_rfl⟩
instance : TFn Tryz.prog 125 := ⟨fun _ _ => by kernel_rfl⟩
instance : TFn Tryz.prog 126 := ⟨fun _ _ => by kernel_rfl⟩
instance : TFn Tryz.prog 127 := ⟨fun _ _ => by kernel_rfl⟩
instance : TFn Tryz.prog 128 := ⟨fun _ _ => by kernel_rfl⟩
instance : TFn Tryz.prog 129 := ⟨fun _ _ => by kernel_rfl⟩
instance : TFn Tryz.prog 130 := ⟨fun _ _ => by kernel_rfl⟩
instance : TFn Tryz.prog 131 := ⟨fun _ _ => by kernel_rfl⟩
instance : TFn Tryz.prog 132 := ⟨fun _ _ => by kernel_rfl⟩
instance : TFn Tryz.prog 133 := ⟨fun _ _ => by kernel_rfl⟩
instance : TFn Tryz.prog 134 := ⟨fun _ _ => by kernel_rfl⟩
instance : TFn Tryz.prog 135 := ⟨fun _ _ => by kernel_rfl⟩
instance : TFn Tryz.prog 136 := ⟨fun _ _ => by kernel_rfl⟩
instance : TFn Tryz.prog 137 := ⟨fun _ _ => by kernel_rfl⟩
instance : TFn Tryz.prog 138 := ⟨fun _ _ => by kernel_rfl⟩
instance : TFn Tryz.prog 139 := ⟨fun _ _ => by kernel_rfl⟩
instance : TFn Tryz.prog 140 := ⟨fun _ _ => by kernel_rfl⟩
instance : TFn Tryz.prog 141 := ⟨fun _ _ => by kernel_rfl⟩
instance : TFn Tryz.prog 142 := ⟨fun _ _ => by kernel_rfl⟩
instance : TFn Tryz.prog 143 := ⟨fun _ _ => by kernel_rfl⟩
instance : TFn Tryz.prog 144 := ⟨fun _ _ => by kernel_rfl⟩
instance : TFn Tryz.prog 145 := ⟨fun _ _ => by kernel_rfl⟩
instance : TFn Tryz.prog 146 := ⟨fun _ _ => by kernel_rfl⟩
instance : TFn Tryz.prog 147 := ⟨fun _ _ => by kernel_rfl⟩
instance : TFn Tryz.prog 148 := ⟨fun _ _ => by kernel_rfl⟩
instance : TFn Tryz.prog 149 := ⟨fun _ _ => by kernel_rfl⟩
instance : TFn Tryz.prog 150 := ⟨fun _ _ => by kernel_rfl⟩
instance : TFn Tryz.prog 151 := ⟨fun _ _ => by kernel_rfl⟩
instance : TFn Tryz.prog 152 := ⟨fun _ _ => by kernel_rfl⟩
instance : TFn Tryz.prog 153 := ⟨fun _ _ => by kernel_rfl⟩
instance : TFn Tryz.prog 154 := ⟨fun _ _ => by kernel_rfl⟩
instance : TFn Tryz.prog 155 := ⟨fun _ _ => by kernel_rfl⟩
instance : TFn Tryz.prog 156 := ⟨fun _ _ => by kernel_rfl⟩
instance : TFn Tryz.prog 157 := ⟨fun _ _ => by kernel_rfl⟩
instance : TFn Tryz.prog 158 := ⟨fun _ _ => by kernel_rfl⟩
instance : TFn Tryz.prog 159 := ⟨fun _ _ => by kernel_rfl⟩
instance : TFn Tryz.prog 160 := ⟨fun _ _ => by kernel_rfl⟩
instance : TFn Tryz.prog 161 := ⟨fun _ _ => by kernel_rfl⟩
instance : TFn Tryz.prog 162 := ⟨fun _ _ => by kernel_rfl⟩
instance : TFn Tryz.prog 163 := ⟨fun _ _ => by kernel_rfl⟩
instance : TFn Tryz.prog 164 := ⟨fun _ _ => by kernel_rfl⟩
instance : TFn Tryz.prog 165 := ⟨fun _ _ => by kernel_rfl⟩
instance : TFn Tryz.prog 166 := ⟨fun _ _ => by kernel_rfl⟩
instance : TFn Tryz.prog 167 := ⟨fun _ _ => by kernel_rfl⟩
instance : TFn Tryz.prog 168 := ⟨fun _ _ => by kernel_rfl⟩
instance : TFn Tryz.prog 169 := ⟨fun _ _ => by kernel_rfl⟩
instance : TFn Tryz.prog 170 := ⟨fun _ _ => by kernel_rfl⟩
instance : TFn Tryz.prog 171 := ⟨fun _ _ => by kernel_rfl⟩
instance : TFn Tryz.prog 172 := ⟨fun _ _ => by kernel_rfl⟩
instance : TFn Tryz.prog 173 := ⟨fun _ _ => by kernel_rfl⟩
instance : TFn Tryz.prog 174 := ⟨fun _ _ => by kernel_rfl⟩
instance : TFn Tryz.prog 175 := ⟨fun _ _ => by kernel_rfl⟩
instance : TFn Tryz.prog 176 := ⟨fun _ _ => by kernel_rfl⟩
instance : TFn Tryz.prog 177 := ⟨fun _ _ => by kernel_rfl⟩
instance : TFn Tryz.prog 178 := ⟨fun _ _ => by kernel_rfl⟩
instance : TFn Tryz.prog 179 := ⟨fun _ _ => by kernel_rfl⟩
instance : TFn Tryz.prog 180 := ⟨fun _ _ => by kernel_rfl⟩
instance : TFn Tryz.prog 181 := ⟨fun _ _ => by kernel_rfl⟩
instance : TFn Tryz.prog 182 := ⟨fun _ _ => by kernel_rfl⟩
instance : TFn Tryz.prog 183 := ⟨fun _ _ => by kernel_rfl⟩
instance : TFn Tryz.prog 184 := ⟨fun _ _ => by kernel_rfl⟩
instance : TFn Tryz.prog 185 := ⟨fun _ _ => by kernel_rfl⟩
instance : TFn Tryz.prog 187 := ⟨fun _ _ => by kernel_rfl⟩
instance : TFn Tryz.prog 188 := ⟨fun _ _ => by kernel_rfl⟩
instance : TFn Tryz.prog 189 := ⟨fun _ _ => by kernel_rfl⟩
instance : TFn Tryz.prog 190 := ⟨fun _ _ => by kernel_rfl⟩
instance : TFn Tryz.prog 192 := ⟨fun _ _ => by kernel_rfl⟩
instance : TFn Tryz.prog 193 := ⟨fun _ _ => by kernel_rfl⟩
instance : TFn Tryz.prog 194 := ⟨fun _ _ => by kernel_rfl⟩
instance : TFn Tryz.prog 195 := ⟨fun _ _ => by kernel_rfl⟩
end Go.Proofs.YthldgioggjpnpaaGreat
