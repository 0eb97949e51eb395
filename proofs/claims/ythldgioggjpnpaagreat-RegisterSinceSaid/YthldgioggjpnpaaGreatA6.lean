/-
  The shelf's contract of the comparison of strings, laid at this program.
  The shelf: slices.SortFunc at entries, laid at this program.
  The shelf: slices.Sort at strings, laid at this program.
  A stub: no Insert at this seat.
-/
import Derived.Lib.Small
import Derived.Shelf.Small.Strs
import Derived.Test.YthldgioggjpnpaaGreatRows
import Derived.Shelf.SlSortCmp.WholeK
import Derived.Ground.SlsfProg
import Derived.Shelf.Sort.Plain
import Derived.Shelf.Slices.In.SortNone
import Derived.Test.YthldgioggjpnpaaGreatA4
import Derived.Test.YthldgioggjpnpaaGreatTAB
namespace Go.Proofs.YthldgioggjpnpaaGreat
open Go.Shelf
def shc_ren : Go.Shelf.Ren := ⟨fun | 213 => 168 | 265 => 186 | n => n, fun | 9 => 9 | 3 => 3 | n => n, fun | n => n⟩
theorem shc_lays213 : Go.Proofs.Lays.n213 Tryz.prog shc_ren := {
 mixed := by kernel_rfl
 f213 := Tryz.func168.trans (congrArg some (by kernel_rfl))
 f265 := Tryz.func186.trans (congrArg some (by kernel_rfl))
 t3 := Tryz.underlying3
 a3 := Tryz.isAgg3
 z3 := Tryz.sizeOf3
 v3 := Tryz.zeroValue3
 t9 := Tryz.underlying9
 a9 := Tryz.isAgg9
 z9 := Tryz.sizeOf9
 v9 := Tryz.zeroValue9 }
open Go.RowKit in
theorem shc_CompareString (a b : ByteArray) (w : World) :
  Calls Tryz.prog 168 #[.string a, .string b] w fun e w' => e = .returned (.int .i64 (Lib.compareBytes a.data.toList b.data.toList)) ∧ w' = w := Any.bytealg_CompareString shc_lays213 a b w
end Go.Proofs.YthldgioggjpnpaaGreat

namespace Go.Proofs.YthldgioggjpnpaaGreat
open Go.Shelf
def shc_sortEn_ren : Go.Shelf.Ren := ⟨fun | 6 => 141 | 15 => 65 | 14 => 165 | 28 => 100 | 29 => 101 | 20 => 178 | 21 => 179 | 22 => 180 | 23 => 181 | 24 => 182 | 25 => 183 | 26 => 184 | 27 => 185 | 46 => 192 | 47 => 129 | 48 => 130 | 49 => 193 | 50 => 194 | 57 => 195 | n => n, fun | 22 => 24 | 24 => 64 | 25 => 88 | 3 => 3 | 39 => 91 | 0 => 0 | 53 => 121 | 55 => 123 | 4 => 4 | 46 => 113 | 45 => 112 | 50 => 118 | 5 => 5 | 9 => 9 | 66 => 141 | 70 => 145 | 76 => 169 | 77 => 170 | n => n, fun | n => n⟩
theorem shc_sortEn : Go.Proofs.SlLaysF0.n6 Tryz.prog shc_sortEn_ren := {
 mixed := by kernel_rfl
 f6 := ⟨Tryz.f141.name, by decide, Tryz.func141.trans (congrArg some (by kernel_rfl))⟩
 f14 := ⟨Tryz.f165.name, by decide, Tryz.func165.trans (congrArg some (by kernel_rfl))⟩
 f15 := Tryz.func65.trans (congrArg some (by kernel_rfl))
 f20 := ⟨Tryz.f178.name, by decide, Tryz.func178.trans (congrArg some (by kernel_rfl))⟩
 f21 := ⟨Tryz.f179.name, by decide, Tryz.func179.trans (congrArg some (by kernel_rfl))⟩
 f22 := ⟨Tryz.f180.name, by decide, Tryz.func180.trans (congrArg some (by kernel_rfl))⟩
 f23 := ⟨Tryz.f181.name, by decide, Tryz.func181.trans (congrArg some (by kernel_rfl))⟩
 f24 := ⟨Tryz.f182.name, by decide, Tryz.func182.trans (congrArg some (by kernel_rfl))⟩
 f25 := ⟨Tryz.f183.name, by decide, Tryz.func183.trans (congrArg some (by kernel_rfl))⟩
 f26 := ⟨Tryz.f184.name, by decide, Tryz.func184.trans (congrArg some (by kernel_rfl))⟩
 f27 := ⟨Tryz.f185.name, by decide, Tryz.func185.trans (congrArg some (by kernel_rfl))⟩
 f28 := Tryz.func100.trans (congrArg some (by kernel_rfl))
 f29 := Tryz.func101.trans (congrArg some (by kernel_rfl))
 f46 := ⟨Tryz.f192.name, by decide, Tryz.func192.trans (congrArg some (by kernel_rfl))⟩
 f47 := Tryz.func129.trans (congrArg some (by kernel_rfl))
 f48 := Tryz.func130.trans (congrArg some (by kernel_rfl))
 f49 := ⟨Tryz.f193.name, by decide, Tryz.func193.trans (congrArg some (by kernel_rfl))⟩
 f50 := ⟨Tryz.f194.name, by decide, Tryz.func194.trans (congrArg some (by kernel_rfl))⟩
 f57 := ⟨Tryz.f195.name, by decide, Tryz.func195.trans (congrArg some (by kernel_rfl))⟩
 t0 := Tryz.underlying0
 a0 := Tryz.isAgg0
 z0 := Tryz.sizeOf0
 v0 := Tryz.zeroValue0
 t3 := Tryz.underlying3
 a3 := Tryz.isAgg3
 z3 := Tryz.sizeOf3
 v3 := Tryz.zeroValue3
 t4 := Tryz.underlying4
 a4 := Tryz.isAgg4
 z4 := Tryz.sizeOf4
 v4 := Tryz.zeroValue4
 t5 := Tryz.underlying5
 a5 := Tryz.isAgg5
 z5 := Tryz.sizeOf5
 v5 := Tryz.zeroValue5
 t9 := Tryz.underlying9
 a9 := Tryz.isAgg9
 z9 := Tryz.sizeOf9
 v9 := Tryz.zeroValue9
 t22 := Tryz.underlying24
 a22 := Tryz.isAgg24
 z22 := Tryz.sizeOf24
 v22 := Tryz.zeroValue24
 t25 := Tryz.underlying88
 a25 := Tryz.isAgg88
 z25 := Tryz.sizeOf88
 v25 := Tryz.zeroValue88
 t39 := Tryz.underlying91
 a39 := Tryz.isAgg91
 z39 := Tryz.sizeOf91
 v39 := Tryz.zeroValue91
 t45 := Tryz.underlying112
 a45 := Tryz.isAgg112
 z45 := Tryz.sizeOf112
 v45 := Tryz.zeroValue112
 t46 := Tryz.underlying113
 a46 := Tryz.isAgg113
 z46 := Tryz.sizeOf113
 v46 := Tryz.zeroValue113
 t50 := Tryz.underlying118
 a50 := Tryz.isAgg118
 z50 := Tryz.sizeOf118
 v50 := Tryz.zeroValue118
 t53 := Tryz.underlying121
 a53 := Tryz.isAgg121
 z53 := Tryz.sizeOf121
 v53 := Tryz.zeroValue121
 t55 := Tryz.underlying123
 a55 := Tryz.isAgg123
 z55 := Tryz.sizeOf123
 v55 := Tryz.zeroValue123
 t66 := Tryz.underlying141
 a66 := Tryz.isAgg141
 z66 := Tryz.sizeOf141
 v66 := Tryz.zeroValue141
 t70 := Tryz.underlying145
 a70 := Tryz.isAgg145
 z70 := Tryz.sizeOf145
 v70 := Tryz.zeroValue145
 t76 := Tryz.underlying169
 a76 := Tryz.isAgg169
 z76 := Tryz.sizeOf169
 v76 := Tryz.zeroValue169
 t77 := Tryz.underlying170
 a77 := Tryz.isAgg170
 z77 := Tryz.sizeOf170
 v77 := Tryz.zeroValue170 }
end Go.Proofs.YthldgioggjpnpaaGreat

namespace Go.Proofs.YthldgioggjpnpaaGreat
open Go.Shelf
def shc_sortS_ren : Go.Shelf.Ren := ⟨fun | 190 => 43 | 125 => 65 | 258 => 64 | 128 => 100 | 129 => 101 | 302 => 91 | 303 => 92 | 304 => 93 | 305 => 94 | 306 => 95 | 307 => 96 | 308 => 97 | 309 => 98 | 310 => 99 | 333 => 128 | 329 => 129 | 330 => 130 | 334 => 131 | 335 => 132 | 336 => 133 | 344 => 159 | n => n, fun | 31 => 22 | 9 => 9 | 3 => 3 | 46 => 91 | 0 => 0 | 51 => 121 | 53 => 123 | 4 => 4 | 183 => 113 | 182 => 112 | 131 => 118 | 5 => 5 | 218 => 141 | 222 => 145 | 228 => 169 | 229 => 170 | n => n, fun | n => n⟩
theorem shc_sortS : Go.Proofs.Lays.n190 Tryz.prog shc_sortS_ren := {
 mixed := by kernel_rfl
 f125 := Tryz.func65.trans (congrArg some (by kernel_rfl))
 f128 := Tryz.func100.trans (congrArg some (by kernel_rfl))
 f129 := Tryz.func101.trans (congrArg some (by kernel_rfl))
 f190 := Tryz.func43.trans (congrArg some (by kernel_rfl))
 f258 := Tryz.func64.trans (congrArg some (by kernel_rfl))
 f302 := Tryz.func91.trans (congrArg some (by kernel_rfl))
 f303 := Tryz.func92.trans (congrArg some (by kernel_rfl))
 f304 := Tryz.func93.trans (congrArg some (by kernel_rfl))
 f305 := Tryz.func94.trans (congrArg some (by kernel_rfl))
 f306 := Tryz.func95.trans (congrArg some (by kernel_rfl))
 f307 := Tryz.func96.trans (congrArg some (by kernel_rfl))
 f308 := Tryz.func97.trans (congrArg some (by kernel_rfl))
 f309 := Tryz.func98.trans (congrArg some (by kernel_rfl))
 f310 := Tryz.func99.trans (congrArg some (by kernel_rfl))
 f329 := Tryz.func129.trans (congrArg some (by kernel_rfl))
 f330 := Tryz.func130.trans (congrArg some (by kernel_rfl))
 f333 := Tryz.func128.trans (congrArg some (by kernel_rfl))
 f334 := Tryz.func131.trans (congrArg some (by kernel_rfl))
 f335 := Tryz.func132.trans (congrArg some (by kernel_rfl))
 f336 := Tryz.func133.trans (congrArg some (by kernel_rfl))
 f344 := Tryz.func159.trans (congrArg some (by kernel_rfl))
 t0 := Tryz.underlying0
 a0 := Tryz.isAgg0
 z0 := Tryz.sizeOf0
 v0 := Tryz.zeroValue0
 t3 := Tryz.underlying3
 a3 := Tryz.isAgg3
 z3 := Tryz.sizeOf3
 v3 := Tryz.zeroValue3
 t4 := Tryz.underlying4
 a4 := Tryz.isAgg4
 z4 := Tryz.sizeOf4
 v4 := Tryz.zeroValue4
 t5 := Tryz.underlying5
 a5 := Tryz.isAgg5
 z5 := Tryz.sizeOf5
 v5 := Tryz.zeroValue5
 t9 := Tryz.underlying9
 a9 := Tryz.isAgg9
 z9 := Tryz.sizeOf9
 v9 := Tryz.zeroValue9
 t31 := Tryz.underlying22
 a31 := Tryz.isAgg22
 z31 := Tryz.sizeOf22
 v31 := Tryz.zeroValue22
 t46 := Tryz.underlying91
 a46 := Tryz.isAgg91
 z46 := Tryz.sizeOf91
 v46 := Tryz.zeroValue91
 t51 := Tryz.underlying121
 a51 := Tryz.isAgg121
 z51 := Tryz.sizeOf121
 v51 := Tryz.zeroValue121
 t53 := Tryz.underlying123
 a53 := Tryz.isAgg123
 z53 := Tryz.sizeOf123
 v53 := Tryz.zeroValue123
 t131 := Tryz.underlying118
 a131 := Tryz.isAgg118
 z131 := Tryz.sizeOf118
 v131 := Tryz.zeroValue118
 t182 := Tryz.underlying112
 a182 := Tryz.isAgg112
 z182 := Tryz.sizeOf112
 v182 := Tryz.zeroValue112
 t183 := Tryz.underlying113
 a183 := Tryz.isAgg113
 z183 := Tryz.sizeOf113
 v183 := Tryz.zeroValue113
 t218 := Tryz.underlying141
 a218 := Tryz.isAgg141
 z218 := Tryz.sizeOf141
 v218 := Tryz.zeroValue141
 t222 := Tryz.underlying145
 a222 := Tryz.isAgg145
 z222 := Tryz.sizeOf145
 v222 := Tryz.zeroValue145
 t228 := Tryz.underlying169
 a228 := Tryz.isAgg169
 z228 := Tryz.sizeOf169
 v228 := Tryz.zeroValue169
 t229 := Tryz.underlying170
 a229 := Tryz.isAgg170
 z229 := Tryz.sizeOf170
 v229 := Tryz.zeroValue170 }
open Go.Sort Go.RowKit in
open Go.RowKit Go.Sort in
theorem shc_Sort : SortS Tryz.prog 43 := fun blk cap ss w hH hblk hsz => Any.slices_Sort_string shc_sortS blk 0 cap ss w hH hblk hsz
theorem shc_Sort0 : SortS0 Tryz.prog 43 := fun p cap w => Any.slices_Sort_string_none shc_sortS p cap w
end Go.Proofs.YthldgioggjpnpaaGreat

namespace Go.Proofs.YthldgioggjpnpaaGreat
end Go.Proofs.YthldgioggjpnpaaGreat
