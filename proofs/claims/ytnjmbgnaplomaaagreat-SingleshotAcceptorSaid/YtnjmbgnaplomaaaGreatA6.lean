/-
  The shelf's contract of the comparison of strings, laid at this program.
  The shelf: slices.SortFunc at entries, laid at this program.
  The shelf: slices.Sort at strings, laid at this program.
  Nothing here: this seat does not reach slices.Insert.
-/
import Derived.Lib.Small
import Derived.Shelf.Small.Strs
import Derived.Test.YtnjmbgnaplomaaaGreatRows
import Derived.Shelf.SlSortCmp.WholeK
import Derived.Ground.SlsfProg
import Derived.Shelf.Sort.Plain
import Derived.Shelf.Slices.In.SortNone
import Derived.Test.YtnjmbgnaplomaaaGreatA4
import Derived.Test.YtnjmbgnaplomaaaGreatTAB
namespace Go.Proofs.YtnjmbgnaplomaaaGreat
open Go.Shelf
def shc_ren : Go.Shelf.Ren := ⟨fun | 213 => 168 | 265 => 181 | n => n, fun | 9 => 9 | 3 => 3 | n => n, fun | n => n⟩
theorem shc_lays213 : Go.Proofs.Lays.n213 Tryz.prog shc_ren := {
 mixed := by kernel_rfl
 f213 := Tryz.func168.trans (congrArg some (by kernel_rfl))
 f265 := Tryz.func181.trans (congrArg some (by kernel_rfl))
 t3 := Tryz.underlying3
 a3 := Tryz.isAgg3
 z3 := Tryz.sizeOf3
 v3 := Tryz.zeroValue3
 t9 := Tryz.underlying9
 a9 := Tryz.isAgg9
 z9 := Tryz.sizeOf9
 v9 := Tryz.zeroValue9 }
open Go.RowKit in
theorem shc_CompareString (a b : ByteArray) (w : World) :
  Calls Tryz.prog 168 #[.string a, .string b] w fun e w' => e = .returned (.int .i64 (Lib.compareBytes a.data.toList b.data.toList)) ∧ w' = w := Any.bytealg_CompareString shc_lays213 a b w
end Go.Proofs.YtnjmbgnaplomaaaGreat

namespace Go.Proofs.YtnjmbgnaplomaaaGreat
open Go.Shelf
def shc_sortEn_ren : Go.Shelf.Ren := ⟨fun | 6 => 166 | 15 => 180 | 14 => 179 | 28 => 195 | 29 => 196 | 20 => 187 | 21 => 188 | 22 => 189 | 23 => 190 | 24 => 191 | 25 => 192 | 26 => 193 | 27 => 194 | 46 => 200 | 47 => 201 | 48 => 202 | 49 => 203 | 50 => 204 | 57 => 213 | n => n, fun | 22 => 39 | 24 => 114 | 25 => 111 | 3 => 3 | 39 => 192 | 0 => 0 | 53 => 209 | 55 => 211 | 4 => 4 | 46 => 203 | 45 => 202 | 50 => 196 | 5 => 5 | 9 => 9 | 66 => 214 | 70 => 218 | 76 => 225 | 77 => 226 | n => n, fun | n => n⟩
theorem shc_sortEn : Go.Proofs.SlLaysF0.n6 Tryz.prog shc_sortEn_ren := {
 mixed := by kernel_rfl
 f6 := ⟨Tryz.f166.name, by decide, Tryz.func166.trans (congrArg some (by kernel_rfl))⟩
 f14 := ⟨Tryz.f179.name, by decide, Tryz.func179.trans (congrArg some (by kernel_rfl))⟩
 f15 := Tryz.func180.trans (congrArg some (by kernel_rfl))
 f20 := ⟨Tryz.f187.name, by decide, Tryz.func187.trans (congrArg some (by kernel_rfl))⟩
 f21 := ⟨Tryz.f188.name, by decide, Tryz.func188.trans (congrArg some (by kernel_rfl))⟩
 f22 := ⟨Tryz.f189.name, by decide, Tryz.func189.trans (congrArg some (by kernel_rfl))⟩
 f23 := ⟨Tryz.f190.name, by decide, Tryz.func190.trans (congrArg some (by kernel_rfl))⟩
 f24 := ⟨Tryz.f191.name, by decide, Tryz.func191.trans (congrArg some (by kernel_rfl))⟩
 f25 := ⟨Tryz.f192.name, by decide, Tryz.func192.trans (congrArg some (by kernel_rfl))⟩
 f26 := ⟨Tryz.f193.name, by decide, Tryz.func193.trans (congrArg some (by kernel_rfl))⟩
 f27 := ⟨Tryz.f194.name, by decide, Tryz.func194.trans (congrArg some (by kernel_rfl))⟩
 f28 := Tryz.func195.trans (congrArg some (by kernel_rfl))
 f29 := Tryz.func196.trans (congrArg some (by kernel_rfl))
 f46 := ⟨Tryz.f200.name, by decide, Tryz.func200.trans (congrArg some (by kernel_rfl))⟩
 f47 := Tryz.func201.trans (congrArg some (by kernel_rfl))
 f48 := Tryz.func202.trans (congrArg some (by kernel_rfl))
 f49 := ⟨Tryz.f203.name, by decide, Tryz.func203.trans (congrArg some (by kernel_rfl))⟩
 f50 := ⟨Tryz.f204.name, by decide, Tryz.func204.trans (congrArg some (by kernel_rfl))⟩
 f57 := ⟨Tryz.f213.name, by decide, Tryz.func213.trans (congrArg some (by kernel_rfl))⟩
 t0 := Tryz.underlying0
 a0 := Tryz.isAgg0
 z0 := Tryz.sizeOf0
 v0 := Tryz.zeroValue0
 t3 := Tryz.underlying3
 a3 := Tryz.isAgg3
 z3 := Tryz.sizeOf3
 v3 := Tryz.zeroValue3
 t4 := Tryz.underlying4
 a4 := Tryz.isAgg4
 z4 := Tryz.sizeOf4
 v4 := Tryz.zeroValue4
 t5 := Tryz.underlying5
 a5 := Tryz.isAgg5
 z5 := Tryz.sizeOf5
 v5 := Tryz.zeroValue5
 t9 := Tryz.underlying9
 a9 := Tryz.isAgg9
 z9 := Tryz.sizeOf9
 v9 := Tryz.zeroValue9
 t22 := Tryz.underlying39
 a22 := Tryz.isAgg39
 z22 := Tryz.sizeOf39
 v22 := Tryz.zeroValue39
 t25 := Tryz.underlying111
 a25 := Tryz.isAgg111
 z25 := Tryz.sizeOf111
 v25 := Tryz.zeroValue111
 t39 := Tryz.underlying192
 a39 := Tryz.isAgg192
 z39 := Tryz.sizeOf192
 v39 := Tryz.zeroValue192
 t45 := Tryz.underlying202
 a45 := Tryz.isAgg202
 z45 := Tryz.sizeOf202
 v45 := Tryz.zeroValue202
 t46 := Tryz.underlying203
 a46 := Tryz.isAgg203
 z46 := Tryz.sizeOf203
 v46 := Tryz.zeroValue203
 t50 := Tryz.underlying196
 a50 := Tryz.isAgg196
 z50 := Tryz.sizeOf196
 v50 := Tryz.zeroValue196
 t53 := Tryz.underlying209
 a53 := Tryz.isAgg209
 z53 := Tryz.sizeOf209
 v53 := Tryz.zeroValue209
 t55 := Tryz.underlying211
 a55 := Tryz.isAgg211
 z55 := Tryz.sizeOf211
 v55 := Tryz.zeroValue211
 t66 := Tryz.underlying214
 a66 := Tryz.isAgg214
 z66 := Tryz.sizeOf214
 v66 := Tryz.zeroValue214
 t70 := Tryz.underlying218
 a70 := Tryz.isAgg218
 z70 := Tryz.sizeOf218
 v70 := Tryz.zeroValue218
 t76 := Tryz.underlying225
 a76 := Tryz.isAgg225
 z76 := Tryz.sizeOf225
 v76 := Tryz.zeroValue225
 t77 := Tryz.underlying226
 a77 := Tryz.isAgg226
 z77 := Tryz.sizeOf226
 v77 := Tryz.zeroValue226 }
end Go.Proofs.YtnjmbgnaplomaaaGreat

namespace Go.Proofs.YtnjmbgnaplomaaaGreat
open Go.Shelf
def shc_sortS_ren : Go.Shelf.Ren := ⟨fun | 190 => 183 | 125 => 180 | 258 => 197 | 128 => 195 | 129 => 196 | 302 => 205 | 303 => 206 | 304 => 207 | 305 => 208 | 306 => 209 | 307 => 210 | 308 => 198 | 309 => 211 | 310 => 212 | 333 => 214 | 329 => 201 | 330 => 202 | 334 => 215 | 335 => 216 | 336 => 172 | 344 => 217 | n => n, fun | 31 => 22 | 9 => 9 | 3 => 3 | 46 => 192 | 0 => 0 | 51 => 209 | 53 => 211 | 4 => 4 | 183 => 203 | 182 => 202 | 131 => 196 | 5 => 5 | 218 => 214 | 222 => 218 | 228 => 225 | 229 => 226 | n => n, fun | n => n⟩
theorem shc_sortS : Go.Proofs.Lays.n190 Tryz.prog shc_sortS_ren := {
 mixed := by kernel_rfl
 f125 := Tryz.func180.trans (congrArg some (by kernel_rfl))
 f128 := Tryz.func195.trans (congrArg some (by kernel_rfl))
 f129 := Tryz.func196.trans (congrArg some (by kernel_rfl))
 f190 := Tryz.func183.trans (congrArg some (by kernel_rfl))
 f258 := Tryz.func197.trans (congrArg some (by kernel_rfl))
 f302 := Tryz.func205.trans (congrArg some (by kernel_rfl))
 f303 := Tryz.func206.trans (congrArg some (by kernel_rfl))
 f304 := Tryz.func207.trans (congrArg some (by kernel_rfl))
 f305 := Tryz.func208.trans (congrArg some (by kernel_rfl))
 f306 := Tryz.func209.trans (congrArg some (by kernel_rfl))
 f307 := Tryz.func210.trans (congrArg some (by kernel_rfl))
 f308 := Tryz.func198.trans (congrArg some (by kernel_rfl))
 f309 := Tryz.func211.trans (congrArg some (by kernel_rfl))
 f310 := Tryz.func212.trans (congrArg some (by kernel_rfl))
 f329 := Tryz.func201.trans (congrArg some (by kernel_rfl))
 f330 := Tryz.func202.trans (congrArg some (by kernel_rfl))
 f333 := Tryz.func214.trans (congrArg some (by kernel_rfl))
 f334 := Tryz.func215.trans (congrArg some (by kernel_rfl))
 f335 := Tryz.func216.trans (congrArg some (by kernel_rfl))
 f336 := Tryz.func172.trans (congrArg some (by kernel_rfl))
 f344 := Tryz.func217.trans (congrArg some (by kernel_rfl))
 t0 := Tryz.underlying0
 a0 := Tryz.isAgg0
 z0 := Tryz.sizeOf0
 v0 := Tryz.zeroValue0
 t3 := Tryz.underlying3
 a3 := Tryz.isAgg3
 z3 := Tryz.sizeOf3
 v3 := Tryz.zeroValue3
 t4 := Tryz.underlying4
 a4 := Tryz.isAgg4
 z4 := Tryz.sizeOf4
 v4 := Tryz.zeroValue4
 t5 := Tryz.underlying5
 a5 := Tryz.isAgg5
 z5 := Tryz.sizeOf5
 v5 := Tryz.zeroValue5
 t9 := Tryz.underlying9
 a9 := Tryz.isAgg9
 z9 := Tryz.sizeOf9
 v9 := Tryz.zeroValue9
 t31 := Tryz.underlying22
 a31 := Tryz.isAgg22
 z31 := Tryz.sizeOf22
 v31 := Tryz.zeroValue22
 t46 := Tryz.underlying192
 a46 := Tryz.isAgg192
 z46 := Tryz.sizeOf192
 v46 := Tryz.zeroValue192
 t51 := Tryz.underlying209
 a51 := Tryz.isAgg209
 z51 := Tryz.sizeOf209
 v51 := Tryz.zeroValue209
 t53 := Tryz.underlying211
 a53 := Tryz.isAgg211
 z53 := Tryz.sizeOf211
 v53 := Tryz.zeroValue211
 t131 := Tryz.underlying196
 a131 := Tryz.isAgg196
 z131 := Tryz.sizeOf196
 v131 := Tryz.zeroValue196
 t182 := Tryz.underlying202
 a182 := Tryz.isAgg202
 z182 := Tryz.sizeOf202
 v182 := Tryz.zeroValue202
 t183 := Tryz.underlying203
 a183 := Tryz.isAgg203
 z183 := Tryz.sizeOf203
 v183 := Tryz.zeroValue203
 t218 := Tryz.underlying214
 a218 := Tryz.isAgg214
 z218 := Tryz.sizeOf214
 v218 := Tryz.zeroValue214
 t222 := Tryz.underlying218
 a222 := Tryz.isAgg218
 z222 := Tryz.sizeOf218
 v222 := Tryz.zeroValue218
 t228 := Tryz.underlying225
 a228 := Tryz.isAgg225
 z228 := Tryz.sizeOf225
 v228 := Tryz.zeroValue225
 t229 := Tryz.underlying226
 a229 := Tryz.isAgg226
 z229 := Tryz.sizeOf226
 v229 := Tryz.zeroValue226 }
open Go.Sort Go.RowKit in
open Go.RowKit Go.Sort in
theorem shc_Sort : SortS Tryz.prog 183 := fun blk cap ss w hH hblk hsz => Any.slices_Sort_string shc_sortS blk 0 cap ss w hH hblk hsz
theorem shc_Sort0 : SortS0 Tryz.prog 183 := fun p cap w => Any.slices_Sort_string_none shc_sortS p cap w
end Go.Proofs.YtnjmbgnaplomaaaGreat

namespace Go.Proofs.YtnjmbgnaplomaaaGreat
end Go.Proofs.YtnjmbgnaplomaaaGreat
