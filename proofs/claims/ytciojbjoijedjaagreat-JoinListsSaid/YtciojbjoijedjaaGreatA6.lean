/-
  The shelf's contract of the comparison of strings, laid at this program.
  The shelf: slices.SortFunc at entries, laid at this program.
  The shelf: slices.Sort at strings, laid at this program.
  The shelf: slices.Insert at numbers, laid at this program.
-/
import Derived.Lib.Small
import Derived.Shelf.Small.Strs
import Derived.Test.YtciojbjoijedjaaGreatRows
import Derived.Shelf.SlSortCmp.WholeK
import Derived.Ground.SlsfProg
import Derived.Shelf.Sort.Plain
import Derived.Shelf.Slices.In.SortNone
import Derived.Test.YtciojbjoijedjaaGreatA4
import Derived.Test.YtciojbjoijedjaaGreatTAB
namespace Go.Proofs.YtciojbjoijedjaaGreat
open Go.Shelf
def shc_ren : Go.Shelf.Ren := ⟨fun | 213 => 177 | 265 => 199 | n => n, fun | 9 => 9 | 3 => 3 | n => n, fun | n => n⟩
theorem shc_lays213 : Go.Proofs.Lays.n213 Tryz.prog shc_ren := {
 mixed := by kernel_rfl
 f213 := Tryz.func177.trans (congrArg some (by kernel_rfl))
 f265 := Tryz.func199.trans (congrArg some (by kernel_rfl))
 t3 := Tryz.underlying3
 a3 := Tryz.isAgg3
 z3 := Tryz.sizeOf3
 v3 := Tryz.zeroValue3
 t9 := Tryz.underlying9
 a9 := Tryz.isAgg9
 z9 := Tryz.sizeOf9
 v9 := Tryz.zeroValue9 }
open Go.RowKit in
theorem shc_CompareString (a b : ByteArray) (w : World) :
  Calls Tryz.prog 177 #[.string a, .string b] w fun e w' => e = .returned (.int .i64 (Lib.compareBytes a.data.toList b.data.toList)) ∧ w' = w := Any.bytealg_CompareString shc_lays213 a b w
end Go.Proofs.YtciojbjoijedjaaGreat

namespace Go.Proofs.YtciojbjoijedjaaGreat
open Go.Shelf
def shc_sortEn_ren : Go.Shelf.Ren := ⟨fun | 6 => 134 | 15 => 166 | 14 => 165 | 28 => 191 | 29 => 192 | 20 => 183 | 21 => 184 | 22 => 185 | 23 => 186 | 24 => 187 | 25 => 188 | 26 => 189 | 27 => 190 | 46 => 203 | 47 => 204 | 48 => 205 | 49 => 206 | 50 => 207 | 57 => 217 | n => n, fun | 22 => 28 | 24 => 73 | 25 => 86 | 3 => 3 | 39 => 148 | 0 => 0 | 53 => 169 | 55 => 171 | 4 => 4 | 46 => 163 | 45 => 162 | 50 => 156 | 5 => 5 | 9 => 9 | 66 => 176 | 70 => 180 | 76 => 188 | 77 => 189 | n => n, fun | n => n⟩
theorem shc_sortEn : Go.Proofs.SlLaysF0.n6 Tryz.prog shc_sortEn_ren := {
 mixed := by kernel_rfl
 f6 := ⟨Tryz.f134.name, by decide, Tryz.func134.trans (congrArg some (by kernel_rfl))⟩
 f14 := ⟨Tryz.f165.name, by decide, Tryz.func165.trans (congrArg some (by kernel_rfl))⟩
 f15 := Tryz.func166.trans (congrArg some (by kernel_rfl))
 f20 := ⟨Tryz.f183.name, by decide, Tryz.func183.trans (congrArg some (by kernel_rfl))⟩
 f21 := ⟨Tryz.f184.name, by decide, Tryz.func184.trans (congrArg some (by kernel_rfl))⟩
 f22 := ⟨Tryz.f185.name, by decide, Tryz.func185.trans (congrArg some (by kernel_rfl))⟩
 f23 := ⟨Tryz.f186.name, by decide, Tryz.func186.trans (congrArg some (by kernel_rfl))⟩
 f24 := ⟨Tryz.f187.name, by decide, Tryz.func187.trans (congrArg some (by kernel_rfl))⟩
 f25 := ⟨Tryz.f188.name, by decide, Tryz.func188.trans (congrArg some (by kernel_rfl))⟩
 f26 := ⟨Tryz.f189.name, by decide, Tryz.func189.trans (congrArg some (by kernel_rfl))⟩
 f27 := ⟨Tryz.f190.name, by decide, Tryz.func190.trans (congrArg some (by kernel_rfl))⟩
 f28 := Tryz.func191.trans (congrArg some (by kernel_rfl))
 f29 := Tryz.func192.trans (congrArg some (by kernel_rfl))
 f46 := ⟨Tryz.f203.name, by decide, Tryz.func203.trans (congrArg some (by kernel_rfl))⟩
 f47 := Tryz.func204.trans (congrArg some (by kernel_rfl))
 f48 := Tryz.func205.trans (congrArg some (by kernel_rfl))
 f49 := ⟨Tryz.f206.name, by decide, Tryz.func206.trans (congrArg some (by kernel_rfl))⟩
 f50 := ⟨Tryz.f207.name, by decide, Tryz.func207.trans (congrArg some (by kernel_rfl))⟩
 f57 := ⟨Tryz.f217.name, by decide, Tryz.func217.trans (congrArg some (by kernel_rfl))⟩
 t0 := Tryz.underlying0
 a0 := Tryz.isAgg0
 z0 := Tryz.sizeOf0
 v0 := Tryz.zeroValue0
 t3 := Tryz.underlying3
 a3 := Tryz.isAgg3
 z3 := Tryz.sizeOf3
 v3 := Tryz.zeroValue3
 t4 := Tryz.underlying4
 a4 := Tryz.isAgg4
 z4 := Tryz.sizeOf4
 v4 := Tryz.zeroValue4
 t5 := Tryz.underlying5
 a5 := Tryz.isAgg5
 z5 := Tryz.sizeOf5
 v5 := Tryz.zeroValue5
 t9 := Tryz.underlying9
 a9 := Tryz.isAgg9
 z9 := Tryz.sizeOf9
 v9 := Tryz.zeroValue9
 t22 := Tryz.underlying28
 a22 := Tryz.isAgg28
 z22 := Tryz.sizeOf28
 v22 := Tryz.zeroValue28
 t25 := Tryz.underlying86
 a25 := Tryz.isAgg86
 z25 := Tryz.sizeOf86
 v25 := Tryz.zeroValue86
 t39 := Tryz.underlying148
 a39 := Tryz.isAgg148
 z39 := Tryz.sizeOf148
 v39 := Tryz.zeroValue148
 t45 := Tryz.underlying162
 a45 := Tryz.isAgg162
 z45 := Tryz.sizeOf162
 v45 := Tryz.zeroValue162
 t46 := Tryz.underlying163
 a46 := Tryz.isAgg163
 z46 := Tryz.sizeOf163
 v46 := Tryz.zeroValue163
 t50 := Tryz.underlying156
 a50 := Tryz.isAgg156
 z50 := Tryz.sizeOf156
 v50 := Tryz.zeroValue156
 t53 := Tryz.underlying169
 a53 := Tryz.isAgg169
 z53 := Tryz.sizeOf169
 v53 := Tryz.zeroValue169
 t55 := Tryz.underlying171
 a55 := Tryz.isAgg171
 z55 := Tryz.sizeOf171
 v55 := Tryz.zeroValue171
 t66 := Tryz.underlying176
 a66 := Tryz.isAgg176
 z66 := Tryz.sizeOf176
 v66 := Tryz.zeroValue176
 t70 := Tryz.underlying180
 a70 := Tryz.isAgg180
 z70 := Tryz.sizeOf180
 v70 := Tryz.zeroValue180
 t76 := Tryz.underlying188
 a76 := Tryz.isAgg188
 z76 := Tryz.sizeOf188
 v76 := Tryz.zeroValue188
 t77 := Tryz.underlying189
 a77 := Tryz.isAgg189
 z77 := Tryz.sizeOf189
 v77 := Tryz.zeroValue189 }
end Go.Proofs.YtciojbjoijedjaaGreat

namespace Go.Proofs.YtciojbjoijedjaaGreat
open Go.Shelf
def shc_sortS_ren : Go.Shelf.Ren := ⟨fun | 190 => 175 | 125 => 166 | 258 => 198 | 128 => 191 | 129 => 192 | 302 => 209 | 303 => 210 | 304 => 211 | 305 => 212 | 306 => 213 | 307 => 214 | 308 => 201 | 309 => 215 | 310 => 216 | 333 => 218 | 329 => 204 | 330 => 205 | 334 => 219 | 335 => 220 | 336 => 193 | 344 => 221 | n => n, fun | 31 => 22 | 9 => 9 | 3 => 3 | 46 => 148 | 0 => 0 | 51 => 169 | 53 => 171 | 4 => 4 | 183 => 163 | 182 => 162 | 131 => 156 | 5 => 5 | 218 => 176 | 222 => 180 | 228 => 188 | 229 => 189 | n => n, fun | n => n⟩
theorem shc_sortS : Go.Proofs.Lays.n190 Tryz.prog shc_sortS_ren := {
 mixed := by kernel_rfl
 f125 := Tryz.func166.trans (congrArg some (by kernel_rfl))
 f128 := Tryz.func191.trans (congrArg some (by kernel_rfl))
 f129 := Tryz.func192.trans (congrArg some (by kernel_rfl))
 f190 := Tryz.func175.trans (congrArg some (by kernel_rfl))
 f258 := Tryz.func198.trans (congrArg some (by kernel_rfl))
 f302 := Tryz.func209.trans (congrArg some (by kernel_rfl))
 f303 := Tryz.func210.trans (congrArg some (by kernel_rfl))
 f304 := Tryz.func211.trans (congrArg some (by kernel_rfl))
 f305 := Tryz.func212.trans (congrArg some (by kernel_rfl))
 f306 := Tryz.func213.trans (congrArg some (by kernel_rfl))
 f307 := Tryz.func214.trans (congrArg some (by kernel_rfl))
 f308 := Tryz.func201.trans (congrArg some (by kernel_rfl))
 f309 := Tryz.func215.trans (congrArg some (by kernel_rfl))
 f310 := Tryz.func216.trans (congrArg some (by kernel_rfl))
 f329 := Tryz.func204.trans (congrArg some (by kernel_rfl))
 f330 := Tryz.func205.trans (congrArg some (by kernel_rfl))
 f333 := Tryz.func218.trans (congrArg some (by kernel_rfl))
 f334 := Tryz.func219.trans (congrArg some (by kernel_rfl))
 f335 := Tryz.func220.trans (congrArg some (by kernel_rfl))
 f336 := Tryz.func193.trans (congrArg some (by kernel_rfl))
 f344 := Tryz.func221.trans (congrArg some (by kernel_rfl))
 t0 := Tryz.underlying0
 a0 := Tryz.isAgg0
 z0 := Tryz.sizeOf0
 v0 := Tryz.zeroValue0
 t3 := Tryz.underlying3
 a3 := Tryz.isAgg3
 z3 := Tryz.sizeOf3
 v3 := Tryz.zeroValue3
 t4 := Tryz.underlying4
 a4 := Tryz.isAgg4
 z4 := Tryz.sizeOf4
 v4 := Tryz.zeroValue4
 t5 := Tryz.underlying5
 a5 := Tryz.isAgg5
 z5 := Tryz.sizeOf5
 v5 := Tryz.zeroValue5
 t9 := Tryz.underlying9
 a9 := Tryz.isAgg9
 z9 := Tryz.sizeOf9
 v9 := Tryz.zeroValue9
 t31 := Tryz.underlying22
 a31 := Tryz.isAgg22
 z31 := Tryz.sizeOf22
 v31 := Tryz.zeroValue22
 t46 := Tryz.underlying148
 a46 := Tryz.isAgg148
 z46 := Tryz.sizeOf148
 v46 := Tryz.zeroValue148
 t51 := Tryz.underlying169
 a51 := Tryz.isAgg169
 z51 := Tryz.sizeOf169
 v51 := Tryz.zeroValue169
 t53 := Tryz.underlying171
 a53 := Tryz.isAgg171
 z53 := Tryz.sizeOf171
 v53 := Tryz.zeroValue171
 t131 := Tryz.underlying156
 a131 := Tryz.isAgg156
 z131 := Tryz.sizeOf156
 v131 := Tryz.zeroValue156
 t182 := Tryz.underlying162
 a182 := Tryz.isAgg162
 z182 := Tryz.sizeOf162
 v182 := Tryz.zeroValue162
 t183 := Tryz.underlying163
 a183 := Tryz.isAgg163
 z183 := Tryz.sizeOf163
 v183 := Tryz.zeroValue163
 t218 := Tryz.underlying176
 a218 := Tryz.isAgg176
 z218 := Tryz.sizeOf176
 v218 := Tryz.zeroValue176
 t222 := Tryz.underlying180
 a222 := Tryz.isAgg180
 z222 := Tryz.sizeOf180
 v222 := Tryz.zeroValue180
 t228 := Tryz.underlying188
 a228 := Tryz.isAgg188
 z228 := Tryz.sizeOf188
 v228 := Tryz.zeroValue188
 t229 := Tryz.underlying189
 a229 := Tryz.isAgg189
 z229 := Tryz.sizeOf189
 v229 := Tryz.zeroValue189 }
open Go.Sort Go.RowKit in
open Go.RowKit Go.Sort in
theorem shc_Sort : SortS Tryz.prog 175 := fun blk cap ss w hH hblk hsz => Any.slices_Sort_string shc_sortS blk 0 cap ss w hH hblk hsz
theorem shc_Sort0 : SortS0 Tryz.prog 175 := fun p cap w => Any.slices_Sort_string_none shc_sortS p cap w
end Go.Proofs.YtciojbjoijedjaaGreat

namespace Go.Proofs.YtciojbjoijedjaaGreat
open Go.Shelf
def shc_insI_ren : Go.Shelf.Ren := ⟨fun | 21 => 57 | 27 => 97 | 28 => 98 | 35 => 136 | 39 => 167 | n => n, fun | 22 => 44 | 3 => 3 | 4 => 4 | 0 => 0 | n => n, fun | n => n⟩
theorem shc_insI : Go.Proofs.Lays2.n21 Tryz.prog shc_insI_ren := {
 mixed := by kernel_rfl
 f21 := Tryz.func57.trans (congrArg some (by kernel_rfl))
 f27 := Tryz.func97.trans (congrArg some (by kernel_rfl))
 f28 := Tryz.func98.trans (congrArg some (by kernel_rfl))
 f35 := Tryz.func136.trans (congrArg some (by kernel_rfl))
 f39 := Tryz.func167.trans (congrArg some (by kernel_rfl))
 t0 := Tryz.underlying0
 a0 := Tryz.isAgg0
 z0 := Tryz.sizeOf0
 v0 := Tryz.zeroValue0
 t3 := Tryz.underlying3
 a3 := Tryz.isAgg3
 z3 := Tryz.sizeOf3
 v3 := Tryz.zeroValue3
 t4 := Tryz.underlying4
 a4 := Tryz.isAgg4
 z4 := Tryz.sizeOf4
 v4 := Tryz.zeroValue4
 t22 := Tryz.underlying44
 a22 := Tryz.isAgg44
 z22 := Tryz.sizeOf44
 v22 := Tryz.zeroValue44
 i3 := by kernel_rfl
}
end Go.Proofs.YtciojbjoijedjaaGreat
