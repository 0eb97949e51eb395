/-
  The shelf's contract of the comparison of strings, laid at this program.
  The shelf: slices.SortFunc at entries, laid at this program.
  The shelf: slices.Sort at strings, laid at this program.
  A stub: no Insert at this seat.
  The shelf: slices.SortFunc at values, laid at this program.
-/
import Derived.Lib.Small
import Derived.Shelf.Small.Strs
import Derived.Test.YtaecccdkjmipeaaGreatRows
import Derived.Shelf.SlSortCmp.WholeK
import Derived.Ground.SlsfProg
import Derived.Shelf.Sort.Plain
import Derived.Shelf.Slices.In.SortNone
import Derived.Test.YtaecccdkjmipeaaGreatA4
import Derived.Test.YtaecccdkjmipeaaGreatTAB
namespace Go.Proofs.YtaecccdkjmipeaaGreat
open Go.Shelf
def shc_ren : Go.Shelf.Ren := ⟨fun | 213 => 157 | 265 => 175 | n => n, fun | 9 => 9 | 3 => 3 | n => n, fun | n => n⟩
theorem shc_lays213 : Go.Proofs.Lays.n213 Tryz.prog shc_ren := {
 mixed := by kernel_rfl
 f213 := Tryz.func157.trans (congrArg some (by kernel_rfl))
 f265 := Tryz.func175.trans (congrArg some (by kernel_rfl))
 t3 := Tryz.underlying3
 a3 := Tryz.isAgg3
 z3 := Tryz.sizeOf3
 v3 := Tryz.zeroValue3
 t9 := Tryz.underlying9
 a9 := Tryz.isAgg9
 z9 := Tryz.sizeOf9
 v9 := Tryz.zeroValue9 }
open Go.RowKit in
theorem shc_CompareString (a b : ByteArray) (w : World) :
  Calls Tryz.prog 157 #[.string a, .string b] w fun e w' => e = .returned (.int .i64 (Lib.compareBytes a.data.toList b.data.toList)) ∧ w' = w := Any.bytealg_CompareString shc_lays213 a b w
end Go.Proofs.YtaecccdkjmipeaaGreat

namespace Go.Proofs.YtaecccdkjmipeaaGreat
open Go.Shelf
def shc_sortEn_ren : Go.Shelf.Ren := ⟨fun | 6 => 188 | 15 => 80 | 14 => 202 | 28 => 123 | 29 => 124 | 20 => 213 | 21 => 214 | 22 => 215 | 23 => 216 | 24 => 217 | 25 => 218 | 26 => 219 | 27 => 220 | 46 => 224 | 47 => 152 | 48 => 153 | 49 => 225 | 50 => 226 | 57 => 235 | n => n, fun | 22 => 28 | 24 => 88 | 25 => 85 | 3 => 3 | 39 => 113 | 0 => 0 | 53 => 146 | 55 => 148 | 4 => 4 | 46 => 140 | 45 => 139 | 50 => 80 | 5 => 5 | 9 => 9 | 66 => 166 | 70 => 170 | 76 => 180 | 77 => 181 | n => n, fun | n => n⟩
theorem shc_sortEn : Go.Proofs.SlLaysF0.n6 Tryz.prog shc_sortEn_ren := {
 mixed := by kernel_rfl
 f6 := ⟨Tryz.f188.name, by decide, Tryz.func188.trans (congrArg some (by kernel_rfl))⟩
 f14 := ⟨Tryz.f202.name, by decide, Tryz.func202.trans (congrArg some (by kernel_rfl))⟩
 f15 := Tryz.func80.trans (congrArg some (by kernel_rfl))
 f20 := ⟨Tryz.f213.name, by decide, Tryz.func213.trans (congrArg some (by kernel_rfl))⟩
 f21 := ⟨Tryz.f214.name, by decide, Tryz.func214.trans (congrArg some (by kernel_rfl))⟩
 f22 := ⟨Tryz.f215.name, by decide, Tryz.func215.trans (congrArg some (by kernel_rfl))⟩
 f23 := ⟨Tryz.f216.name, by decide, Tryz.func216.trans (congrArg some (by kernel_rfl))⟩
 f24 := ⟨Tryz.f217.name, by decide, Tryz.func217.trans (congrArg some (by kernel_rfl))⟩
 f25 := ⟨Tryz.f218.name, by decide, Tryz.func218.trans (congrArg some (by kernel_rfl))⟩
 f26 := ⟨Tryz.f219.name, by decide, Tryz.func219.trans (congrArg some (by kernel_rfl))⟩
 f27 := ⟨Tryz.f220.name, by decide, Tryz.func220.trans (congrArg some (by kernel_rfl))⟩
 f28 := Tryz.func123.trans (congrArg some (by kernel_rfl))
 f29 := Tryz.func124.trans (congrArg some (by kernel_rfl))
 f46 := ⟨Tryz.f224.name, by decide, Tryz.func224.trans (congrArg some (by kernel_rfl))⟩
 f47 := Tryz.func152.trans (congrArg some (by kernel_rfl))
 f48 := Tryz.func153.trans (congrArg some (by kernel_rfl))
 f49 := ⟨Tryz.f225.name, by decide, Tryz.func225.trans (congrArg some (by kernel_rfl))⟩
 f50 := ⟨Tryz.f226.name, by decide, Tryz.func226.trans (congrArg some (by kernel_rfl))⟩
 f57 := ⟨Tryz.f235.name, by decide, Tryz.func235.trans (congrArg some (by kernel_rfl))⟩
 t0 := Tryz.underlying0
 a0 := Tryz.isAgg0
 z0 := Tryz.sizeOf0
 v0 := Tryz.zeroValue0
 t3 := Tryz.underlying3
 a3 := Tryz.isAgg3
 z3 := Tryz.sizeOf3
 v3 := Tryz.zeroValue3
 t4 := Tryz.underlying4
 a4 := Tryz.isAgg4
 z4 := Tryz.sizeOf4
 v4 := Tryz.zeroValue4
 t5 := Tryz.underlying5
 a5 := Tryz.isAgg5
 z5 := Tryz.sizeOf5
 v5 := Tryz.zeroValue5
 t9 := Tryz.underlying9
 a9 := Tryz.isAgg9
 z9 := Tryz.sizeOf9
 v9 := Tryz.zeroValue9
 t22 := Tryz.underlying28
 a22 := Tryz.isAgg28
 z22 := Tryz.sizeOf28
 v22 := Tryz.zeroValue28
 t25 := Tryz.underlying85
 a25 := Tryz.isAgg85
 z25 := Tryz.sizeOf85
 v25 := Tryz.zeroValue85
 t39 := Tryz.underlying113
 a39 := Tryz.isAgg113
 z39 := Tryz.sizeOf113
 v39 := Tryz.zeroValue113
 t45 := Tryz.underlying139
 a45 := Tryz.isAgg139
 z45 := Tryz.sizeOf139
 v45 := Tryz.zeroValue139
 t46 := Tryz.underlying140
 a46 := Tryz.isAgg140
 z46 := Tryz.sizeOf140
 v46 := Tryz.zeroValue140
 t50 := Tryz.underlying80
 a50 := Tryz.isAgg80
 z50 := Tryz.sizeOf80
 v50 := Tryz.zeroValue80
 t53 := Tryz.underlying146
 a53 := Tryz.isAgg146
 z53 := Tryz.sizeOf146
 v53 := Tryz.zeroValue146
 t55 := Tryz.underlying148
 a55 := Tryz.isAgg148
 z55 := Tryz.sizeOf148
 v55 := Tryz.zeroValue148
 t66 := Tryz.underlying166
 a66 := Tryz.isAgg166
 z66 := Tryz.sizeOf166
 v66 := Tryz.zeroValue166
 t70 := Tryz.underlying170
 a70 := Tryz.isAgg170
 z70 := Tryz.sizeOf170
 v70 := Tryz.zeroValue170
 t76 := Tryz.underlying180
 a76 := Tryz.isAgg180
 z76 := Tryz.sizeOf180
 v76 := Tryz.zeroValue180
 t77 := Tryz.underlying181
 a77 := Tryz.isAgg181
 z77 := Tryz.sizeOf181
 v77 := Tryz.zeroValue181 }
end Go.Proofs.YtaecccdkjmipeaaGreat

namespace Go.Proofs.YtaecccdkjmipeaaGreat
open Go.Shelf
def shc_sortS_ren : Go.Shelf.Ren := ⟨fun | 190 => 207 | 125 => 80 | 258 => 221 | 128 => 123 | 129 => 124 | 302 => 227 | 303 => 228 | 304 => 229 | 305 => 230 | 306 => 231 | 307 => 232 | 308 => 222 | 309 => 233 | 310 => 234 | 333 => 236 | 329 => 152 | 330 => 153 | 334 => 237 | 335 => 238 | 336 => 156 | 344 => 239 | n => n, fun | 31 => 22 | 9 => 9 | 3 => 3 | 46 => 113 | 0 => 0 | 51 => 146 | 53 => 148 | 4 => 4 | 183 => 140 | 182 => 139 | 131 => 80 | 5 => 5 | 218 => 166 | 222 => 170 | 228 => 180 | 229 => 181 | n => n, fun | n => n⟩
theorem shc_sortS : Go.Proofs.Lays.n190 Tryz.prog shc_sortS_ren := {
 mixed := by kernel_rfl
 f125 := Tryz.func80.trans (congrArg some (by kernel_rfl))
 f128 := Tryz.func123.trans (congrArg some (by kernel_rfl))
 f129 := Tryz.func124.trans (congrArg some (by kernel_rfl))
 f190 := Tryz.func207.trans (congrArg some (by kernel_rfl))
 f258 := Tryz.func221.trans (congrArg some (by kernel_rfl))
 f302 := Tryz.func227.trans (congrArg some (by kernel_rfl))
 f303 := Tryz.func228.trans (congrArg some (by kernel_rfl))
 f304 := Tryz.func229.trans (congrArg some (by kernel_rfl))
 f305 := Tryz.func230.trans (congrArg some (by kernel_rfl))
 f306 := Tryz.func231.trans (congrArg some (by kernel_rfl))
 f307 := Tryz.func232.trans (congrArg some (by kernel_rfl))
 f308 := Tryz.func222.trans (congrArg some (by kernel_rfl))
 f309 := Tryz.func233.trans (congrArg some (by kernel_rfl))
 f310 := Tryz.func234.trans (congrArg some (by kernel_rfl))
 f329 := Tryz.func152.trans (congrArg some (by kernel_rfl))
 f330 := Tryz.func153.trans (congrArg some (by kernel_rfl))
 f333 := Tryz.func236.trans (congrArg some (by kernel_rfl))
 f334 := Tryz.func237.trans (congrArg some (by kernel_rfl))
 f335 := Tryz.func238.trans (congrArg some (by kernel_rfl))
 f336 := Tryz.func156.trans (congrArg some (by kernel_rfl))
 f344 := Tryz.func239.trans (congrArg some (by kernel_rfl))
 t0 := Tryz.underlying0
 a0 := Tryz.isAgg0
 z0 := Tryz.sizeOf0
 v0 := Tryz.zeroValue0
 t3 := Tryz.underlying3
 a3 := Tryz.isAgg3
 z3 := Tryz.sizeOf3
 v3 := Tryz.zeroValue3
 t4 := Tryz.underlying4
 a4 := Tryz.isAgg4
 z4 := Tryz.sizeOf4
 v4 := Tryz.zeroValue4
 t5 := Tryz.underlying5
 a5 := Tryz.isAgg5
 z5 := Tryz.sizeOf5
 v5 := Tryz.zeroValue5
 t9 := Tryz.underlying9
 a9 := Tryz.isAgg9
 z9 := Tryz.sizeOf9
 v9 := Tryz.zeroValue9
 t31 := Tryz.underlying22
 a31 := Tryz.isAgg22
 z31 := Tryz.sizeOf22
 v31 := Tryz.zeroValue22
 t46 := Tryz.underlying113
 a46 := Tryz.isAgg113
 z46 := Tryz.sizeOf113
 v46 := Tryz.zeroValue113
 t51 := Tryz.underlying146
 a51 := Tryz.isAgg146
 z51 := Tryz.sizeOf146
 v51 := Tryz.zeroValue146
 t53 := Tryz.underlying148
 a53 := Tryz.isAgg148
 z53 := Tryz.sizeOf148
 v53 := Tryz.zeroValue148
 t131 := Tryz.underlying80
 a131 := Tryz.isAgg80
 z131 := Tryz.sizeOf80
 v131 := Tryz.zeroValue80
 t182 := Tryz.underlying139
 a182 := Tryz.isAgg139
 z182 := Tryz.sizeOf139
 v182 := Tryz.zeroValue139
 t183 := Tryz.underlying140
 a183 := Tryz.isAgg140
 z183 := Tryz.sizeOf140
 v183 := Tryz.zeroValue140
 t218 := Tryz.underlying166
 a218 := Tryz.isAgg166
 z218 := Tryz.sizeOf166
 v218 := Tryz.zeroValue166
 t222 := Tryz.underlying170
 a222 := Tryz.isAgg170
 z222 := Tryz.sizeOf170
 v222 := Tryz.zeroValue170
 t228 := Tryz.underlying180
 a228 := Tryz.isAgg180
 z228 := Tryz.sizeOf180
 v228 := Tryz.zeroValue180
 t229 := Tryz.underlying181
 a229 := Tryz.isAgg181
 z229 := Tryz.sizeOf181
 v229 := Tryz.zeroValue181 }
open Go.Sort Go.RowKit in
open Go.RowKit Go.Sort in
theorem shc_Sort : SortS Tryz.prog 207 := fun blk cap ss w hH hblk hsz => Any.slices_Sort_string shc_sortS blk 0 cap ss w hH hblk hsz
theorem shc_Sort0 : SortS0 Tryz.prog 207 := fun p cap w => Any.slices_Sort_string_none shc_sortS p cap w
end Go.Proofs.YtaecccdkjmipeaaGreat

namespace Go.Proofs.YtaecccdkjmipeaaGreat
end Go.Proofs.YtaecccdkjmipeaaGreat

namespace Go.Proofs.YtaecccdkjmipeaaGreat
open Go.Shelf
def shc_sortVa_ren : Go.Shelf.Ren := ⟨fun | 6 => 49 | 15 => 80 | 14 => 79 | 28 => 123 | 29 => 124 | 20 => 115 | 21 => 116 | 22 => 117 | 23 => 118 | 24 => 119 | 25 => 120 | 26 => 121 | 27 => 122 | 46 => 151 | 47 => 152 | 48 => 153 | 49 => 154 | 50 => 155 | 57 => 174 | n => n, fun | 22 => 27 | 24 => 30 | 25 => 40 | 3 => 3 | 39 => 113 | 0 => 0 | 53 => 146 | 55 => 148 | 4 => 4 | 46 => 140 | 45 => 139 | 50 => 80 | 5 => 5 | 9 => 9 | 66 => 166 | 70 => 170 | 76 => 180 | 77 => 181 | n => n, fun | n => n⟩
theorem shc_sortVa : Go.Proofs.SlLaysF0.n6 Tryz.prog shc_sortVa_ren := {
 mixed := by kernel_rfl
 f6 := ⟨Tryz.f49.name, by decide, Tryz.func49.trans (congrArg some (by kernel_rfl))⟩
 f14 := ⟨Tryz.f79.name, by decide, Tryz.func79.trans (congrArg some (by kernel_rfl))⟩
 f15 := Tryz.func80.trans (congrArg some (by kernel_rfl))
 f20 := ⟨Tryz.f115.name, by decide, Tryz.func115.trans (congrArg some (by kernel_rfl))⟩
 f21 := ⟨Tryz.f116.name, by decide, Tryz.func116.trans (congrArg some (by kernel_rfl))⟩
 f22 := ⟨Tryz.f117.name, by decide, Tryz.func117.trans (congrArg some (by kernel_rfl))⟩
 f23 := ⟨Tryz.f118.name, by decide, Tryz.func118.trans (congrArg some (by kernel_rfl))⟩
 f24 := ⟨Tryz.f119.name, by decide, Tryz.func119.trans (congrArg some (by kernel_rfl))⟩
 f25 := ⟨Tryz.f120.name, by decide, Tryz.func120.trans (congrArg some (by kernel_rfl))⟩
 f26 := ⟨Tryz.f121.name, by decide, Tryz.func121.trans (congrArg some (by kernel_rfl))⟩
 f27 := ⟨Tryz.f122.name, by decide, Tryz.func122.trans (congrArg some (by kernel_rfl))⟩
 f28 := Tryz.func123.trans (congrArg some (by kernel_rfl))
 f29 := Tryz.func124.trans (congrArg some (by kernel_rfl))
 f46 := ⟨Tryz.f151.name, by decide, Tryz.func151.trans (congrArg some (by kernel_rfl))⟩
 f47 := Tryz.func152.trans (congrArg some (by kernel_rfl))
 f48 := Tryz.func153.trans (congrArg some (by kernel_rfl))
 f49 := ⟨Tryz.f154.name, by decide, Tryz.func154.trans (congrArg some (by kernel_rfl))⟩
 f50 := ⟨Tryz.f155.name, by decide, Tryz.func155.trans (congrArg some (by kernel_rfl))⟩
 f57 := ⟨Tryz.f174.name, by decide, Tryz.func174.trans (congrArg some (by kernel_rfl))⟩
 t0 := Tryz.underlying0
 a0 := Tryz.isAgg0
 z0 := Tryz.sizeOf0
 v0 := Tryz.zeroValue0
 t3 := Tryz.underlying3
 a3 := Tryz.isAgg3
 z3 := Tryz.sizeOf3
 v3 := Tryz.zeroValue3
 t4 := Tryz.underlying4
 a4 := Tryz.isAgg4
 z4 := Tryz.sizeOf4
 v4 := Tryz.zeroValue4
 t5 := Tryz.underlying5
 a5 := Tryz.isAgg5
 z5 := Tryz.sizeOf5
 v5 := Tryz.zeroValue5
 t9 := Tryz.underlying9
 a9 := Tryz.isAgg9
 z9 := Tryz.sizeOf9
 v9 := Tryz.zeroValue9
 t22 := Tryz.underlying27
 a22 := Tryz.isAgg27
 z22 := Tryz.sizeOf27
 v22 := Tryz.zeroValue27
 t25 := Tryz.underlying40
 a25 := Tryz.isAgg40
 z25 := Tryz.sizeOf40
 v25 := Tryz.zeroValue40
 t39 := Tryz.underlying113
 a39 := Tryz.isAgg113
 z39 := Tryz.sizeOf113
 v39 := Tryz.zeroValue113
 t45 := Tryz.underlying139
 a45 := Tryz.isAgg139
 z45 := Tryz.sizeOf139
 v45 := Tryz.zeroValue139
 t46 := Tryz.underlying140
 a46 := Tryz.isAgg140
 z46 := Tryz.sizeOf140
 v46 := Tryz.zeroValue140
 t50 := Tryz.underlying80
 a50 := Tryz.isAgg80
 z50 := Tryz.sizeOf80
 v50 := Tryz.zeroValue80
 t53 := Tryz.underlying146
 a53 := Tryz.isAgg146
 z53 := Tryz.sizeOf146
 v53 := Tryz.zeroValue146
 t55 := Tryz.underlying148
 a55 := Tryz.isAgg148
 z55 := Tryz.sizeOf148
 v55 := Tryz.zeroValue148
 t66 := Tryz.underlying166
 a66 := Tryz.isAgg166
 z66 := Tryz.sizeOf166
 v66 := Tryz.zeroValue166
 t70 := Tryz.underlying170
 a70 := Tryz.isAgg170
 z70 := Tryz.sizeOf170
 v70 := Tryz.zeroValue170
 t76 := Tryz.underlying180
 a76 := Tryz.isAgg180
 z76 := Tryz.sizeOf180
 v76 := Tryz.zeroValue180
 t77 := Tryz.underlying181
 a77 := Tryz.isAgg181
 z77 := Tryz.sizeOf181
 v77 := Tryz.zeroValue181 }
end Go.Proofs.YtaecccdkjmipeaaGreat
