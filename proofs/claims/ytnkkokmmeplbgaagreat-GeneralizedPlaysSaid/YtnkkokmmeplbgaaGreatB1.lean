/-
  Contracts: names.
-/
import Derived.Lib.Small
import Derived.Shelf.Small.Strs
import Derived.Test.YtnkkokmmeplbgaaGreatRows
import Derived.Shelf.SlSortCmp.WholeK
import Derived.Ground.SlsfProg
import Derived.Shelf.Sort.Plain
import Derived.Shelf.Slices.In.SortNone
import Derived.Test.YtnkkokmmeplbgaaGreatA4
import Derived.Test.YtnkkokmmeplbgaaGreatTAB
namespace Go.Proofs.YtnkkokmmeplbgaaGreat
open Go.Shelf
def Qtz : Go.Shelf.Ren := ⟨fun | 213 => 223 | 265 => 236 | n => n, fun | 9 => 9 | 3 => 3 | n => n, fun | n => n⟩
theorem QlG : Go.Proofs.Lays.n213 Tryz.prog Qtz := {
 mixed := by kernel_rfl
 f213 := Tryz.func223.trans (congrArg some (by kernel_rfl))
 f265 := Tryz.func236.trans (congrArg some (by kernel_rfl))
 t3 := Tryz.underlying3
 a3 := Tryz.isAgg3
 z3 := Tryz.sizeOf3
 v3 := Tryz.zeroValue3
 t9 := Tryz.underlying9
 a9 := Tryz.isAgg9
 z9 := Tryz.sizeOf9
 v9 := Tryz.zeroValue9 }
open Go.RowKit in
theorem QeG (a b : ByteArray) (w : World) :
  Calls Tryz.prog 223 #[.string a, .string b] w fun e w' => e = .returned (.int .i64 (Lib.compareBytes a.data.toList b.data.toList)) ∧ w' = w := Any.bytealg_CompareString QlG a b w
open Go.Shelf
def QgP : Go.Shelf.Ren := ⟨fun | 6 => 220 | 15 => 235 | 14 => 234 | 28 => 251 | 29 => 252 | 20 => 243 | 21 => 244 | 22 => 245 | 23 => 246 | 24 => 247 | 25 => 248 | 26 => 249 | 27 => 250 | 46 => 256 | 47 => 257 | 48 => 258 | 49 => 259 | 50 => 260 | 57 => 269 | n => n, fun | 22 => 28 | 24 => 149 | 25 => 157 | 3 => 3 | 39 => 235 | 0 => 0 | 53 => 253 | 55 => 255 | 4 => 4 | 46 => 247 | 45 => 246 | 50 => 240 | 5 => 5 | 9 => 9 | 66 => 258 | 70 => 262 | 76 => 269 | 77 => 270 | n => n, fun | n => n⟩
theorem QmN : Go.Proofs.SlLaysF0.n6 Tryz.prog QgP := {
 mixed := by kernel_rfl
 f6 := ⟨Tryz.f220.name, by decide, Tryz.func220.trans (congrArg some (by kernel_rfl))⟩
 f14 := ⟨Tryz.f234.name, by decide, Tryz.func234.trans (congrArg some (by kernel_rfl))⟩
 f15 := Tryz.func235.trans (congrArg some (by kernel_rfl))
 f20 := ⟨Tryz.f243.name, by decide, Tryz.func243.trans (congrArg some (by kernel_rfl))⟩
 f21 := ⟨Tryz.f244.name, by decide, Tryz.func244.trans (congrArg some (by kernel_rfl))⟩
 f22 := ⟨Tryz.f245.name, by decide, Tryz.func245.trans (congrArg some (by kernel_rfl))⟩
 f23 := ⟨Tryz.f246.name, by decide, Tryz.func246.trans (congrArg some (by kernel_rfl))⟩
 f24 := ⟨Tryz.f247.name, by decide, Tryz.func247.trans (congrArg some (by kernel_rfl))⟩
 f25 := ⟨Tryz.f248.name, by decide, Tryz.func248.trans (congrArg some (by kernel_rfl))⟩
 f26 := ⟨Tryz.f249.name, by decide, Tryz.func249.trans (congrArg some (by kernel_rfl))⟩
 f27 := ⟨Tryz.f250.name, by decide, Tryz.func250.trans (congrArg some (by kernel_rfl))⟩
 f28 := Tryz.func251.trans (congrArg some (by kernel_rfl))
 f29 := Tryz.func252.trans (congrArg some (by kernel_rfl))
 f46 := ⟨Tryz.f256.name, by decide, Tryz.func256.trans (congrArg some (by kernel_rfl))⟩
 f47 := Tryz.func257.trans (congrArg some (by kernel_rfl))
 f48 := Tryz.func258.trans (congrArg some (by kernel_rfl))
 f49 := ⟨Tryz.f259.name, by decide, Tryz.func259.trans (congrArg some (by kernel_rfl))⟩
 f50 := ⟨Tryz.f260.name, by decide, Tryz.func260.trans (congrArg some (by kernel_rfl))⟩
 f57 := ⟨Tryz.f269.name, by decide, Tryz.func269.trans (congrArg some (by kernel_rfl))⟩
 t0 := Tryz.underlying0
 a0 := Tryz.isAgg0
 z0 := Tryz.sizeOf0
 v0 := Tryz.zeroValue0
 t3 := Tryz.underlying3
 a3 := Tryz.isAgg3
 z3 := Tryz.sizeOf3
 v3 := Tryz.zeroValue3
 t4 := Tryz.underlying4
 a4 := Tryz.isAgg4
 z4 := Tryz.sizeOf4
 v4 := Tryz.zeroValue4
 t5 := Tryz.underlying5
 a5 := Tryz.isAgg5
 z5 := Tryz.sizeOf5
 v5 := Tryz.zeroValue5
 t9 := Tryz.underlying9
 a9 := Tryz.isAgg9
 z9 := Tryz.sizeOf9
 v9 := Tryz.zeroValue9
 t22 := Tryz.underlying28
 a22 := Tryz.isAgg28
 z22 := Tryz.sizeOf28
 v22 := Tryz.zeroValue28
 t25 := Tryz.underlying157
 a25 := Tryz.isAgg157
 z25 := Tryz.sizeOf157
 v25 := Tryz.zeroValue157
 t39 := Tryz.underlying235
 a39 := Tryz.isAgg235
 z39 := Tryz.sizeOf235
 v39 := Tryz.zeroValue235
 t45 := Tryz.underlying246
 a45 := Tryz.isAgg246
 z45 := Tryz.sizeOf246
 v45 := Tryz.zeroValue246
 t46 := Tryz.underlying247
 a46 := Tryz.isAgg247
 z46 := Tryz.sizeOf247
 v46 := Tryz.zeroValue247
 t50 := Tryz.underlying240
 a50 := Tryz.isAgg240
 z50 := Tryz.sizeOf240
 v50 := Tryz.zeroValue240
 t53 := Tryz.underlying253
 a53 := Tryz.isAgg253
 z53 := Tryz.sizeOf253
 v53 := Tryz.zeroValue253
 t55 := Tryz.underlying255
 a55 := Tryz.isAgg255
 z55 := Tryz.sizeOf255
 v55 := Tryz.zeroValue255
 t66 := Tryz.underlying258
 a66 := Tryz.isAgg258
 z66 := Tryz.sizeOf258
 v66 := Tryz.zeroValue258
 t70 := Tryz.underlying262
 a70 := Tryz.isAgg262
 z70 := Tryz.sizeOf262
 v70 := Tryz.zeroValue262
 t76 := Tryz.underlying269
 a76 := Tryz.isAgg269
 z76 := Tryz.sizeOf269
 v76 := Tryz.zeroValue269
 t77 := Tryz.underlying270
 a77 := Tryz.isAgg270
 z77 := Tryz.sizeOf270
 v77 := Tryz.zeroValue270 }
open Go.Shelf
def QhT : Go.Shelf.Ren := ⟨fun | 190 => 239 | 125 => 235 | 258 => 253 | 128 => 251 | 129 => 252 | 302 => 261 | 303 => 262 | 304 => 263 | 305 => 264 | 306 => 265 | 307 => 266 | 308 => 254 | 309 => 267 | 310 => 268 | 333 => 270 | 329 => 257 | 330 => 258 | 334 => 271 | 335 => 272 | 336 => 228 | 344 => 273 | n => n, fun | 31 => 22 | 9 => 9 | 3 => 3 | 46 => 235 | 0 => 0 | 51 => 253 | 53 => 255 | 4 => 4 | 183 => 247 | 182 => 246 | 131 => 240 | 5 => 5 | 218 => 258 | 222 => 262 | 228 => 269 | 229 => 270 | n => n, fun | n => n⟩
theorem Qh2 : Go.Proofs.Lays.n190 Tryz.prog QhT := {
 mixed := by kernel_rfl
 f125 := Tryz.func235.trans (congrArg some (by kernel_rfl))
 f128 := Tryz.func251.trans (congrArg some (by kernel_rfl))
 f129 := Tryz.func252.trans (congrArg some (by kernel_rfl))
 f190 := Tryz.func239.trans (congrArg some (by kernel_rfl))
 f258 := Tryz.func253.trans (congrArg some (by kernel_rfl))
 f302 := Tryz.func261.trans (congrArg some (by kernel_rfl))
 f303 := Tryz.func262.trans (congrArg some (by kernel_rfl))
 f304 := Tryz.func263.trans (congrArg some (by kernel_rfl))
 f305 := Tryz.func264.trans (congrArg some (by kernel_rfl))
 f306 := Tryz.func265.trans (congrArg some (by kernel_rfl))
 f307 := Tryz.func266.trans (congrArg some (by kernel_rfl))
 f308 := Tryz.func254.trans (congrArg some (by kernel_rfl))
 f309 := Tryz.func267.trans (congrArg some (by kernel_rfl))
 f310 := Tryz.func268.trans (congrArg some (by kernel_rfl))
 f329 := Tryz.func257.trans (congrArg some (by kernel_rfl))
 f330 := Tryz.func258.trans (congrArg some (by kernel_rfl))
 f333 := Tryz.func270.trans (congrArg some (by kernel_rfl))
 f334 := Tryz.func271.trans (congrArg some (by kernel_rfl))
 f335 := Tryz.func272.trans (congrArg some (by kernel_rfl))
 f336 := Tryz.func228.trans (congrArg some (by kernel_rfl))
 f344 := Tryz.func273.trans (congrArg some (by kernel_rfl))
 t0 := Tryz.underlying0
 a0 := Tryz.isAgg0
 z0 := Tryz.sizeOf0
 v0 := Tryz.zeroValue0
 t3 := Tryz.underlying3
 a3 := Tryz.isAgg3
 z3 := Tryz.sizeOf3
 v3 := Tryz.zeroValue3
 t4 := Tryz.underlying4
 a4 := Tryz.isAgg4
 z4 := Tryz.sizeOf4
 v4 := Tryz.zeroValue4
 t5 := Tryz.underlying5
 a5 := Tryz.isAgg5
 z5 := Tryz.sizeOf5
 v5 := Tryz.zeroValue5
 t9 := Tryz.underlying9
 a9 := Tryz.isAgg9
 z9 := Tryz.sizeOf9
 v9 := Tryz.zeroValue9
 t31 := Tryz.underlying22
 a31 := Tryz.isAgg22
 z31 := Tryz.sizeOf22
 v31 := Tryz.zeroValue22
 t46 := Tryz.underlying235
 a46 := Tryz.isAgg235
 z46 := Tryz.sizeOf235
 v46 := Tryz.zeroValue235
 t51 := Tryz.underlying253
 a51 := Tryz.isAgg253
 z51 := Tryz.sizeOf253
 v51 := Tryz.zeroValue253
 t53 := Tryz.underlying255
 a53 := Tryz.isAgg255
 z53 := Tryz.sizeOf255
 v53 := Tryz.zeroValue255
 t131 := Tryz.underlying240
 a131 := Tryz.isAgg240
 z131 := Tryz.sizeOf240
 v131 := Tryz.zeroValue240
 t182 := Tryz.underlying246
 a182 := Tryz.isAgg246
 z182 := Tryz.sizeOf246
 v182 := Tryz.zeroValue246
 t183 := Tryz.underlying247
 a183 := Tryz.isAgg247
 z183 := Tryz.sizeOf247
 v183 := Tryz.zeroValue247
 t218 := Tryz.underlying258
 a218 := Tryz.isAgg258
 z218 := Tryz.sizeOf258
 v218 := Tryz.zeroValue258
 t222 := Tryz.underlying262
 a222 := Tryz.isAgg262
 z222 := Tryz.sizeOf262
 v222 := Tryz.zeroValue262
 t228 := Tryz.underlying269
 a228 := Tryz.isAgg269
 z228 := Tryz.sizeOf269
 v228 := Tryz.zeroValue269
 t229 := Tryz.underlying270
 a229 := Tryz.isAgg270
 z229 := Tryz.sizeOf270
 v229 := Tryz.zeroValue270 }
open Go.Sort Go.RowKit in
open Go.RowKit Go.Sort in
theorem Qr8 : Qri Tryz.prog 239 := fun blk cap ss w hH hblk hsz => Any.slices_Sort_string Qh2 blk 0 cap ss w hH hblk hsz
theorem QoT : QlT Tryz.prog 239 := fun p cap w => Any.slices_Sort_string_none Qh2 p cap w
open Go.Shelf
end Go.Proofs.YtnkkokmmeplbgaaGreat
namespace Go.Proofs.YtnkkokmmeplbgaaGreat
set_option maxRecDepth 100000
set_option maxHeartbeats 1000000
open Go.RowKit
def X7 (c : Int) : Bool := (decide (97 ≤ c) && decide (c ≤ 122)) || (decide (48 ≤ c) && decide (c ≤ 57)) || c == 45
def QnT : Nm → Bool
 | c :: _ => decide (97 ≤ (c.toNat : Int)) && decide ((c.toNat : Int) ≤ 122)
 | [] => false
def XP (s : Nm) : Bool := decide (s.length ≤ 16) && QnT s && s.all fun c => X7 c.toNat
def Qt : List Nm → Bool
 | a :: b :: r => Op.bytesLess a b && Qt (b :: r)
 | _ => true
theorem QkK (c : Int) : FC Tryz.prog 202 [.p (.int .u8 c)] (bl (X7 c)) := by
 refine Qh [2] Tryz.func202 rfl rfl 21 Tryz.ntmps202 (Nat.le_of_ble_eq_true rfl) ?_
 intro E hN;refine X3 ?_
 refine zc 5 ?_ ?_ <;> intro h2
 rotate_left
 ·refine Xg ?_
  refine zc 12 ?_ ?_ <;> intro h8
  ·refine Qy ?_
   refine zc 17 ?_ ?_ <;> intro h9
   ·refine QC ?_;refine zQ ?_
    simp [X7, *]
   refine QC ?_;refine zQ ?_
   simp [X7, *]
  refine X3 ?_;refine zQ ?_
  simp [X7, *]
 refine QC ?_
 refine zc 9 ?_ ?_ <;> intro h3
 ·refine Jx ?_;refine zQ ?_
  simp [X7, *]
 refine QD ?_
 refine zc 12 ?_ ?_ <;> intro h4
 ·refine QH ?_;refine uP (X0 h3) (XF rfl rfl h4 rfl) ?_;refine QH ?_
  refine zc 17 ?_ ?_ <;> intro h5
  ·refine QC ?_;refine zQ ?_
   simp [X7, *]
  refine QC ?_;refine zQ ?_
  simp [X7, *]
 refine QH ?_;refine uP (X0 h3) (Xx rfl rfl h4 rfl) ?_;refine Xk ?_;refine zQ ?_
 simp [X7, *]
theorem QeK (s : Nm) : FC Tryz.prog 171 [sv s] (bl (XP s)) := by
 refine Qh [2] Tryz.func171 rfl rfl 33 Tryz.ntmps171 (Nat.le_of_ble_eq_true rfl) ?_
 intro E hN;refine Xn ?_
 refine zc 7 ?_ ?_ <;> intro h3
 ·refine Qes ?_;refine zQ ?_;exact Qo (by first | (simp_all [XP]; done) | (simp_all [XP]; intros; omega) | (have e : s = [] := (by simp_all); subst e; rfl))
 obtain ⟨c0, hc0, hh⟩ : ∃ c, s[0]? = some c ∧ QnT s = (decide (97 ≤ (c.toNat : Int)) && decide ((c.toNat : Int) ≤ 122)) := by
  cases s with
  | nil => simp at h3
  | cons c r => exact ⟨c, rfl, rfl⟩
 refine Qy ?_
 refine zc 12 ?_ ?_ <;> intro h5
 ·refine YI ?_;refine zQ ?_;exact Qo (by first | (simp_all [XP]; done) | (simp_all [XP]; intros; omega) | (have e : s = [] := (by simp_all); subst e; rfl))
 have h16 : (s.length : Int) ≤ 16 := by simpa using h5
 refine JB ?_;refine uP (X0 h5) (Ku rfl rfl rfl 0 rfl _ hc0) ?_;refine QD ?_
 refine zc 17 ?_ ?_ <;> intro h7
 ·refine X3 ?_;refine zQ ?_;exact Qo (by first | (simp_all [XP]; done) | (simp_all [XP]; intros; omega) | (have e : s = [] := (by simp_all); subst e; rfl))
 refine JB ?_;refine uP (X0 h7) (Ku rfl rfl rfl 0 rfl _ hc0) ?_;refine QD ?_
 refine zq ?_ ?_ <;> intro h9
 ·refine QD ?_;refine zQ ?_;exact Qo (by first | (simp_all [XP]; done) | (simp_all [XP]; intros; omega) | (have e : s = [] := (by simp_all); subst e; rfl))
 refine X3 ?_;refine Qm (fun x : {k : Nat // k ≤ (s).length ∧ (s.drop k).all (fun c => X7 c.toNat) = s.all (fun c => X7 c.toNat)} => ⟨[(0, sv s), (23, i64 s.length), (24, i64 (x.1 : Nat))], [], 0⟩) (fun x => (s).length - x.1) (⟨0, Nat.zero_le _, by simp⟩) ?_ ?_
 ·exact Qa rfl (JZ trivial) trivial
 rintro ⟨k, hk, hg⟩;dsimp only;refine Qy ?_
 refine zq ?_ ?_ <;> intro h13
 rotate_left
 ·have hge : (s).length ≤ k := by simpa using h13
  refine QC ?_;refine zQ ?_;exact Qo (by rw [XP, X4 hg hge, hh]; simp_all; omega)
 have hlt : k < (s).length := by simpa using h13
 obtain ⟨x, hx⟩ := Qq hlt;refine Jx ?_;refine zP (Ku rfl rfl rfl _ rfl _ (by assumption)) ?_;refine zP (Qd (QkK _) rfl rfl rfl) ?_;refine QH ?_
 refine zq ?_ ?_ <;> intro h15
 ·refine QD ?_;refine zQ ?_;exact Qo (by rw [XP, Q6 hg hx (by simp_all)]; simp)
 refine QC ?_;refine Qb ?_;exact ⟨⟨k + 1, hlt, XG hg hx (by simp_all)⟩, Qa rfl (Yf ⟨X5, rfl, trivial⟩) trivial, by dsimp only; omega⟩
theorem Qdu {l : List Nm} {k : Nat} {a b : Nm} (hk : 1 ≤ k) (hg : Qt (l.drop (k - 1)) = Qt l) (ha : l[k - 1]? = some a) (hb : l[k]? = some b) : Qt l = (Op.bytesLess a b && Qt (l.drop k)) := by
 rw [← hg, XC ha, show k - 1 + 1 = k by omega, XC hb]; rfl
theorem Qeh {l : List Nm} {k : Nat} (hg : Qt (l.drop (k - 1)) = Qt l) (h : l.length ≤ k) : Qt l = true := by
 rw [← hg]
 have : (l.drop (k - 1)).length ≤ 1 := by simp; omega
 match h2 : l.drop (k - 1), this with
 | [], _ => rfl
 | [_], _ => rfl
 | _ :: _ :: _, h => simp at h
def Xu (s : Nm) : List Nm → Nat → Int
 | [], _ => -1
 | x :: l, i => if s == x then (i : Int) else Xu s l (i + 1)
def X6 (l : List Nm) (s : Nm) : Bool := l.any (s == ·)
theorem Qds (s : Nm) : ∀ (l : List Nm) (i : Nat), decide (Xu s l i ≥ 0) = X6 l s
 | [], i => by simp [Xu, X6]
 | x :: l, i => by
  unfold Xu X6
  by_cases h : (s == x) = true
  ·rw [if_pos h, List.any_cons, h]; simp
  rw [if_neg h, List.any_cons, Qds s l (i + 1)]; simp [X6, h]
def J6 (a b : List Nm) : Bool := a.all (X6 b)
theorem Qa2 (l : List Nm) : FC Tryz.prog 170 [XS l] (bl (Qt l)) := by
 refine Qh [2] Tryz.func170 rfl rfl 20 Tryz.ntmps170 (Nat.le_of_ble_eq_true rfl) ?_
 intro E hN;refine Jq 0 rfl (fun hl0 => ?_);refine Xs ?_;refine Qm (fun x : {k : Nat // 1 ≤ k ∧ Qt (l.drop (k - 1)) = Qt l} => ⟨[(0, XS l), (3, i64 (x.1 : Nat))], [], 0⟩) (fun x => l.length - x.1) (⟨1, Nat.le_refl _, rfl⟩) ?_ ?_
 ·exact Qa rfl (Yf trivial) trivial
 ·rintro ⟨k, hk, hg⟩
  dsimp only;refine Xo ?_
  refine zq ?_ ?_ <;> intro h4
  rotate_left
  ·have hge : l.length ≤ k := by simpa using h4
   refine QC ?_;refine zQ ?_;exact Qo (Qeh hg hge).symm
  ·have hlt : k < l.length := by simpa using h4
   obtain ⟨x, hx⟩ := Qq hlt;obtain ⟨y, hy⟩ := Qq (show k - 1 < l.length by omega)
   have hs := Qdu hk hg hy hx
   refine QC ?_;refine zD 9 ?_;refine QH ?_;refine zp (Kb rfl rfl rfl (by omega)) ?_;refine zp (Qf rfl rfl rfl (k - 1) (by omega) _ (Qi hy) rfl) ?_;refine QD ?_;refine zp (Qf rfl rfl rfl k rfl _ (Qi hx) rfl) ?_;refine QD ?_
   refine zq ?_ ?_ <;> intro h10
   ·refine QD ?_;refine zQ ?_;exact Qo (by rw [hs]; simp_all)
   ·have hn : Qt (l.drop (k + 1 - 1)) = Qt l := by
     rw [hs, Nat.add_sub_cancel]; simp_all
    refine Qy ?_;refine Qb ?_
    
    exact ⟨⟨k + 1, by omega, hn⟩, Qa rfl (XE ⟨X5, rfl, trivial⟩) trivial, by dsimp only; omega⟩
theorem Qel (l : List Nm) (s : Nm) : FC Tryz.prog 163 [XS l, sv s] (i64 (Xu s l 0)) := by
 refine Qh [4] Tryz.func163 rfl rfl 19 Tryz.ntmps163 (Nat.le_of_ble_eq_true rfl) ?_
 intro E hN;refine Jq 0 rfl (fun hl0 => ?_);refine Jx ?_;refine Qm (fun x : {k : Nat // k ≤ (l).length ∧ Xu s (l.drop k) k = Xu s l 0} => ⟨[(0, XS l), (1, sv s), (7, i64 l.length), (8, i64 (x.1 : Nat))], [], 0⟩) (fun x => (l).length - x.1) (⟨0, Nat.zero_le _, by simp⟩) ?_ ?_
 ·exact Qa rfl (Yf ⟨(Y6 (by simp)), rfl, (XE trivial)⟩) trivial
 rintro ⟨k, hk, hg⟩;dsimp only;refine Qy ?_
 refine zq ?_ ?_ <;> intro h6
 rotate_left
 ·have hge : (l).length ≤ k := by simpa using h6
  refine QC ?_;refine zQ ?_;exact QZ (by rw [← hg, List.drop_of_length_le hge]; rfl)
 have hlt : k < (l).length := by simpa using h6
 obtain ⟨x, hx⟩ := Qq hlt
 have hs : Xu s l 0 = if s == x then (k : Int) else Xu s (l.drop (k + 1)) (k + 1) := by rw [← hg, XC hx]; rfl
 refine WV ?_;refine zP (Qf rfl rfl rfl k rfl _ (Qi hx) rfl) ?_;refine QD ?_
 refine zq ?_ ?_ <;> intro h9
 ·refine QC ?_;refine zQ ?_;exact QZ (by rw [hs, if_pos (by simp_all)])
 have hn : Xu s (l.drop (k + 1)) (k + 1) = Xu s l 0 := by rw [hs, if_neg (by simp_all)]
 refine QC ?_;refine Qb ?_;exact ⟨⟨k + 1, hlt, hn⟩, Qa rfl (JZ ⟨X5, rfl, trivial⟩) trivial, by dsimp only; omega⟩
theorem QfN (l : List Nm) (s : Nm) : FC Tryz.prog 192 [XS l, sv s] (bl (X6 l s)) := by
 refine Qh [4] Tryz.func192 rfl rfl 9 Tryz.ntmps192 (Nat.le_of_ble_eq_true rfl) ?_
 intro E hN;refine Xo ?_;refine zP (Qd (Qel l s) rfl rfl rfl) ?_;refine QH ?_;refine zQ ?_;exact Qo (Qds s l 0)
theorem Qjb (l : List Nm) (s : Nm) : FC Tryz.prog 172 [XS l, sv s] (bl (X6 l s)) := by
 refine Qh [4] Tryz.func172 rfl rfl 8 Tryz.ntmps172 (Nat.le_of_ble_eq_true rfl) ?_
 intro E hN;refine Xo ?_;refine zP (Qd (QfN l s) rfl rfl rfl) ?_;refine zS ?_;refine zQ ?_
 rfl
theorem Qdm (a b : List Nm) : FC Tryz.prog 162 [XS a, XS b] (bl (J6 a b)) := by
 refine Qh [4] Tryz.func162 rfl rfl 18 Tryz.ntmps162 (Nat.le_of_ble_eq_true rfl) ?_
 intro E hN;refine Jq 0 rfl (fun hl0 => ?_);refine Jx ?_;refine Qm (fun x : {k : Nat // k ≤ (a).length ∧ (a.drop k).all (X6 b) = a.all (X6 b)} => ⟨[(1, XS b), (7, XS a), (8, i64 a.length), (9, i64 (x.1 : Nat))], [], 0⟩) (fun x => (a).length - x.1) (⟨0, Nat.zero_le _, by simp⟩) ?_ ?_
 ·exact Qa rfl (Yf ⟨(Y6 (by simp)), rfl, (XE trivial)⟩) trivial
 rintro ⟨k, hk, hg⟩;dsimp only;refine Qy ?_
 refine zq ?_ ?_ <;> intro h7
 rotate_left
 ·have hge : (a).length ≤ k := by simpa using h7
  refine QC ?_;refine zQ ?_;exact Qo (X4 hg hge).symm
 have hlt : k < (a).length := by simpa using h7
 obtain ⟨x, hx⟩ := Qq hlt;refine Qy ?_;refine zP (Qf rfl rfl rfl k rfl _ (Qi hx) rfl) ?_;refine Xg ?_;refine zP (Qd (Qjb b _) rfl rfl rfl) ?_;refine QH ?_
 refine zq ?_ ?_ <;> intro h10
 ·refine QD ?_;refine zQ ?_;exact Qo (Q6 hg hx (by simp_all)).symm
 refine QC ?_;refine Qb ?_;exact ⟨⟨k + 1, hlt, XG hg hx (by simp_all)⟩, Qa rfl (JZ ⟨X5, rfl, trivial⟩) trivial, by dsimp only; omega⟩
end Go.Proofs.YtnkkokmmeplbgaaGreat
