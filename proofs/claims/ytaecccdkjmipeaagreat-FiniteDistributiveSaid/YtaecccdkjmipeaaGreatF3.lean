/-
  Contracts: finite.isTable, bottom, violation, Check, usable 
-/
import Derived.Test.YtaecccdkjmipeaaGreatB16
import Derived.Test.YtaecccdkjmipeaaGreatF1
import Derived.Test.YtaecccdkjmipeaaGreatB8
import Derived.Test.YtaecccdkjmipeaaGreatA10
namespace Go.Proofs.YtaecccdkjmipeaaGreat
open Go.RowKit Go.ChangeShapes Go.WideShapes Go.ChangeAt
def QjN (r : List Int) : List AV := [ivs r]
abbrev Xr (T : List (List Int)) : AV := .sl (T.map QjN) none
section
variable {H : Type} {enc : TypeId × Value → H} {w : World} {base : Nat} {spare : Nat → Bool} {held : Bool}
theorem Qvo {fuel : Nat} {v : Value} {x : DataW H × List MemPlace} (h : DataW.trod enc Tryz.prog w base spare held fuel 56 [v] = some x) : ∃ l : List Int, FR w (Qgj w) v (ivs l) :=
 QeM Tryz.underlying56 1 (by kernel_rfl) (by decide) h iv1 (fun _ => rfl) (fun m ds y _ hdl ht => by
  obtain ⟨u0, rfl⟩ : ∃ a, ds = [a] := by
   match ds, hdl with
   | [a], _ => exact ⟨a, rfl⟩
  obtain ⟨p0, hp0, -⟩ := DataW.trod_int Tryz.underlying3 ht
  have hq0 : [u0] = [Value.int .i64 p0] := hp0
  simp only [List.cons.injEq, and_true] at hq0
  subst hq0
  refine ⟨p0, fun i u a hi ha => ?_⟩
  match i, hi, ha with
  | 0, hi, ha => simp at hi; cases ha; subst hi; exact .p _
  | i + 1, hi, _ => simp at hi)
theorem Qs4 {fuel : Nat} {v : Value} {x : DataW H × List MemPlace} (h : DataW.trod enc Tryz.prog w base spare held fuel 44 [v] = some x) : ∃ l : List (List Int), FR w (Qgj w) v (Xr l) :=
 QeM Tryz.underlying44 1 (by kernel_rfl) (by decide) h QjN (fun _ => rfl) (fun m ds y _ hdl ht => by
  obtain ⟨u0, rfl⟩ : ∃ a, ds = [a] := by
   match ds, hdl with
   | [a], _ => exact ⟨a, rfl⟩
  obtain ⟨r, hr⟩ := Qvo ht
  refine ⟨r, fun i u a hi ha => ?_⟩
  match i, hi, ha with
  | 0, hi, ha => simp at hi; cases ha; subst hi; exact hr
  | i + 1, hi, _ => simp at hi)
end
def Wz {α : Type} (n : Nat) (g h : Nat → α) (k : Nat) : List α := (List.range n).map fun i => if i < k then g i else h i
section
variable {α : Type} {n k : Nat} {g h : Nat → α}
theorem XC : (Wz n g h k).length = n := by simp [Wz]
theorem Qdo : Wz n g h 0 = (List.range n).map h := by
 unfold Wz
 exact List.map_congr_left fun i _ => if_neg (Nat.not_lt_zero i)
theorem QdI (hk : n ≤ k) : Wz n g h k = (List.range n).map g := by
 unfold Wz
 exact List.map_congr_left fun i hi => if_pos (by have := List.mem_range.1 hi; omega)
theorem YD {k : Nat} (_ : k < n) : (Wz n g h k).set k (g k) = Wz n g h (k + 1) := by
 refine List.ext_getElem (by simp [Wz]) fun i h1 h2 => ?_
 rw [List.getElem_set]
 simp only [Wz, List.getElem_map, List.getElem_range]
 split
 ·rename_i e; subst e; rw [if_pos (by omega)]
 rename_i e
 by_cases hik : i < k
 ·rw [if_pos hik, if_pos (by omega)]
 rw [if_neg hik, if_neg (by omega)]
theorem Qdv {c : α} : List.replicate n c = (List.range n).map fun _ => c := by
 rw [List.map_const', List.length_range]
end
def Qbx (n : Nat) (f : Nat → Nat → Nat) (i : Nat) : List Int := (List.range n).map fun j => (f i j : Int)
section
variable {n : Nat} {f : Nat → Nat → Nat}
theorem QvF {i : Nat} (hi : i < n) : (XD n f)[i]? = some (Qbx n f i) := by simp [XD, Qbx, hi]
theorem XH {i : Nat} (hi : i < n) : ((XD n f).map QjN)[i]? = some (QjN (Qbx n f i)) := Qq (QvF hi)
theorem Qtc {i j : Nat} (hj : j < n) : (Qbx n f i)[j]? = some (f i j : Int) := by simp [Qbx, hj]
theorem Xj {i j : Nat} (hj : j < n) : ((Qbx n f i).map iv1)[j]? = some (iv1 (f i j)) := Qq (Qtc hj)
end
def QdV (n : Int) (r : List Int) : Bool := decide ((r.length : Int) = n) && r.all fun x => !(decide (x < 0) || decide (x ≥ n))
theorem QaK (T : List (List Int)) : isT T = (!(decide ((T.length : Int) < 1) || decide ((T.length : Int) > 256)) && T.all (QdV T.length)) := by
 have e1 : decide (T.length < 1) = decide ((T.length : Int) < 1) := decide_eq_decide.2 (by omega)
 have e2 : decide (T.length > 256) = decide ((T.length : Int) > 256) := decide_eq_decide.2 (by omega)
 have e3 : ∀ r : List Int, (r.length == T.length) = decide ((r.length : Int) = T.length) := fun r => by
  rw [Bool.eq_iff_iff, beq_iff_eq, decide_eq_true_iff]; omega
 unfold isT QdV
 simp only [e1, e2, e3]
def QvU (r : Nat × Nat × Nat × Nat) : List AV := [i64 r.1, i64 r.2.1, i64 r.2.2.1, i64 r.2.2.2]
def pr2 (e : Nat × Nat) : List AV := [i64 e.1, i64 e.2]
abbrev prs (l : List (Nat × Nat)) : AV := .sl (l.map pr2) none
def QeF (i : Nat) : List AV := [i64 i]
abbrev nvs (l : List Nat) : AV := .sl (l.map QeF) none
end Go.Proofs.YtaecccdkjmipeaaGreat
namespace Go.Proofs.YtaecccdkjmipeaaGreat
set_option maxRecDepth 100000
set_option maxHeartbeats 1000000
open Go.RowKit
theorem QrS {g : FuncId} [Xe Tryz.prog g] {cs : List AV} {q : Int → Bool} (l : List Int) (hc : ∀ y ∈ l, FC Tryz.prog g [i64 y, .el cs] (bl (q y))) : FC Tryz.prog 145 [ivs l, .fn g [.el cs]] (i64 (WD q l 0)) := by
 refine Qd [4] Tryz.func145 rfl rfl 19 Tryz.ntmps145 (Nat.le_of_ble_eq_true rfl) ?_
 intro E hN
 refine JK 0 rfl (fun hl0 => ?_)
 refine JA ?_
 refine Qi (fun x : {k : Nat // k ≤ (l).length ∧ WD q (l.drop k) k = WD q l 0} => ⟨[(0, ivs l), (1, .fn g [.el cs]), (7, i64 l.length), (8, i64 (x.1 : Nat))], [], 0⟩) (fun x => (l).length - x.1) (⟨0, Nat.zero_le _, by simp⟩) ?_ ?_
 ·
  exact Qa rfl (Jg ⟨(QE (by simp)), rfl, (Xu trivial)⟩) trivial
 rintro ⟨k, hk, hg⟩
 dsimp only
 refine QA ?_
 refine zq ?_ ?_ <;> intro h8
 rotate_left
 ·
  have hge : (l).length ≤ k := by simpa using h8
  refine QJ ?_; refine zQ ?_
  exact Q2 (by rw [← hg, List.drop_of_length_le hge]; rfl)
 have hlt : k < (l).length := by simpa using h8
 obtain ⟨x, hx⟩ := Qk hlt
 have hs : WD q l 0 = if q x then (k : Int) else WD q (l.drop (k + 1)) (k + 1) := by rw [← hg, XL hx]; rfl
 refine Wi ?_; refine zP (Qh rfl rfl rfl k rfl _ (Qq hx) rfl) ?_; refine zL ?_
 refine zP (YG (hc x (List.mem_of_getElem? hx)) rfl rfl rfl rfl) ?_; refine zN ?_
 refine zq ?_ ?_ <;> intro h11
 ·
  have h4 := h11
  refine QJ ?_; refine zQ ?_
  exact Q2 (by rw [hs, if_pos (by simp_all)])
 have hn : WD q (l.drop (k + 1)) (k + 1) = WD q l 0 := by rw [hs, if_neg (by simp_all)]
 refine QJ ?_; refine Qb ?_
 exact ⟨⟨k + 1, hlt, hn⟩, Qa rfl (Xl ⟨(QE (by dsimp only; omega)), rfl, trivial⟩) trivial, by dsimp only; omega⟩
theorem QsK {g : FuncId} [Xe Tryz.prog g] {cs : List AV} {q : Int → Bool} (l : List Int) (hc : ∀ y ∈ l, FC Tryz.prog g [i64 y, .el cs] (bl (q y))) : FC Tryz.prog 98 [ivs l, .fn g [.el cs]] (bl (l.any q)) := by
 refine Qd [4] Tryz.func98 rfl rfl 9 Tryz.ntmps98 (Nat.le_of_ble_eq_true rfl) ?_
 intro E hN
 refine XJ ?_; refine zP (Qc (QrS l hc) rfl rfl rfl) ?_; refine QO ?_; refine zQ ?_
 exact Qt (Qho q l 0)
theorem QtC (x n : Int) : FC Tryz.prog 99 [i64 x, .el [i64 n]] (bl (decide (x < 0) || decide (x ≥ n))) := by
 refine Qd [3] Tryz.func99 rfl rfl 11 Tryz.ntmps99 (Nat.le_of_ble_eq_true rfl) ?_
 intro E hN
 refine JU ?_
 refine zc 6 ?_ ?_ <;> intro h2
 ·
  refine QA ?_; refine zQ ?_
  all_goals exact Qt (by simp_all <;> (intro; omega))
 refine QA ?_; refine zQ ?_
 all_goals exact Qt (by simp_all <;> (intro; omega))
theorem cgEl {a b : Int} (h : a = b) : some (AV.el [i64 a]) = some (AV.el [i64 b]) := by rw [h]
theorem QfH (n : Int) (r : List Int) : (r.all fun x => !(decide (x < 0) || decide (x ≥ n))) = !(r.any fun x => decide (x < 0) || decide (x ≥ n)) := by
 induction r with
 | nil => rfl
 | cons a r ih => rw [List.all_cons, List.any_cons, ih, Bool.not_or, Bool.not_or, Bool.not_or]
theorem Qht (T : List (List Int)) : FC Tryz.prog 61 [Xr T] (bl (isT T)) := by
 refine Qd [2] Tryz.func61 rfl rfl 30 Tryz.ntmps61 (Nat.le_of_ble_eq_true rfl) ?_
 intro E hN
 refine JK 0 rfl (fun hl0 => ?_)
 refine Qe3 ?_
 refine zc 10 ?_ ?_ <;> intro h6
 ·
  refine XJ ?_; refine zQ ?_
  all_goals exact Qt (by rw [QaK]; simp_all)
 refine QJ ?_
 refine zq ?_ ?_ <;> intro h8
 ·
  have h2 := h8
  refine QC ?_; refine zQ ?_
  all_goals exact Qt (by rw [QaK]; simp_all)
 have h2 := h8
 refine QC ?_; refine Qu (J2 3 0 rfl rfl rfl rfl) ?_; refine Je ?_
 refine Qi (fun x : {k : Nat // k ≤ (T).length ∧ (T.drop k).all (QdV T.length) = T.all (QdV T.length)} => ⟨[(3, .el [i64 T.length]), (14, Xr T), (15, i64 T.length), (16, i64 (x.1 : Nat))], [], 1⟩) (fun x => (T).length - x.1) (⟨0, Nat.zero_le _, by simp⟩) ?_ ?_
 ·
  exact Qa rfl ⟨(cgEl (by simp)), rfl, rfl, rfl, (QE (by simp)), rfl, (Xu trivial)⟩ trivial
 rintro ⟨k, hk, hg⟩
 dsimp only
 refine QA ?_
 refine zq ?_ ?_ <;> intro h14
 rotate_left
 ·
  have hge : (T).length ≤ k := by simpa using h14
  refine QJ ?_; refine zQ ?_
  all_goals exact Qt (by rw [QaK, X4 hg hge]; simp_all)
 have hlt : k < (T).length := by simpa using h14
 obtain ⟨x, hx⟩ := Qk hlt
 refine QA ?_; refine zP (Qh rfl rfl rfl k rfl _ (Qq hx) rfl) ?_; refine XN ?_
 refine zc 24 ?_ ?_ <;> intro h19
 ·
  refine JU ?_; refine zQ ?_
  all_goals exact Qt (by rw [QaK, Q6 hg hx (by rw [QdV, QfH]; simp_all), Bool.and_false])
 refine KO ?_; refine uP (JI h19) (Qec rfl rfl) ?_; refine uP (JI h19) (Qc (QsK x (fun y _ => QtC y T.length)) rfl rfl rfl) ?_
 refine QO ?_
 refine zq ?_ ?_ <;> intro h21
 ·
  refine QC ?_; refine zQ ?_
  all_goals exact Qt (by rw [QaK, Q6 hg hx (by rw [QdV, QfH]; simp_all), Bool.and_false])
 refine QJ ?_; refine Qb ?_
 exact ⟨⟨k + 1, hlt, XF hg hx (by rw [QdV, QfH]; simp_all)⟩, Qa rfl (Xl ⟨(QE (by dsimp only; omega)), rfl, trivial⟩) trivial, by dsimp only; omega⟩
def Qsz (n : Nat) (f : Nat → Nat → Nat) : AV := .tup [i64 ((bot n f).getD 0 : Nat), bl (bot n f).isSome]
theorem Ql3 (a b : Nat) : ((a : Int) == (b : Int)) = (a == b) := by rw [Bool.eq_iff_iff, beq_iff_eq, beq_iff_eq]; omega
theorem Qfj (a b : Nat) : ((a : Int) != (b : Int)) = (a != b) := by rw [bne, bne, Ql3]
theorem QoR (n : Nat) (f : Nat → Nat → Nat) (h256 : n ≤ 256) (hlt : ∀ i j, i < n → j < n → f i j < n) : FC Tryz.prog 100 [Xr (XD n f)] (Qsz n f) := by
 refine Qd [2, 3] Tryz.func100 rfl rfl 44 Tryz.ntmps100 (Nat.le_of_ble_eq_true rfl) ?_
 intro E hN
 refine Wi ?_
 refine Qi (fun x : {b : Nat // b ≤ n ∧ ff (fun b => if neu f b n then some b else none) n b = bot n f} => ⟨[(0, Xr (XD n f)), (7, Xr (XD n f)), (8, i64 n), (9, i64 (x.1 : Nat))], [], 0⟩) (fun x => n - x.1) (⟨0, Nat.zero_le _, by rfl⟩) ?_ ?_
 ·
  exact Qa rfl (Jg ⟨(QE (by simp [XD])), rfl, (Xu trivial)⟩) trivial
 rintro ⟨b, hb, gb⟩
 dsimp only
 refine QA ?_
 refine zq ?_ ?_ <;> intro h7
 rotate_left
 ·
  have geb : n ≤ b := by simpa using h7
  refine QA ?_; refine zQ ?_
  show AV.tup [i64 0, bl false] = Qsz n f
  have e : bot n f = none := by rw [← gb, Qjs geb]
  rw [Qsz, e]; rfl
 have ltb : b < n := by simpa using h7
 refine Qis ?_
 refine Qi (fun x : {i : Nat // i ≤ n ∧ True} => ⟨[(0, Xr (XD n f)), (7, Xr (XD n f)), (8, i64 n), (9, i64 (b : Nat)), (4, i64 (b : Nat)), (5, bl (neu f b x.1)), (12, Xr (XD n f)), (13, i64 n), (14, i64 (x.1 : Nat))], [], 0⟩) (fun x => n - x.1) (⟨0, Nat.zero_le _, by trivial⟩) ?_ ?_
 ·
  exact Qa rfl (QR (Xl ⟨(QE (by simp [XD])), rfl, (Xu trivial)⟩)) trivial
 rintro ⟨i, hi, gi⟩
 dsimp only
 refine QA ?_
 refine zq ?_ ?_ <;> intro h18
 rotate_left
 ·
  have gei : n ≤ i := by simpa using h18
  obtain rfl : i = n := by omega
  refine QA ?_
  refine zq ?_ ?_ <;> intro h14
  ·
   have h10 := h14
   refine QA ?_; refine zQ ?_
   show AV.tup [i64 b, bl true] = Qsz i f
   have e : bot i f = some b := by rw [← gb, Qa6 ltb, if_pos h10]; rfl
   rw [Qsz, e]; rfl
  have h10 := h14
  refine QJ ?_; refine Qb ?_
  exact ⟨⟨b + 1, ltb, by rw [← gb, Qa6 ltb, if_neg (by simp_all)]; rfl⟩, Qa rfl (Xl ⟨(QE (by dsimp only; omega)), rfl, trivial⟩) trivial, by dsimp only; omega⟩
 have lti : i < n := by simpa using h18
 refine YJ ?_
 refine zc 18 ?_ ?_ <;> intro h14
 rotate_left
 ·
  refine Yd ?_; refine QO ?_; refine Qb ?_
  exact ⟨⟨i + 1, lti, trivial⟩, Qa rfl (QR (Xu ⟨(KG (by rw [QbS]; simp_all [Ql3])), rfl, (Jg ⟨(QE (by dsimp only; omega)), rfl, trivial⟩)⟩)) trivial, by dsimp only; omega⟩
 refine QO ?_; refine uP (X7 h14) (Qh rfl rfl rfl b rfl _ (XH ltb) rfl) ?_; refine QO ?_
 refine uP (X7 h14) (Qh rfl rfl rfl i rfl _ (Xj lti) rfl) ?_; refine QA ?_
 refine zc 29 ?_ ?_ <;> intro h23
 ·
  refine QO ?_; refine uP (X7 h23) (Qh rfl rfl rfl i rfl _ (XH lti) rfl) ?_; refine QO ?_
  refine uP (X7 h23) (Qh rfl rfl rfl b rfl _ (Xj ltb) rfl) ?_; refine JU ?_; refine Qb ?_
  exact ⟨⟨i + 1, lti, trivial⟩, Qa rfl (QR (Xu ⟨(KG (by rw [QbS]; simp_all [Ql3])), rfl, (Jg ⟨(QE (by dsimp only; omega)), rfl, trivial⟩)⟩)) trivial, by dsimp only; omega⟩
 refine Qeo ?_; refine Qb ?_
 exact ⟨⟨i + 1, lti, trivial⟩, Qa rfl (QR (Xu ⟨(KG (by rw [QbS]; simp_all [Ql3])), rfl, (Jg ⟨(QE (by dsimp only; omega)), rfl, trivial⟩)⟩)) trivial, by dsimp only; omega⟩
theorem QuZ {α : Type} {p : Nat → Option α} {n k : Nat} {X : Option α} (hk : k < n) (h : ff p n k = X) (hp : p k = none) : ff p n (k + 1) = X := by rw [← h, Qa6 hk, hp]; rfl
theorem Qu1 {α : Type} {p : Nat → Option α} {n k : Nat} {X : Option α} {y : α} (hk : k < n) (h : ff p n k = X) (hp : p k = some y) : X = some y := by rw [← h, Qa6 hk, hp]; rfl
theorem Qgb {α : Type} {p : Nat → Option α} {n k : Nat} {X : Option α} (hk : n ≤ k) (h : ff p n k = X) : X = none := by rw [← h, Qjs hk]
theorem QiV {α : Type} {p : Nat → Option α} {q : Nat → Option α} {n k a m : Nat} {X : Option α} (hk : k < n) (h : ff p n k = X) (hp : p k = ff q m a) : (ff q m a).or (ff p n (k + 1)) = X := by rw [← h, Qa6 hk, hp]
theorem Qjr {α : Type} {q : Nat → Option α} {m b : Nat} {r X : Option α} (hb : b < m) (h : (ff q m b).or r = X) (hq : q b = none) : (ff q m (b + 1)).or r = X := by rw [← h, Qa6 hb, hq]; rfl
theorem QiD {α : Type} {q : Nat → Option α} {m b : Nat} {r X : Option α} {y : α} (hb : b < m) (h : (ff q m b).or r = X) (hq : q b = some y) : X = some y := by rw [← h, Qa6 hb, hq]; rfl
theorem Qbs {α : Type} {q : Nat → Option α} {m b : Nat} {r X : Option α} (hb : m ≤ b) (h : (ff q m b).or r = X) : r = X := by rw [← h, Qjs hb]; rfl
theorem QuO {n : Nat} {f : Nat → Nat → Nat} {r : Nat × Nat × Nat × Nat} (h : Qiq n f = some r) : vio n f = r := by rw [vio, h]; rfl
theorem QuG {n : Nat} {f : Nat → Nat → Nat} {r : Nat × Nat × Nat × Nat} (h1 : Qiq n f = none) (h : Qhk n f = some r) : vio n f = r := by rw [vio, h1, h]; rfl
theorem QuT {n : Nat} {f : Nat → Nat → Nat} {r : Nat × Nat × Nat × Nat} (h1 : Qiq n f = none) (h2 : Qhk n f = none) (h : Qgf n f = some r) : vio n f = r := by rw [vio, h1, h2, h]; rfl
theorem Qk0 {n : Nat} {f : Nat → Nat → Nat} (h1 : Qiq n f = none) (h2 : Qhk n f = none) (h3 : Qgf n f = none) : vio n f = if bot n f = none then (4, 0, 0, 0) else (0, 0, 0, 0) := by rw [vio, h1, h2, h3]; rfl
theorem Qeq (n : Nat) (f : Nat → Nat → Nat) (h256 : n ≤ 256) (hlt : ∀ i j, i < n → j < n → f i j < n) : FC Tryz.prog 62 [Xr (XD n f)] (.agg (QvU (vio n f))) := by
 refine YV [.c 2 48 4 true] ⟨⟨inferInstance, rfl⟩, trivial⟩ Tryz.func62 rfl rfl 115 Tryz.ntmps62 (Nat.le_of_ble_eq_true rfl) ?_
 intro E hN
 refine JA ?_
 refine Qi (fun x : {a : Nat // a ≤ n ∧ ff (fun a => if f a a = a then none else some (1, a, 0, 0)) n a = Qiq n f} => ⟨[(2, .ptr 0 0), (0, Xr (XD n f)), (12, Xr (XD n f)), (13, i64 n), (14, i64 (x.1 : Nat))], [(0, .var 48 [i64 0, i64 0, i64 0, i64 0])], 1⟩) (fun x => n - x.1) (⟨0, Nat.zero_le _, by rfl⟩) ?_ ?_
 ·
  exact Qa rfl (Xl ⟨(QE (by simp [XD])), rfl, (Xu trivial)⟩) ⟨rfl, rfl, rfl, trivial⟩
 rintro ⟨a, ha, ga⟩
 dsimp only
 refine QA ?_
 refine zq ?_ ?_ <;> intro h9
 ·
  have lta : a < n := by simpa using h9
  refine JA ?_; refine zP (Qh rfl rfl rfl a rfl _ (XH lta) rfl) ?_; refine QO ?_
  refine zP (Qh rfl rfl rfl a rfl _ (Xj lta) rfl) ?_; refine QJ ?_
  refine zq ?_ ?_ <;> intro h14
  ·
   have h4 : f a a ≠ a := by simpa [Qfj] using h14
   refine Je ?_; refine QG ?_
   change (resY _ _).bind AV.fzt = some _
   refine Yj rfl ?_
   rw [QuO (Qu1 lta ga (if_neg h4))]; rfl
  have h4 : f a a = a := by simpa [Qfj] using h14
  refine QJ ?_; refine Qb ?_
  exact ⟨⟨a + 1, lta, QuZ lta ga (if_pos h4)⟩, Qa rfl (QR ⟨(QE (by dsimp only; omega)), rfl, trivial⟩) ⟨rfl, rfl, rfl, trivial⟩, by dsimp only; omega⟩
 have gea : n ≤ a := by simpa using h9
 have e1 := Qgb gea ga
 refine JU ?_
 refine Qi (fun x : {a : Nat // a ≤ n ∧ ff (fun a => ff (Qbo f a) n (a + 1)) n a = Qhk n f} => ⟨[(2, .ptr 0 0), (0, Xr (XD n f)), (30, i64 n), (31, i64 (x.1 : Nat))], [(0, .var 48 [i64 0, i64 0, i64 0, i64 0])], 1⟩) (fun x => n - x.1) (⟨0, Nat.zero_le _, by rfl⟩) ?_ ?_
 ·
  exact Qa rfl (Jg ⟨(QE (by simp [XD])), rfl, (Xu trivial)⟩) ⟨rfl, rfl, rfl, trivial⟩
 rintro ⟨a, ha, ga⟩
 dsimp only
 refine QA ?_
 refine zq ?_ ?_ <;> intro h23
 ·
  have lta : a < n := by simpa using h23
  refine Qeo ?_
  refine Qi (fun x : {b : Nat // a + 1 ≤ b ∧ b ≤ n ∧ (ff (Qbo f a) n b).or (ff (fun a => ff (Qbo f a) n (a + 1)) n (a + 1)) = Qhk n f} => ⟨[(2, .ptr 0 0), (0, Xr (XD n f)), (30, i64 n), (31, i64 (a : Nat)), (4, i64 (a : Nat)), (5, i64 (x.1 : Nat))], [(0, .var 48 [i64 0, i64 0, i64 0, i64 0])], 1⟩) (fun x => n - x.1) (⟨a + 1, Nat.le_refl _, by omega, QiV lta ga rfl⟩) ?_ ?_
  ·
   exact Qa rfl (QR (Xu ⟨(QE (by dsimp only; omega)), rfl, trivial⟩)) ⟨rfl, rfl, rfl, trivial⟩
  rintro ⟨b, hab, hb, gb⟩
  dsimp only
  refine XJ ?_
  refine zq ?_ ?_ <;> intro h32
  rotate_left
  ·
   have geb : n ≤ b := by simpa [XD] using h32
   refine QJ ?_; refine Qb ?_
   exact ⟨⟨a + 1, lta, (Qbs geb gb)⟩, Qa rfl (Xl ⟨(QE (by dsimp only; omega)), rfl, trivial⟩) ⟨rfl, rfl, rfl, trivial⟩, by dsimp only; omega⟩
  have ltb : b < n := by simpa [XD] using h32
  refine QJ ?_; refine Qy 14 (by kernel_rfl) (by kernel_rfl) ?_; refine QO ?_; refine zp (Qh rfl rfl rfl a rfl _ (XH lta) rfl) ?_
  refine QO ?_; refine zp (Qh rfl rfl rfl b rfl _ (Xj ltb) rfl) ?_; refine QC ?_
  refine zp (Qh rfl rfl rfl b rfl _ (XH ltb) rfl) ?_; refine QO ?_; refine zp (Qh rfl rfl rfl a rfl _ (Xj lta) rfl) ?_
  refine zl ?_; change Qz _ _ _ _ _ _; refine QO ?_
  refine zq ?_ ?_ <;> intro h41
  ·
   have h13 : ¬ f a b = f b a := by simpa [Qfj] using h41
   refine Xz ?_; refine QG ?_
   change (resY _ _).bind AV.fzt = some _
   refine Yj rfl ?_
   rw [QuG e1 (QiD ltb gb (by rw [Qbo, if_neg h13]))]; rfl
  have h13 : f a b = f b a := by simpa [Qfj] using h41
  refine QA ?_; refine Qb ?_
  exact ⟨⟨b + 1, by omega, ltb, Qjr ltb gb (by rw [Qbo, if_pos h13])⟩, Qa rfl (QR (Xu ⟨(QE (by dsimp only; omega)), rfl, trivial⟩)) ⟨rfl, rfl, rfl, trivial⟩, by dsimp only; omega⟩
 have gea : n ≤ a := by simpa using h23
 have e2 := Qgb gea ga
 refine JU ?_
 refine Qi (fun x : {a : Nat // a ≤ n ∧ ff (fun a => ff (fun b => ff (Wq f a b) n 0) n 0) n a = Qgf n f} => ⟨[(2, .ptr 0 0), (0, Xr (XD n f)), (61, Xr (XD n f)), (62, i64 n), (63, i64 (x.1 : Nat))], [(0, .var 48 [i64 0, i64 0, i64 0, i64 0])], 1⟩) (fun x => n - x.1) (⟨0, Nat.zero_le _, by rfl⟩) ?_ ?_
 ·
  exact Qa rfl (Xl ⟨(QE (by simp [XD])), rfl, (Xu trivial)⟩) ⟨rfl, rfl, rfl, trivial⟩
 rintro ⟨a, ha, ga⟩
 dsimp only
 refine QA ?_
 refine zq ?_ ?_ <;> intro h52
 rotate_left
 ·
  have gea : n ≤ a := by simpa using h52
  have e3 := Qgb gea ga
  refine QA ?_; refine zP (Qc (QoR n f h256 hlt) rfl rfl rfl) ?_; refine YJ ?_
  refine zq ?_ ?_ <;> intro h100
  ·
   have h31 := h100
   refine QA ?_; refine QG ?_
   change (resY _ _).bind AV.fzt = some _
   refine Yj rfl ?_
   rw [Qk0 e1 e2 e3, if_pos (by simpa using h31)]; rfl
  have h31 := h100
  refine Je ?_; refine QG ?_
  change (resY _ _).bind AV.fzt = some _
  refine Yj rfl ?_
  rw [Qk0 e1 e2 e3, if_neg (by intro e; simp [e] at h31)]; rfl
 have lta : a < n := by simpa using h52
 refine Je ?_; refine zP (Qh rfl rfl rfl a rfl _ (XH lta) rfl) ?_; refine YJ ?_
 refine Qi (fun x : {b : Nat // b ≤ n ∧ (ff (fun b => ff (Wq f a b) n 0) n b).or (ff (fun a => ff (fun b => ff (Wq f a b) n 0) n 0) n (a + 1)) = Qgf n f} => ⟨[(2, .ptr 0 0), (0, Xr (XD n f)), (61, Xr (XD n f)), (62, i64 n), (63, i64 (a : Nat)), (6, i64 (a : Nat)), (7, ivs (Qbx n f a)), (69, i64 n), (70, i64 (x.1 : Nat))], [(0, .var 48 [i64 0, i64 0, i64 0, i64 0])], 1⟩) (fun x => n - x.1) (⟨0, Nat.zero_le _, by exact QiV lta ga rfl⟩) ?_ ?_
 ·
  exact Qa rfl (QR (Xl ⟨(QE (by simp [XD])), rfl, (Xu trivial)⟩)) ⟨rfl, rfl, rfl, trivial⟩
 rintro ⟨b, hb, gb⟩
 dsimp only
 refine QA ?_
 refine zq ?_ ?_ <;> intro h65
 rotate_left
 ·
  have geb : n ≤ b := by simpa using h65
  refine QJ ?_; refine Qb ?_
  exact ⟨⟨a + 1, lta, (Qbs geb gb)⟩, Qa rfl (QR ⟨(QE (by dsimp only; omega)), rfl, trivial⟩) ⟨rfl, rfl, rfl, trivial⟩, by dsimp only; omega⟩
 have ltb : b < n := by simpa using h65
 refine Qeo ?_
 refine Qi (fun x : {c : Nat // c ≤ n ∧ (ff (Wq f a b) n c).or ((ff (fun b => ff (Wq f a b) n 0) n (b + 1)).or (ff (fun a => ff (fun b => ff (Wq f a b) n 0) n 0) n (a + 1))) = Qgf n f} => ⟨[(2, .ptr 0 0), (0, Xr (XD n f)), (61, Xr (XD n f)), (62, i64 n), (63, i64 (a : Nat)), (6, i64 (a : Nat)), (7, ivs (Qbx n f a)), (69, i64 n), (70, i64 (b : Nat)), (8, i64 (b : Nat)), (74, i64 n), (75, i64 (x.1 : Nat))], [(0, .var 48 [i64 0, i64 0, i64 0, i64 0])], 1⟩) (fun x => n - x.1) (⟨0, Nat.zero_le _, by rw [← Option.or_assoc]; rw [Qa6 ltb] at gb; exact gb⟩) ?_ ?_
 ·
  exact Qa rfl (QR (QR (Jg ⟨(QE (by simp [XD])), rfl, (Xu trivial)⟩))) ⟨rfl, rfl, rfl, trivial⟩
 rintro ⟨c, hc, gc⟩
 dsimp only
 refine QA ?_
 refine zq ?_ ?_ <;> intro h79
 rotate_left
 ·
  have gec : n ≤ c := by simpa using h79
  refine QJ ?_; refine Qb ?_
  exact ⟨⟨b + 1, ltb, (Qbs gec gc)⟩, Qa rfl (QR (QR ⟨(QE (by dsimp only; omega)), rfl, trivial⟩)) ⟨rfl, rfl, rfl, trivial⟩, by dsimp only; omega⟩
 have ltc : c < n := by simpa using h79
 refine JU ?_; refine Qy 20 (by kernel_rfl) (by kernel_rfl) ?_; refine QC ?_; refine zp (Qh rfl rfl rfl b rfl _ (Xj ltb) rfl) ?_
 refine zl ?_; refine zp (Qh rfl rfl rfl (f a b) rfl _ (XH (hlt a b lta ltb)) rfl) ?_; refine QO ?_
 refine zp (Qh rfl rfl rfl c rfl _ (Xj ltc) rfl) ?_; refine QJ ?_; refine zp (Qh rfl rfl rfl b rfl _ (XH ltb) rfl) ?_
 refine QO ?_; refine zp (Qh rfl rfl rfl c rfl _ (Xj ltc) rfl) ?_; refine zl ?_
 refine zp (Qh rfl rfl rfl (f b c) rfl _ (Xj (hlt b c ltb ltc)) rfl) ?_; refine zl ?_; change Qz _ _ _ _ _ _; refine QO ?_
 refine zq ?_ ?_ <;> intro h92
 ·
  have h25 : ¬ f (f a b) c = f a (f b c) := by simpa [Qfj] using h92
  refine XJ ?_; refine QG ?_
  change (resY _ _).bind AV.fzt = some _
  refine Yj rfl ?_
  rw [QuT e1 e2 (QiD ltc gc (by rw [Wq, if_neg h25]))]; rfl
 have h25 : f (f a b) c = f a (f b c) := by simpa [Qfj] using h92
 refine QJ ?_; refine Qb ?_
 exact ⟨⟨c + 1, ltc, Qjr ltc gc (by rw [Wq, if_pos h25])⟩, Qa rfl (QR (QR (Xl ⟨(QE (by dsimp only; omega)), rfl, trivial⟩))) ⟨rfl, rfl, rfl, trivial⟩, by dsimp only; omega⟩
end Go.Proofs.YtaecccdkjmipeaaGreat
