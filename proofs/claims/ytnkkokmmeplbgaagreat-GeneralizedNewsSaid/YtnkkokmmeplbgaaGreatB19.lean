/-
  Plain laws: the chain of rules that close a set of names, by
-/
import Derived.Test.YtnkkokmmeplbgaaGreatB11
import Derived.Test.YtnkkokmmeplbgaaGreatB10
import Derived.Test.YtnkkokmmeplbgaaGreatA7
namespace Go.Proofs.YtnkkokmmeplbgaaGreat
set_option maxRecDepth 100000
set_option maxHeartbeats 1000000
open Go.RowKit
def KV (u : List Nm) (x : Nm) : Nat := u.idxOf x
theorem Wl {u : List Nm} {x : Nm} (h : x ∈ u) : KV u x < u.length := List.idxOf_lt_length_iff.2 h
theorem Qhg {u : List Nm} {x : Nm} (h : x ∈ u) : u[KV u x]? = some x := by
 rw [List.getElem?_eq_getElem (Wl h)]
 exact congrArg some (List.getElem_idxOf (Wl h))
theorem Qms {u : List Nm} (hs : pw u) {i : Nat} {x : Nm} (h : u[i]? = some x) : KV u x = i := by
 obtain ⟨h1, h2⟩ := List.getElem?_eq_some_iff.1 h
 have hn : u.Nodup := hs.imp (fun h => Qal h)
 subst h2
 exact hn.idxOf_getElem i h1
def Jw (u t : List Nm) : List Bool := u.map (XV t)
theorem Qai {u t : List Nm} : (Jw u t).length = u.length := by simp [Jw]
theorem Qir {u t : List Nm} {x : Nm} (h : x ∈ u) : (Jw u t)[KV u x]? = some (XV t x) := by
 unfold Jw
 rw [List.getElem?_map, Qhg h]; rfl
theorem WS {t : List Nm} {x y : Nm} : XV (t ++ [x]) y = (XV t y || y == x) := by simp [XV]
theorem QgJ {u t : List Nm} (hs : pw u) {x : Nm} (h : x ∈ u) : (Jw u t).set (KV u x) true = Jw u (t ++ [x]) := by
 apply List.ext_getElem?
 intro i
 unfold Jw
 rw [List.getElem?_set, List.getElem?_map]
 by_cases hi : KV u x = i
 ·rw [if_pos hi]
  subst hi
  rw [if_pos (by simpa using Wl h), List.getElem?_map, Qhg h]
  simp [WS]
 rw [if_neg hi, List.getElem?_map]
 cases hy : u[i]? with
 | none => rfl
 | some y =>
  have : (y == x) = false := by
   rw [beq_eq_false_iff_ne]
   intro e
   subst e
   exact hi (Qms hs hy)
  simp [WS, this]
def YL (u : List Nm) (r : Ru) : List Nat × Nat := (r.i.map (KV u), KV u r.t)
def nv1 (n : Nat) : List AV := [i64 (n : Nat)]
def hrC (h : List Nat × Nat) : List AV := [.sl (h.1.map nv1) none, i64 (h.2 : Nat)]
abbrev hrs (l : List (List Nat × Nat)) : AV := .sl (l.map hrC) none
def Qdc (bits : List Bool) (i : Nat) : Bool := bits.getD i false
theorem Qfw {bits : List Bool} {i : Nat} {b : Bool} (h : bits[i]? = some b) : Qdc bits i = b := by
 unfold Qdc
 rw [List.getD_eq_getElem?_getD, h]; rfl
def QbD (bits : List Bool) (h : List Nat × Nat) : Bool := !Qdc bits h.2 && h.1.all (Qdc bits)
def Ja (t : List Nm) (r : Ru) : Bool := Js r.i t && !XV t r.t
theorem QkC {u t : List Nm} {r : Ru} (h1 : ∀ x ∈ r.i, x ∈ u) (h2 : r.t ∈ u) : QbD (Jw u t) (YL u r) = Ja t r := by
 unfold QbD Ja YL
 rw [Qfw (Qir h2), Bool.and_comm]
 congr 1
 rw [List.all_map]
 unfold Js
 have : ∀ l : List Nm, (∀ x ∈ l, x ∈ u) → l.all (Qdc (Jw u t) ∘ KV u) = l.all (XV t) := by
  intro l hl
  induction l with
  | nil => rfl
  | cons x l ih =>
   rw [List.all_cons, List.all_cons, ih fun y hy => hl y (List.mem_cons_of_mem _ hy)]
   rw [Function.comp, Qfw (Qir (hl x (List.mem_cons_self ..)))]
 exact this r.i h1
def YT (q : Ru → Bool) : List Ru → Nat → Option (Nat × Ru)
 | [], _ => none
 | r :: l, k => if q r then some (k, r) else YT q l (k + 1)
theorem Qdl (q : Ru → Bool) : ∀ (l : List Ru) (k : Nat), l.find? q = (YT q l k).map (·.2)
 | [], _ => rfl
 | r :: l, k => by
  unfold YT
  rw [List.find?_cons]
  cases h : q r
  ·simp [Qdl q l (k + 1)]
  simp
theorem Ky (q : Ru → Bool) : ∀ (l : List Ru) (k : Nat) {j : Nat} {r : Ru}, YT q l k = some (j, r) → q r = true ∧ r ∈ l
 | [], _, _, _, h => by cases h
 | r :: l, k, j, r', h => by
  unfold YT at h
  split at h
  ·cases h; exact ⟨‹_›, List.mem_cons_self ..⟩
  obtain ⟨h1, h2⟩ := Ky q l (k + 1) h
  exact ⟨h1, List.mem_cons_of_mem _ h2⟩
theorem Qk3 {q : Ru → Bool} {l : List Ru} {k : Nat} (h : YT q l k = none) : ∀ r ∈ l, q r = false := fun r hr => by
 have h1 := Qdl q l k
 rw [h] at h1
 have := List.find?_eq_none.1 h1 r hr
 simpa using this
def QgG (u : List Nm) (o : Option (Nat × Ru)) : Int × Int := match o with
 | none => (-1, 0)
 | some (k, r) => ((k : Int), (KV u r.t : Int))
def QdM (rs : List Ru) (t : List Nm) : Nat := rs.countP (fun r => !XV t r.t)
theorem Qbn {rs : List Ru} {t : List Nm} : YF rs t = match YT (Ja t) rs 0 with | some (_, r) => t ++ [r.t] | none => t := by
 unfold YF
 rw [show (fun r : Ru => Js r.i t && !XV t r.t) = Ja t from rfl, Qdl _ rs 0]
 cases h : YT (Ja t) rs 0 with
 | none => rfl
 | some p => rfl
theorem Ws {rs : List Ru} {t : List Nm} {r : Ru} (hr : r ∈ rs) (hf : Ja t r = true) : QdM rs (t ++ [r.t]) < QdM rs t := by
 have hnt : XV t r.t = false := by
  unfold Ja at hf
  simp only [Bool.and_eq_true, Bool.not_eq_true'] at hf
  exact hf.2
 unfold QdM
 clear hf
 have le : ∀ l : List Ru, l.countP (fun r' => !XV (t ++ [r.t]) r'.t) ≤ l.countP (fun r' => !XV t r'.t) := fun l => by
  refine List.countP_mono_left fun r' _ h => ?_
  rw [WS] at h
  simp at h ⊢
  exact h.1
 induction rs with
 | nil => cases hr
 | cons r' l ih =>
  rcases List.mem_cons.1 hr with e | hr
  ·subst e
   have hl := le l
   rw [List.countP_cons, List.countP_cons]
   rw [if_neg (by rw [WS]; simp), if_pos (by rw [hnt]; rfl)]
   omega
  have := ih hr
  rw [List.countP_cons, List.countP_cons]
  have h2 : (if (!XV (t ++ [r.t]) r'.t) = true then 1 else 0) ≤ if (!XV t r'.t) = true then 1 else 0 := by
   rw [WS]
   cases XV t r'.t <;> cases (r'.t == r.t) <;> simp
  omega
theorem Y0 {rs : List Ru} {t : List Nm} (h : YF rs t = t) : ∀ n, Jk rs n t = t
 | 0 => rfl
 | n + 1 => by rw [Jk, h, Y0 h n]
theorem Wi {rs : List Ru} {t : List Nm} (h : YT (Ja t) rs 0 = none) : YF rs t = t := by rw [Qbn, h]
theorem Qd2 {rs : List Ru} : ∀ (n : Nat) (t : List Nm), QdM rs t ≤ n → Jk rs (n + 1) t = Jk rs n t
 | 0, t, h => by
  have h0 : YF rs t = t := by
   cases hf : YT (Ja t) rs 0 with
   | none => exact Wi hf
   | some p =>
    obtain ⟨h1, h2⟩ := Ky _ rs 0 (j := p.1) (r := p.2) hf
    have := Ws h2 h1
    omega
  rw [Y0 h0, Y0 h0]
 | n + 1, t, h => by
  cases hf : YT (Ja t) rs 0 with
  | none => rw [Y0 (Wi hf), Y0 (Wi hf)]
  | some p =>
   obtain ⟨h1, h2⟩ := Ky _ rs 0 (j := p.1) (r := p.2) hf
   have h3 : YF rs t = t ++ [p.2.t] := by rw [Qbn, hf]
   have h4 := Ws h2 h1
   show Jk rs (n + 1) (YF rs t) = Jk rs n (YF rs t)
   rw [h3]
   exact Qd2 (rs := rs) n (t ++ [p.2.t]) (by omega)
theorem Qfu {rs : List Ru} {t : List Nm} : QdM rs t ≤ rs.length := List.countP_le_length
theorem Qml {rs : List Ru} {t : List Nm} {k : Nat} {r : Ru} (hf : YT (Ja t) rs 0 = some (k, r)) : Jk rs rs.length (t ++ [r.t]) = Jk rs rs.length t := by
 obtain ⟨h1, h2⟩ := Ky _ rs 0 hf
 have h3 : YF rs t = t ++ [r.t] := by rw [Qbn, hf]
 have h4 := Ws h2 h1
 have h5 := Qfu (rs := rs) (t := t)
 obtain ⟨n, hn⟩ : ∃ n, rs.length = n + 1 := ⟨rs.length - 1, by omega⟩
 have h6 := Qd2 (rs := rs) n (t ++ [r.t]) (by omega)
 rw [hn]
 rw [h6, Jk, h3]
def Wq : List Nm → List Bool → List Nm
 | x :: u, b :: l => if b then x :: Wq u l else Wq u l
 | _, _ => []
theorem Qk0 (u t : List Nm) : Wq u (Jw u t) = u.filter (XV t) := by
 induction u with
 | nil => rfl
 | cons x u ih =>
  have h : Wq (x :: u) (Jw (x :: u) t) = if XV t x then x :: Wq u (Jw u t) else Wq u (Jw u t) := rfl
  rw [h, ih, List.filter_cons]
theorem Qdi : ∀ {u : List Nm} {l : List Bool} {k : Nat} {x : Nm} {b : Bool}, u[k]? = some x → l[k]? = some b → Wq (u.take (k + 1)) (l.take (k + 1)) = Wq (u.take k) (l.take k) ++ (if b then [x] else [])
 | y :: u, c :: l, 0, x, b, h1, h2 => by
  simp at h1 h2; subst h1 h2
  cases c <;> simp [Wq]
 | y :: u, c :: l, k + 1, x, b, h1, h2 => by
  have := Qdi (u := u) (l := l) (k := k) (by simpa using h1) (by simpa using h2)
  simp only [List.take_succ_cons, Wq]
  cases c <;> simp only [Bool.false_eq_true, if_false, if_true] <;> rw [this]
  simp
 | [], _, _, _, _, h, _ => by simp at h
 | _ :: _, [], _, _, _, _, h => by simp at h
theorem Qiv : ∀ (u : List Nm) (l : List Bool), (Wq u l).length ≤ u.length
 | x :: u, b :: l => by
  have := Qiv u l
  unfold Wq
  split <;> simp <;> omega
 | [], _ => by simp [Wq]
 | _ :: _, [] => by simp [Wq]
theorem QmN {u : List Nm} {l : List Bool} {k : Nat} (h : u.length ≤ k) (h2 : l.length = u.length) : Wq (u.take k) (l.take k) = Wq u l := by rw [List.take_of_length_le h, List.take_of_length_le (by omega)]
theorem Qmj {n : Nat} (h : n ≤ 1000000000) : IntKind.u64.wrap (n : Int) = ((n : Nat) : Int) := by simp only [IntKind.wrap_u64]; omega
theorem Ql7 {n : Nat} (h : n ≤ 1000000000) : IntKind.i64.wrap (((n : Nat) : Int) / 2) = ((n / 2 : Nat) : Int) := by rw [IntWalk.i64_in _ (by omega)]; omega
theorem Qng {u : List Nm} (hs : pw u) {i j : Nat} {x y : Nm} (h1 : u[i]? = some x) (h2 : u[j]? = some y) (h : i < j) : Op.bytesLess x y = true := by
 obtain ⟨g1, rfl⟩ := List.getElem?_eq_some_iff.1 h1
 obtain ⟨g2, rfl⟩ := List.getElem?_eq_some_iff.1 h2
 exact List.pairwise_iff_getElem.1 hs i j g1 g2 h
theorem Qmk {u : List Nm} (hs : pw u) {i j : Nat} {x y : Nm} (h1 : u[i]? = some x) (h2 : u[j]? = some y) : Op.bytesLess x y = decide (i < j) := by
 rcases Nat.lt_trichotomy i j with h | h | h
 ·rw [Qng hs h1 h2 h, decide_eq_true h]
 ·subst h
  rw [h1] at h2
  cases h2
  rw [Wu, decide_eq_false (Nat.lt_irrefl _)]
 ·rw [decide_eq_false (by omega)]
  cases hb : Op.bytesLess x y
  ·rfl
  ·have := K8 hb (Qng hs h2 h1 h)
   rw [Wu] at this; cases this
theorem Qkt (x y : Nm) : FC Tryz.prog 254 [sv x, sv y] (bl (Op.bytesLess x y)) := by
 refine Qe [4] Tryz.func254 rfl rfl 17 Tryz.ntmps254 (Nat.le_of_ble_eq_true rfl) ?_
 intro E hN
 refine Xj ?_; refine zP (Qb (QeR x) rfl rfl rfl) ?_; refine Jc ?_; refine zQ ?_
 rfl
theorem QiN (u : List Nm) (hu : u.length ≤ 1000000) (hs : pw u) (x : Nm) (i : Nat) (hi : u[i]? = some x) : FC Tryz.prog 241 [XN u, sv x] (.tup [i64 (i : Nat), bl true]) := by
 refine Qe [4, 5] Tryz.func241 rfl rfl 54 Tryz.ntmps241 (Nat.le_of_ble_eq_true rfl) ?_
 intro E hN
 have hiu : i < u.length := (List.getElem?_eq_some_iff.1 hi).1
 refine QeN ?_
 refine Qo (fun z : {q : Nat × Nat // q.1 ≤ i ∧ i ≤ q.2 ∧ q.2 ≤ u.length} => ⟨[(0, XN u), (1, sv x), (6, i64 u.length), (7, i64 (z.1.1 : Nat)), (8, i64 (z.1.2 : Nat))], [], 0⟩) (fun z => z.1.2 - z.1.1) (⟨(0, u.length), by dsimp only; omega⟩) ?_ ?_
 ·
  exact Qa rfl (Yv ⟨(Xe (by simp)), rfl, rfl, rfl, (Xe (by simp)), rfl, trivial⟩) trivial
 rintro ⟨⟨lo, hh⟩, h1, h2, h3⟩
 dsimp only at h1 h2 h3 ⊢
 refine Xj ?_
 refine zq ?_ ?_ <;> intro h9
 rotate_left
 ·
  have hge : hh ≤ lo := by simpa using h9
  obtain rfl : lo = i := by omega
  refine Xk ?_
  refine zP (Q6 (b := true) rfl rfl rfl (by simp; omega)) ?_
  refine Qx ?_; refine zP (Qf rfl rfl rfl lo rfl _ (Qu hi) rfl) ?_; refine QC ?_; refine zP (Q6 (b := true) rfl rfl rfl (by simp)) ?_
  refine KJ ?_; refine zQ ?_
  rfl
 have hlt : lo < hh := by simpa using h9
 obtain ⟨y, hy⟩ := Qr (show (lo + hh) / 2 < u.length by omega)
 have hl := Qmk hs hy hi
 refine Xj ?_; refine zP (Qil rfl rfl ((lo + hh : Nat) : Int) (Qmj (by omega))) ?_; refine zB ?_
 refine zP (Qil rfl rfl (((lo + hh) / 2 : Nat) : Int) (Ql7 (by omega))) ?_; refine Xk ?_
 refine zP (Qf rfl rfl rfl ((lo + hh) / 2) rfl _ (Qu hy) rfl) ?_; refine QC ?_; refine zP (Qb (Qkt _ x) rfl rfl rfl) ?_
 refine zN ?_
 refine zq ?_ ?_ <;> intro h16
 ·
  have h5 : (lo + hh) / 2 < i := of_decide_eq_true (hl ▸ h16)
  refine Qz ?_; refine Qc ?_
  exact ⟨⟨((lo + hh) / 2 + 1, hh), by dsimp only; omega⟩, Qa rfl (Yg (Xr trivial)) trivial, by dsimp only; omega⟩
 have h5 : ¬ (lo + hh) / 2 < i := of_decide_eq_false (hl ▸ h16)
 refine Qx ?_; refine Qc ?_
 exact ⟨⟨(lo, (lo + hh) / 2), by dsimp only; omega⟩, Qa rfl (Yg (Xr trivial)) trivial, by dsimp only; omega⟩
theorem Qj9 (u : List Nm) (hu : u.length ≤ 1000000) (hs : pw u) (R : AV) (x : Nm) (hx : x ∈ u) : FC Tryz.prog 231 [.el [XN u, R], sv x] (i64 (KV u x : Nat)) := by
 refine Qe [4] Tryz.func231 rfl rfl 19 Tryz.ntmps231 (Nat.le_of_ble_eq_true rfl) ?_
 intro E hN
 refine Xj ?_; refine zP (QE rfl rfl rfl) ?_; refine Qx ?_; refine zP (Qb (QiN u hu hs x _ (Qhg hx)) rfl rfl rfl) ?_; refine Jn ?_
 refine zq ?_ ?_ <;> intro h7
 ·
  cases h7
 refine QA ?_; refine zQ ?_
 rfl
theorem QjU (n : Int) : FC Tryz.prog 233 [i64 n] (bl true) := by
 refine Qe [2] Tryz.func233 rfl rfl 3 Tryz.ntmps233 (Nat.le_of_ble_eq_true rfl) ?_
 intro E hN
 refine Xj ?_; refine zQ ?_
 rfl
theorem QjM (h : List Nat × Nat) (bits : List Bool) (h2 : h.2 < bits.length) (h1 : ∀ i ∈ h.1, i < bits.length) : FC Tryz.prog 242 [.agg (hrC h), .sl (bits.map bv1) none] (bl (QbD bits h)) := by
 refine Qe [4] Tryz.func242 rfl rfl 25 Tryz.ntmps242 (Nat.le_of_ble_eq_true rfl) ?_
 intro E hN
 obtain ⟨y, hy⟩ := Qr h2
 have hby := Qfw hy
 refine Jc ?_; refine zP (Qf rfl rfl rfl h.2 rfl _ (Qu hy) rfl) ?_; refine QC ?_
 refine zq ?_ ?_ <;> intro h7
 ·
  refine Qx ?_; refine zQ ?_
  exact Qq (by simp_all [QbD])
 refine XM ?_
 refine Qo (fun x : {k : Nat // k ≤ (h.1).length ∧ (h.1.drop k).all (Qdc bits) = h.1.all (Qdc bits)} => ⟨[(1, .sl (bits.map bv1) none), (13, .sl (h.1.map nv1) none), (14, i64 h.1.length), (15, i64 (x.1 : Nat))], [], 0⟩) (fun x => (h.1).length - x.1) (⟨0, Nat.zero_le _, by simp⟩) ?_ ?_
 ·
  exact Qa rfl (Yv ⟨(Xe (by simp)), rfl, (Xr trivial)⟩) trivial
 rintro ⟨k, hk, hg⟩
 dsimp only
 refine X7 13 rfl (fun hl13 => ?_)
 refine QA ?_
 refine zq ?_ ?_ <;> intro h15
 rotate_left
 ·
  have hge : (h.1).length ≤ k := by simpa using h15
  refine Qz ?_; refine zQ ?_
  exact Qq (by rw [QbD, XZ hg hge]; simp_all)
 have hlt : k < (h.1).length := by simpa using h15
 obtain ⟨x, hx⟩ := Qr hlt
 obtain ⟨z, hz⟩ := Qr (h1 x (List.mem_of_getElem? hx))
 have hbz := Qfw hz
 refine QA ?_; refine zP (Qf rfl rfl rfl k rfl _ (Qu hx) rfl) ?_; refine Xj ?_; refine zP (Qf rfl rfl rfl x rfl _ (Qu hz) rfl) ?_
 refine Qx ?_
 refine zq ?_ ?_ <;> intro h19
 ·
  have h8 := h19
  refine Qx ?_; refine zQ ?_
  exact Qq (by rw [QbD, Q1 hg hx (by simp_all)]; simp)
 have h8 := h19
 refine Qz ?_; refine Qc ?_
 exact ⟨⟨k + 1, hlt, Xx hg hx (by rw [hbz]; simpa using n0 h8)⟩, Qa rfl (Ya ⟨(Xe (by dsimp only; omega)), rfl, trivial⟩) trivial, by dsimp only; omega⟩
end Go.Proofs.YtnkkokmmeplbgaaGreat
