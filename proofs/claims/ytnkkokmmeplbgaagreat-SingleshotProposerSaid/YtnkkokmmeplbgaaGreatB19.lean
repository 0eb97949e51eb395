/-
  Plain laws: the chain of rules that close a set of names, by
-/
import Derived.Test.YtnkkokmmeplbgaaGreatB11
import Derived.Test.YtnkkokmmeplbgaaGreatB10
import Derived.Test.YtnkkokmmeplbgaaGreatA5
namespace Go.Proofs.YtnkkokmmeplbgaaGreat
set_option maxRecDepth 100000
set_option maxHeartbeats 1000000
open Go.RowKit
def Qa8 (u : List Nm) (x : Nm) : Nat := u.idxOf x
theorem QbC {u : List Nm} {x : Nm} (h : x ∈ u) : Qa8 u x < u.length := List.idxOf_lt_length_iff.2 h
theorem Qld {u : List Nm} {x : Nm} (h : x ∈ u) : u[Qa8 u x]? = some x := by
 rw [List.getElem?_eq_getElem (QbC h)]
 exact congrArg some (List.getElem_idxOf (QbC h))
theorem QqA {u : List Nm} (hs : pw u) {i : Nat} {x : Nm} (h : u[i]? = some x) : Qa8 u x = i := by
 obtain ⟨h1, h2⟩ := List.getElem?_eq_some_iff.1 h
 have hn : u.Nodup := hs.imp (fun h => Qcr h)
 subst h2
 exact hn.idxOf_getElem i h1
def Yx (u t : List Nm) : List Bool := u.map (X2 t)
theorem QcA {u t : List Nm} : (Yx u t).length = u.length := by simp [Yx]
theorem QmA {u t : List Nm} {x : Nm} (h : x ∈ u) : (Yx u t)[Qa8 u x]? = some (X2 t x) := by
 unfold Yx
 rw [List.getElem?_map, Qld h]; rfl
theorem QcD {t : List Nm} {x y : Nm} : X2 (t ++ [x]) y = (X2 t y || y == x) := by simp [X2]
theorem QjL {u t : List Nm} (hs : pw u) {x : Nm} (h : x ∈ u) : (Yx u t).set (Qa8 u x) true = Yx u (t ++ [x]) := by
 apply List.ext_getElem?
 intro i
 unfold Yx
 rw [List.getElem?_set, List.getElem?_map]
 by_cases hi : Qa8 u x = i
 ·rw [if_pos hi]
  subst hi
  rw [if_pos (by simpa using QbC h), List.getElem?_map, Qld h]
  simp [QcD]
 rw [if_neg hi, List.getElem?_map]
 cases hy : u[i]? with
 | none => rfl
 | some y =>
  have : (y == x) = false := by
   rw [beq_eq_false_iff_ne]
   intro e
   subst e
   exact hi (QqA hs hy)
  simp [QcD, this]
def Wq (u : List Nm) (r : Ru) : List Nat × Nat := (r.i.map (Qa8 u), Qa8 u r.t)
def nv1 (n : Nat) : List AV := [i64 (n : Nat)]
def hrC (h : List Nat × Nat) : List AV := [.sl (h.1.map nv1) none, i64 (h.2 : Nat)]
abbrev hrs (l : List (List Nat × Nat)) : AV := .sl (l.map hrC) none
def Qg4 (bits : List Bool) (i : Nat) : Bool := bits.getD i false
theorem Qiq {bits : List Bool} {i : Nat} {b : Bool} (h : bits[i]? = some b) : Qg4 bits i = b := by
 unfold Qg4
 rw [List.getD_eq_getElem?_getD, h]; rfl
def QeB (bits : List Bool) (h : List Nat × Nat) : Bool := !Qg4 bits h.2 && h.1.all (Qg4 bits)
def XV (t : List Nm) (r : Ru) : Bool := JT r.i t && !X2 t r.t
theorem Qoa {u t : List Nm} {r : Ru} (h1 : ∀ x ∈ r.i, x ∈ u) (h2 : r.t ∈ u) : QeB (Yx u t) (Wq u r) = XV t r := by
 unfold QeB XV Wq
 rw [Qiq (QmA h2), Bool.and_comm]
 congr 1
 rw [List.all_map]
 unfold JT
 have : ∀ l : List Nm, (∀ x ∈ l, x ∈ u) → l.all (Qg4 (Yx u t) ∘ Qa8 u) = l.all (X2 t) := by
  intro l hl
  induction l with
  | nil => rfl
  | cons x l ih =>
   rw [List.all_cons, List.all_cons, ih fun y hy => hl y (List.mem_cons_of_mem _ hy)]
   rw [Function.comp, Qiq (QmA (hl x (List.mem_cons_self ..)))]
 exact this r.i h1
def YP (q : Ru → Bool) : List Ru → Nat → Option (Nat × Ru)
 | [], _ => none
 | r :: l, k => if q r then some (k, r) else YP q l (k + 1)
theorem Qf9 (q : Ru → Bool) : ∀ (l : List Ru) (k : Nat), l.find? q = (YP q l k).map (·.2)
 | [], _ => rfl
 | r :: l, k => by
  unfold YP
  rw [List.find?_cons]
  cases h : q r
  ·simp [Qf9 q l (k + 1)]
  simp
theorem YD (q : Ru → Bool) : ∀ (l : List Ru) (k : Nat) {j : Nat} {r : Ru}, YP q l k = some (j, r) → q r = true ∧ r ∈ l
 | [], _, _, _, h => by cases h
 | r :: l, k, j, r', h => by
  unfold YP at h
  split at h
  ·cases h; exact ⟨‹_›, List.mem_cons_self ..⟩
  obtain ⟨h1, h2⟩ := YD q l (k + 1) h
  exact ⟨h1, List.mem_cons_of_mem _ h2⟩
theorem QoT {q : Ru → Bool} {l : List Ru} {k : Nat} (h : YP q l k = none) : ∀ r ∈ l, q r = false := fun r hr => by
 have h1 := Qf9 q l k
 rw [h] at h1
 have := List.find?_eq_none.1 h1 r hr
 simpa using this
def QkL (u : List Nm) (o : Option (Nat × Ru)) : Int × Int := match o with
 | none => (-1, 0)
 | some (k, r) => ((k : Int), (Qa8 u r.t : Int))
def Qbu (rs : List Ru) (t : List Nm) : Nat := rs.countP (fun r => !X2 t r.t)
theorem Qex {rs : List Ru} {t : List Nm} : Wb rs t = match YP (XV t) rs 0 with | some (_, r) => t ++ [r.t] | none => t := by
 unfold Wb
 rw [show (fun r : Ru => JT r.i t && !X2 t r.t) = XV t from rfl, Qf9 _ rs 0]
 cases h : YP (XV t) rs 0 with
 | none => rfl
 | some p => rfl
theorem Y4 {rs : List Ru} {t : List Nm} {r : Ru} (hr : r ∈ rs) (hf : XV t r = true) : Qbu rs (t ++ [r.t]) < Qbu rs t := by
 have hnt : X2 t r.t = false := by
  unfold XV at hf
  simp only [Bool.and_eq_true, Bool.not_eq_true'] at hf
  exact hf.2
 unfold Qbu
 clear hf
 have le : ∀ l : List Ru, l.countP (fun r' => !X2 (t ++ [r.t]) r'.t) ≤ l.countP (fun r' => !X2 t r'.t) := fun l => by
  refine List.countP_mono_left fun r' _ h => ?_
  rw [QcD] at h
  simp at h ⊢
  exact h.1
 induction rs with
 | nil => cases hr
 | cons r' l ih =>
  rcases List.mem_cons.1 hr with e | hr
  ·subst e
   have hl := le l
   rw [List.countP_cons, List.countP_cons]
   rw [if_neg (by rw [QcD]; simp), if_pos (by rw [hnt]; rfl)]
   omega
  have := ih hr
  rw [List.countP_cons, List.countP_cons]
  have h2 : (if (!X2 (t ++ [r.t]) r'.t) = true then 1 else 0) ≤ if (!X2 t r'.t) = true then 1 else 0 := by
   rw [QcD]
   cases X2 t r'.t <;> cases (r'.t == r.t) <;> simp
  omega
theorem Kq {rs : List Ru} {t : List Nm} (h : Wb rs t = t) : ∀ n, J9 rs n t = t
 | 0 => rfl
 | n + 1 => by rw [J9, h, Kq h n]
theorem WC {rs : List Ru} {t : List Nm} (h : YP (XV t) rs 0 = none) : Wb rs t = t := by rw [Qex, h]
theorem QhS {rs : List Ru} : ∀ (n : Nat) (t : List Nm), Qbu rs t ≤ n → J9 rs (n + 1) t = J9 rs n t
 | 0, t, h => by
  have h0 : Wb rs t = t := by
   cases hf : YP (XV t) rs 0 with
   | none => exact WC hf
   | some p =>
    obtain ⟨h1, h2⟩ := YD _ rs 0 (j := p.1) (r := p.2) hf
    have := Y4 h2 h1
    omega
  rw [Kq h0, Kq h0]
 | n + 1, t, h => by
  cases hf : YP (XV t) rs 0 with
  | none => rw [Kq (WC hf), Kq (WC hf)]
  | some p =>
   obtain ⟨h1, h2⟩ := YD _ rs 0 (j := p.1) (r := p.2) hf
   have h3 : Wb rs t = t ++ [p.2.t] := by rw [Qex, hf]
   have h4 := Y4 h2 h1
   show J9 rs (n + 1) (Wb rs t) = J9 rs n (Wb rs t)
   rw [h3]
   exact QhS (rs := rs) n (t ++ [p.2.t]) (by omega)
theorem Qeo {rs : List Ru} {t : List Nm} : Qbu rs t ≤ rs.length := List.countP_le_length
theorem Qme {rs : List Ru} {t : List Nm} {k : Nat} {r : Ru} (hf : YP (XV t) rs 0 = some (k, r)) : J9 rs rs.length (t ++ [r.t]) = J9 rs rs.length t := by
 obtain ⟨h1, h2⟩ := YD _ rs 0 hf
 have h3 : Wb rs t = t ++ [r.t] := by rw [Qex, hf]
 have h4 := Y4 h2 h1
 have h5 := Qeo (rs := rs) (t := t)
 obtain ⟨n, hn⟩ : ∃ n, rs.length = n + 1 := ⟨rs.length - 1, by omega⟩
 have h6 := QhS (rs := rs) n (t ++ [r.t]) (by omega)
 rw [hn]
 rw [h6, J9, h3]
def QbD : List Nm → List Bool → List Nm
 | x :: u, b :: l => if b then x :: QbD u l else QbD u l
 | _, _ => []
theorem Qpp (u t : List Nm) : QbD u (Yx u t) = u.filter (X2 t) := by
 induction u with
 | nil => rfl
 | cons x u ih =>
  have h : QbD (x :: u) (Yx (x :: u) t) = if X2 t x then x :: QbD u (Yx u t) else QbD u (Yx u t) := rfl
  rw [h, ih, List.filter_cons]
theorem Qgt : ∀ {u : List Nm} {l : List Bool} {k : Nat} {x : Nm} {b : Bool}, u[k]? = some x → l[k]? = some b → QbD (u.take (k + 1)) (l.take (k + 1)) = QbD (u.take k) (l.take k) ++ (if b then [x] else [])
 | y :: u, c :: l, 0, x, b, h1, h2 => by
  simp at h1 h2; subst h1 h2
  cases c <;> simp [QbD]
 | y :: u, c :: l, k + 1, x, b, h1, h2 => by
  have := Qgt (u := u) (l := l) (k := k) (by simpa using h1) (by simpa using h2)
  simp only [List.take_succ_cons, QbD]
  cases c <;> simp only [Bool.false_eq_true, if_false, if_true] <;> rw [this]
  simp
 | [], _, _, _, _, h, _ => by simp at h
 | _ :: _, [], _, _, _, _, h => by simp at h
theorem QmZ : ∀ (u : List Nm) (l : List Bool), (QbD u l).length ≤ u.length
 | x :: u, b :: l => by
  have := QmZ u l
  unfold QbD
  split <;> simp <;> omega
 | [], _ => by simp [QbD]
 | _ :: _, [] => by simp [QbD]
theorem Qqv {u : List Nm} {l : List Bool} {k : Nat} (h : u.length ≤ k) (h2 : l.length = u.length) : QbD (u.take k) (l.take k) = QbD u l := by rw [List.take_of_length_le h, List.take_of_length_le (by omega)]
theorem Qq4 {n : Nat} (h : n ≤ 1000000000) : IntKind.u64.wrap (n : Int) = ((n : Nat) : Int) := by simp only [IntKind.wrap_u64]; omega
theorem Qqx {n : Nat} (h : n ≤ 1000000000) : IntKind.i64.wrap (((n : Nat) : Int) / 2) = ((n / 2 : Nat) : Int) := by rw [IntWalk.i64_in _ (by omega)]; omega
theorem Qr5 {u : List Nm} (hs : pw u) {i j : Nat} {x y : Nm} (h1 : u[i]? = some x) (h2 : u[j]? = some y) (h : i < j) : Op.bytesLess x y = true := by
 obtain ⟨g1, rfl⟩ := List.getElem?_eq_some_iff.1 h1
 obtain ⟨g2, rfl⟩ := List.getElem?_eq_some_iff.1 h2
 exact List.pairwise_iff_getElem.1 hs i j g1 g2 h
theorem Qrg {u : List Nm} (hs : pw u) {i j : Nat} {x y : Nm} (h1 : u[i]? = some x) (h2 : u[j]? = some y) : Op.bytesLess x y = decide (i < j) := by
 rcases Nat.lt_trichotomy i j with h | h | h
 ·rw [Qr5 hs h1 h2 h, decide_eq_true h]
 ·subst h
  rw [h1] at h2
  cases h2
  rw [QbV, decide_eq_false (Nat.lt_irrefl _)]
 ·rw [decide_eq_false (by omega)]
  cases hb : Op.bytesLess x y
  ·rfl
  ·have := Qap hb (Qr5 hs h2 h1 h)
   rw [QbV] at this; cases this
theorem Qpl (x y : Nm) : FC Tryz.prog 254 [sv x, sv y] (bl (Op.bytesLess x y)) := by
 refine Qg [4] Tryz.func254 rfl rfl 17 Tryz.ntmps254 (Nat.le_of_ble_eq_true rfl) ?_
 intro E hN
 refine Q4 ?_; refine zP (Qc (Qio x) rfl rfl rfl) ?_; refine Jv ?_; refine zQ ?_
 rfl
theorem QnE (u : List Nm) (hu : u.length ≤ 1000000) (hs : pw u) (x : Nm) (i : Nat) (hi : u[i]? = some x) : FC Tryz.prog 241 [X1 u, sv x] (.tup [i64 (i : Nat), bl true]) := by
 refine Qg [4, 5] Tryz.func241 rfl rfl 54 Tryz.ntmps241 (Nat.le_of_ble_eq_true rfl) ?_
 intro E hN
 have hiu : i < u.length := (List.getElem?_eq_some_iff.1 hi).1
 refine QiL ?_
 refine Ql (fun z : {q : Nat × Nat // q.1 ≤ i ∧ i ≤ q.2 ∧ q.2 ≤ u.length} => ⟨[(0, X1 u), (1, sv x), (6, i64 u.length), (7, i64 (z.1.1 : Nat)), (8, i64 (z.1.2 : Nat))], [], 0⟩) (fun z => z.1.2 - z.1.1) (⟨(0, u.length), by dsimp only; omega⟩) ?_ ?_
 ·
  exact Qa rfl (JI ⟨(Q0 (by simp)), rfl, rfl, rfl, (Q0 (by simp)), rfl, trivial⟩) trivial
 rintro ⟨⟨lo, hh⟩, h1, h2, h3⟩
 dsimp only at h1 h2 h3 ⊢
 refine Q4 ?_
 refine zq ?_ ?_ <;> intro h9
 rotate_left
 ·
  have hge : hh ≤ lo := by simpa using h9
  obtain rfl : lo = i := by omega
  refine Q8 ?_
  refine zP (QC (b := true) rfl rfl rfl (by simp; omega)) ?_
  refine Qs ?_; refine zP (Qf rfl rfl rfl lo rfl _ (Qk hi) rfl) ?_; refine Qu ?_; refine zP (QC (b := true) rfl rfl rfl (by simp)) ?_
  refine Ki ?_; refine zQ ?_
  rfl
 have hlt : lo < hh := by simpa using h9
 obtain ⟨y, hy⟩ := Qn (show (lo + hh) / 2 < u.length by omega)
 have hl := Qrg hs hy hi
 refine Q4 ?_; refine zP (Qms rfl rfl ((lo + hh : Nat) : Int) (Qq4 (by omega))) ?_; refine zB ?_
 refine zP (Qms rfl rfl (((lo + hh) / 2 : Nat) : Int) (Qqx (by omega))) ?_; refine Q8 ?_
 refine zP (Qf rfl rfl rfl ((lo + hh) / 2) rfl _ (Qk hy) rfl) ?_; refine Qu ?_; refine zP (Qc (Qpl _ x) rfl rfl rfl) ?_
 refine zN ?_
 refine zq ?_ ?_ <;> intro h16
 ·
  have h5 : (lo + hh) / 2 < i := of_decide_eq_true (hl ▸ h16)
  refine Qv ?_; refine Qb ?_
  exact ⟨⟨((lo + hh) / 2 + 1, hh), by dsimp only; omega⟩, Qa rfl (JH (Xv trivial)) trivial, by dsimp only; omega⟩
 have h5 : ¬ (lo + hh) / 2 < i := of_decide_eq_false (hl ▸ h16)
 refine Qs ?_; refine Qb ?_
 exact ⟨⟨(lo, (lo + hh) / 2), by dsimp only; omega⟩, Qa rfl (JH (Xv trivial)) trivial, by dsimp only; omega⟩
theorem Qpf (u : List Nm) (hu : u.length ≤ 1000000) (hs : pw u) (R : AV) (x : Nm) (hx : x ∈ u) : FC Tryz.prog 231 [.el [X1 u, R], sv x] (i64 (Qa8 u x : Nat)) := by
 refine Qg [4] Tryz.func231 rfl rfl 19 Tryz.ntmps231 (Nat.le_of_ble_eq_true rfl) ?_
 intro E hN
 refine Q4 ?_; refine zP (Qe rfl rfl rfl) ?_; refine Qs ?_; refine zP (Qc (QnE u hu hs x _ (Qld hx)) rfl rfl rfl) ?_; refine X6 ?_
 refine zq ?_ ?_ <;> intro h7
 ·
  cases h7
 refine QF ?_; refine zQ ?_
 rfl
theorem Qoz (n : Int) : FC Tryz.prog 233 [i64 n] (bl true) := by
 refine Qg [2] Tryz.func233 rfl rfl 3 Tryz.ntmps233 (Nat.le_of_ble_eq_true rfl) ?_
 intro E hN
 refine Q4 ?_; refine zQ ?_
 rfl
theorem QoB (h : List Nat × Nat) (bits : List Bool) (h2 : h.2 < bits.length) (h1 : ∀ i ∈ h.1, i < bits.length) : FC Tryz.prog 242 [.agg (hrC h), .sl (bits.map bv1) none] (bl (QeB bits h)) := by
 refine Qg [4] Tryz.func242 rfl rfl 25 Tryz.ntmps242 (Nat.le_of_ble_eq_true rfl) ?_
 intro E hN
 obtain ⟨y, hy⟩ := Qn h2
 have hby := Qiq hy
 refine Jv ?_; refine zP (Qf rfl rfl rfl h.2 rfl _ (Qk hy) rfl) ?_; refine Qu ?_
 refine zq ?_ ?_ <;> intro h7
 ·
  refine Qs ?_; refine zQ ?_
  exact Qm (by simp_all [QeB])
 refine XB ?_
 refine Ql (fun x : {k : Nat // k ≤ (h.1).length ∧ (h.1.drop k).all (Qg4 bits) = h.1.all (Qg4 bits)} => ⟨[(1, .sl (bits.map bv1) none), (13, .sl (h.1.map nv1) none), (14, i64 h.1.length), (15, i64 (x.1 : Nat))], [], 0⟩) (fun x => (h.1).length - x.1) (⟨0, Nat.zero_le _, by simp⟩) ?_ ?_
 ·
  exact Qa rfl (JI ⟨(Q0 (by simp)), rfl, (Xv trivial)⟩) trivial
 rintro ⟨k, hk, hg⟩
 dsimp only
 refine Jj 13 rfl (fun hl13 => ?_)
 refine QF ?_
 refine zq ?_ ?_ <;> intro h15
 rotate_left
 ·
  have hge : (h.1).length ≤ k := by simpa using h15
  refine Qv ?_; refine zQ ?_
  exact Qm (by rw [QeB, XU hg hge]; simp_all)
 have hlt : k < (h.1).length := by simpa using h15
 obtain ⟨x, hx⟩ := Qn hlt
 obtain ⟨z, hz⟩ := Qn (h1 x (List.mem_of_getElem? hx))
 have hbz := Qiq hz
 refine QF ?_; refine zP (Qf rfl rfl rfl k rfl _ (Qk hx) rfl) ?_; refine Q4 ?_; refine zP (Qf rfl rfl rfl x rfl _ (Qk hz) rfl) ?_
 refine Qs ?_
 refine zq ?_ ?_ <;> intro h19
 ·
  have h8 := h19
  refine Qs ?_; refine zQ ?_
  exact Qm (by rw [QeB, Q3 hg hx (by simp_all)]; simp)
 have h8 := h19
 refine Qv ?_; refine Qb ?_
 exact ⟨⟨k + 1, hlt, Xx hg hx (by rw [hbz]; simpa using n0 h8)⟩, Qa rfl (JO ⟨(Q0 (by dsimp only; omega)), rfl, trivial⟩) trivial, by dsimp only; omega⟩
end Go.Proofs.YtnkkokmmeplbgaaGreat
