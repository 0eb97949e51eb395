/-
  Plain laws: the chain of rules that close a set of names, by
-/
import Derived.Test.YtaecccdkjmipeaaGreatB11
import Derived.Test.YtaecccdkjmipeaaGreatB10
import Derived.Test.YtaecccdkjmipeaaGreatA5
namespace Go.Proofs.YtaecccdkjmipeaaGreat
set_option maxRecDepth 100000
set_option maxHeartbeats 1000000
open Go.RowKit
def Qbu (u : List Nm) (x : Nm) : Nat := u.idxOf x
theorem Qcl {u : List Nm} {x : Nm} (h : x ∈ u) : Qbu u x < u.length := List.idxOf_lt_length_iff.2 h
theorem QnP {u : List Nm} {x : Nm} (h : x ∈ u) : u[Qbu u x]? = some x := by
 rw [List.getElem?_eq_getElem (Qcl h)]
 exact congrArg some (List.getElem_idxOf (Qcl h))
theorem Qs3 {u : List Nm} (hs : pw u) {i : Nat} {x : Nm} (h : u[i]? = some x) : Qbu u x = i := by
 obtain ⟨h1, h2⟩ := List.getElem?_eq_some_iff.1 h
 have hn : u.Nodup := hs.imp (fun h => Qda h)
 subst h2
 exact hn.idxOf_getElem i h1
def Y8 (u t : List Nm) : List Bool := u.map (Jn t)
theorem Qc7 {u t : List Nm} : (Y8 u t).length = u.length := by simp [Y8]
theorem QoU {u t : List Nm} {x : Nm} (h : x ∈ u) : (Y8 u t)[Qbu u x]? = some (Jn t x) := by
 unfold Y8
 rw [List.getElem?_map, QnP h]; rfl
theorem Qc8 {t : List Nm} {x y : Nm} : Jn (t ++ [x]) y = (Jn t y || y == x) := by simp [Jn]
theorem Qk2 {u t : List Nm} (hs : pw u) {x : Nm} (h : x ∈ u) : (Y8 u t).set (Qbu u x) true = Y8 u (t ++ [x]) := by
 apply List.ext_getElem?
 intro i
 unfold Y8
 rw [List.getElem?_set, List.getElem?_map]
 by_cases hi : Qbu u x = i
 ·rw [if_pos hi]
  subst hi
  rw [if_pos (by simpa using Qcl h), List.getElem?_map, QnP h]
  simp [Qc8]
 rw [if_neg hi, List.getElem?_map]
 cases hy : u[i]? with
 | none => rfl
 | some y =>
  have : (y == x) = false := by
   rw [beq_eq_false_iff_ne]
   intro e
   subst e
   exact hi (Qs3 hs hy)
  simp [Qc8, this]
def WZ (u : List Nm) (r : Ru) : List Nat × Nat := (r.i.map (Qbu u), Qbu u r.t)
def nv1 (n : Nat) : List AV := [i64 (n : Nat)]
def hrC (h : List Nat × Nat) : List AV := [.sl (h.1.map nv1) none, i64 (h.2 : Nat)]
abbrev hrs (l : List (List Nat × Nat)) : AV := .sl (l.map hrC) none
def Qif (bits : List Bool) (i : Nat) : Bool := bits.getD i false
theorem QjJ {bits : List Bool} {i : Nat} {b : Bool} (h : bits[i]? = some b) : Qif bits i = b := by
 unfold Qif
 rw [List.getD_eq_getElem?_getD, h]; rfl
def QfJ (bits : List Bool) (h : List Nat × Nat) : Bool := !Qif bits h.2 && h.1.all (Qif bits)
def Ya (t : List Nm) (r : Ru) : Bool := JR r.i t && !Jn t r.t
theorem Qr3 {u t : List Nm} {r : Ru} (h1 : ∀ x ∈ r.i, x ∈ u) (h2 : r.t ∈ u) : QfJ (Y8 u t) (WZ u r) = Ya t r := by
 unfold QfJ Ya WZ
 rw [QjJ (QoU h2), Bool.and_comm]
 congr 1
 rw [List.all_map]
 unfold JR
 have : ∀ l : List Nm, (∀ x ∈ l, x ∈ u) → l.all (Qif (Y8 u t) ∘ Qbu u) = l.all (Jn t) := by
  intro l hl
  induction l with
  | nil => rfl
  | cons x l ih =>
   rw [List.all_cons, List.all_cons, ih fun y hy => hl y (List.mem_cons_of_mem _ hy)]
   rw [Function.comp, QjJ (QoU (hl x (List.mem_cons_self ..)))]
 exact this r.i h1
def Wu (q : Ru → Bool) : List Ru → Nat → Option (Nat × Ru)
 | [], _ => none
 | r :: l, k => if q r then some (k, r) else Wu q l (k + 1)
theorem Qhq (q : Ru → Bool) : ∀ (l : List Ru) (k : Nat), l.find? q = (Wu q l k).map (·.2)
 | [], _ => rfl
 | r :: l, k => by
  unfold Wu
  rw [List.find?_cons]
  cases h : q r
  ·simp [Qhq q l (k + 1)]
  simp
theorem Qa3 (q : Ru → Bool) : ∀ (l : List Ru) (k : Nat) {j : Nat} {r : Ru}, Wu q l k = some (j, r) → q r = true ∧ r ∈ l
 | [], _, _, _, h => by cases h
 | r :: l, k, j, r', h => by
  unfold Wu at h
  split at h
  ·cases h; exact ⟨‹_›, List.mem_cons_self ..⟩
  obtain ⟨h1, h2⟩ := Qa3 q l (k + 1) h
  exact ⟨h1, List.mem_cons_of_mem _ h2⟩
theorem Qr2 {q : Ru → Bool} {l : List Ru} {k : Nat} (h : Wu q l k = none) : ∀ r ∈ l, q r = false := fun r hr => by
 have h1 := Qhq q l k
 rw [h] at h1
 have := List.find?_eq_none.1 h1 r hr
 simpa using this
def QlD (u : List Nm) (o : Option (Nat × Ru)) : Int × Int := match o with
 | none => (-1, 0)
 | some (k, r) => ((k : Int), (Qbu u r.t : Int))
def Qb7 (rs : List Ru) (t : List Nm) : Nat := rs.countP (fun r => !Jn t r.t)
theorem Qe5 {rs : List Ru} {t : List Nm} : WL rs t = match Wu (Ya t) rs 0 with | some (_, r) => t ++ [r.t] | none => t := by
 unfold WL
 rw [show (fun r : Ru => JR r.i t && !Jn t r.t) = Ya t from rfl, Qhq _ rs 0]
 cases h : Wu (Ya t) rs 0 with
 | none => rfl
 | some p => rfl
theorem Qbh {rs : List Ru} {t : List Nm} {r : Ru} (hr : r ∈ rs) (hf : Ya t r = true) : Qb7 rs (t ++ [r.t]) < Qb7 rs t := by
 have hnt : Jn t r.t = false := by
  unfold Ya at hf
  simp only [Bool.and_eq_true, Bool.not_eq_true'] at hf
  exact hf.2
 unfold Qb7
 clear hf
 have le : ∀ l : List Ru, l.countP (fun r' => !Jn (t ++ [r.t]) r'.t) ≤ l.countP (fun r' => !Jn t r'.t) := fun l => by
  refine List.countP_mono_left fun r' _ h => ?_
  rw [Qc8] at h
  simp at h ⊢
  exact h.1
 induction rs with
 | nil => cases hr
 | cons r' l ih =>
  rcases List.mem_cons.1 hr with e | hr
  ·subst e
   have hl := le l
   rw [List.countP_cons, List.countP_cons]
   rw [if_neg (by rw [Qc8]; simp), if_pos (by rw [hnt]; rfl)]
   omega
  have := ih hr
  rw [List.countP_cons, List.countP_cons]
  have h2 : (if (!Jn (t ++ [r.t]) r'.t) = true then 1 else 0) ≤ if (!Jn t r'.t) = true then 1 else 0 := by
   rw [Qc8]
   cases Jn t r'.t <;> cases (r'.t == r.t) <;> simp
  omega
theorem W4 {rs : List Ru} {t : List Nm} (h : WL rs t = t) : ∀ n, Yt rs n t = t
 | 0 => rfl
 | n + 1 => by rw [Yt, h, W4 h n]
theorem QbF {rs : List Ru} {t : List Nm} (h : Wu (Ya t) rs 0 = none) : WL rs t = t := by rw [Qe5, h]
theorem Qjh {rs : List Ru} : ∀ (n : Nat) (t : List Nm), Qb7 rs t ≤ n → Yt rs (n + 1) t = Yt rs n t
 | 0, t, h => by
  have h0 : WL rs t = t := by
   cases hf : Wu (Ya t) rs 0 with
   | none => exact QbF hf
   | some p =>
    obtain ⟨h1, h2⟩ := Qa3 _ rs 0 (j := p.1) (r := p.2) hf
    have := Qbh h2 h1
    omega
  rw [W4 h0, W4 h0]
 | n + 1, t, h => by
  cases hf : Wu (Ya t) rs 0 with
  | none => rw [W4 (QbF hf), W4 (QbF hf)]
  | some p =>
   obtain ⟨h1, h2⟩ := Qa3 _ rs 0 (j := p.1) (r := p.2) hf
   have h3 : WL rs t = t ++ [p.2.t] := by rw [Qe5, hf]
   have h4 := Qbh h2 h1
   show Yt rs (n + 1) (WL rs t) = Yt rs n (WL rs t)
   rw [h3]
   exact Qjh (rs := rs) n (t ++ [p.2.t]) (by omega)
theorem QgI {rs : List Ru} {t : List Nm} : Qb7 rs t ≤ rs.length := List.countP_le_length
theorem Quy {rs : List Ru} {t : List Nm} {k : Nat} {r : Ru} (hf : Wu (Ya t) rs 0 = some (k, r)) : Yt rs rs.length (t ++ [r.t]) = Yt rs rs.length t := by
 obtain ⟨h1, h2⟩ := Qa3 _ rs 0 hf
 have h3 : WL rs t = t ++ [r.t] := by rw [Qe5, hf]
 have h4 := Qbh h2 h1
 have h5 := QgI (rs := rs) (t := t)
 obtain ⟨n, hn⟩ : ∃ n, rs.length = n + 1 := ⟨rs.length - 1, by omega⟩
 have h6 := Qjh (rs := rs) n (t ++ [r.t]) (by omega)
 rw [hn]
 rw [h6, Yt, h3]
def Qcw : List Nm → List Bool → List Nm
 | x :: u, b :: l => if b then x :: Qcw u l else Qcw u l
 | _, _ => []
theorem QqE (u t : List Nm) : Qcw u (Y8 u t) = u.filter (Jn t) := by
 induction u with
 | nil => rfl
 | cons x u ih =>
  have h : Qcw (x :: u) (Y8 (x :: u) t) = if Jn t x then x :: Qcw u (Y8 u t) else Qcw u (Y8 u t) := rfl
  rw [h, ih, List.filter_cons]
theorem Qhv : ∀ {u : List Nm} {l : List Bool} {k : Nat} {x : Nm} {b : Bool}, u[k]? = some x → l[k]? = some b → Qcw (u.take (k + 1)) (l.take (k + 1)) = Qcw (u.take k) (l.take k) ++ (if b then [x] else [])
 | y :: u, c :: l, 0, x, b, h1, h2 => by
  simp at h1 h2; subst h1 h2
  cases c <;> simp [Qcw]
 | y :: u, c :: l, k + 1, x, b, h1, h2 => by
  have := Qhv (u := u) (l := l) (k := k) (by simpa using h1) (by simpa using h2)
  simp only [List.take_succ_cons, Qcw]
  cases c <;> simp only [Bool.false_eq_true, if_false, if_true] <;> rw [this]
  simp
 | [], _, _, _, _, h, _ => by simp at h
 | _ :: _, [], _, _, _, _, h => by simp at h
theorem Qn4 : ∀ (u : List Nm) (l : List Bool), (Qcw u l).length ≤ u.length
 | x :: u, b :: l => by
  have := Qn4 u l
  unfold Qcw
  split <;> simp <;> omega
 | [], _ => by simp [Qcw]
 | _ :: _, [] => by simp [Qcw]
theorem QsR {u : List Nm} {l : List Bool} {k : Nat} (h : u.length ≤ k) (h2 : l.length = u.length) : Qcw (u.take k) (l.take k) = Qcw u l := by rw [List.take_of_length_le h, List.take_of_length_le (by omega)]
theorem Qof {n : Nat} (h : n ≤ 1000000000) : IntKind.u64.wrap (n : Int) = ((n : Nat) : Int) := by simp only [IntKind.wrap_u64]; omega
theorem QoE {n : Nat} (h : n ≤ 1000000000) : IntKind.i64.wrap (((n : Nat) : Int) / 2) = ((n / 2 : Nat) : Int) := by rw [IntWalk.i64_in _ (by omega)]; omega
theorem QuK {u : List Nm} (hs : pw u) {i j : Nat} {x y : Nm} (h1 : u[i]? = some x) (h2 : u[j]? = some y) (h : i < j) : Op.bytesLess x y = true := by
 obtain ⟨g1, rfl⟩ := List.getElem?_eq_some_iff.1 h1
 obtain ⟨g2, rfl⟩ := List.getElem?_eq_some_iff.1 h2
 exact List.pairwise_iff_getElem.1 hs i j g1 g2 h
theorem Qtr {u : List Nm} (hs : pw u) {i j : Nat} {x y : Nm} (h1 : u[i]? = some x) (h2 : u[j]? = some y) : Op.bytesLess x y = decide (i < j) := by
 rcases Nat.lt_trichotomy i j with h | h | h
 ·rw [QuK hs h1 h2 h, decide_eq_true h]
 ·subst h
  rw [h1] at h2
  cases h2
  rw [Qcx, decide_eq_false (Nat.lt_irrefl _)]
 ·rw [decide_eq_false (by omega)]
  cases hb : Op.bytesLess x y
  ·rfl
  ·have := Qa5 hb (QuK hs h2 h1 h)
   rw [Qcx] at this; cases this
theorem Qrh (x y : Nm) : FC Tryz.prog 222 [sv x, sv y] (bl (Op.bytesLess x y)) := by
 refine Qd [4] Tryz.func222 rfl rfl 17 Tryz.ntmps222 (Nat.le_of_ble_eq_true rfl) ?_
 intro E hN
 refine Xz ?_; refine zP (Qc (Qkw x) rfl rfl rfl) ?_; refine YJ ?_; refine zQ ?_
 rfl
theorem Qpf (u : List Nm) (hu : u.length ≤ 1000000) (hs : pw u) (x : Nm) (i : Nat) (hi : u[i]? = some x) : FC Tryz.prog 209 [XU u, sv x] (.tup [i64 (i : Nat), bl true]) := by
 refine Qd [4, 5] Tryz.func209 rfl rfl 54 Tryz.ntmps209 (Nat.le_of_ble_eq_true rfl) ?_
 intro E hN
 have hiu : i < u.length := (List.getElem?_eq_some_iff.1 hi).1
 refine Qil ?_
 refine Qi (fun z : {q : Nat × Nat // q.1 ≤ i ∧ i ≤ q.2 ∧ q.2 ≤ u.length} => ⟨[(0, XU u), (1, sv x), (6, i64 u.length), (7, i64 (z.1.1 : Nat)), (8, i64 (z.1.2 : Nat))], [], 0⟩) (fun z => z.1.2 - z.1.1) (⟨(0, u.length), by dsimp only; omega⟩) ?_ ?_
 ·
  exact Qa rfl (Jg ⟨(QE (by simp)), rfl, rfl, rfl, (QE (by simp)), rfl, trivial⟩) trivial
 rintro ⟨⟨lo, hh⟩, h1, h2, h3⟩
 dsimp only at h1 h2 h3 ⊢
 refine Xz ?_
 refine zq ?_ ?_ <;> intro h9
 rotate_left
 ·
  have hge : hh ≤ lo := by simpa using h9
  obtain rfl : lo = i := by omega
  refine Je ?_
  refine zP (Xc (b := true) rfl rfl rfl (by simp; omega)) ?_
  refine QC ?_; refine zP (Qh rfl rfl rfl lo rfl _ (Qq hi) rfl) ?_; refine QO ?_; refine zP (Xc (b := true) rfl rfl rfl (by simp)) ?_
  refine WG ?_; refine zQ ?_
  rfl
 have hlt : lo < hh := by simpa using h9
 obtain ⟨y, hy⟩ := Qk (show (lo + hh) / 2 < u.length by omega)
 have hl := Qtr hs hy hi
 refine Xz ?_; refine zP (Qgx rfl rfl ((lo + hh : Nat) : Int) (Qof (by omega))) ?_; refine zB ?_
 refine zP (Qgx rfl rfl (((lo + hh) / 2 : Nat) : Int) (QoE (by omega))) ?_; refine Je ?_
 refine zP (Qh rfl rfl rfl ((lo + hh) / 2) rfl _ (Qq hy) rfl) ?_; refine QO ?_; refine zP (Qc (Qrh _ x) rfl rfl rfl) ?_
 refine zN ?_
 refine zq ?_ ?_ <;> intro h16
 ·
  have h5 : (lo + hh) / 2 < i := of_decide_eq_true (hl ▸ h16)
  refine QJ ?_; refine Qb ?_
  exact ⟨⟨((lo + hh) / 2 + 1, hh), by dsimp only; omega⟩, Qa rfl (QR (Xu trivial)) trivial, by dsimp only; omega⟩
 have h5 : ¬ (lo + hh) / 2 < i := of_decide_eq_false (hl ▸ h16)
 refine QC ?_; refine Qb ?_
 exact ⟨⟨(lo, (lo + hh) / 2), by dsimp only; omega⟩, Qa rfl (QR (Xu trivial)) trivial, by dsimp only; omega⟩
theorem QrT (u : List Nm) (hu : u.length ≤ 1000000) (hs : pw u) (R : AV) (x : Nm) (hx : x ∈ u) : FC Tryz.prog 194 [.el [XU u, R], sv x] (i64 (Qbu u x : Nat)) := by
 refine Qd [4] Tryz.func194 rfl rfl 19 Tryz.ntmps194 (Nat.le_of_ble_eq_true rfl) ?_
 intro E hN
 refine Xz ?_; refine zP (Qeu rfl rfl rfl) ?_; refine QC ?_; refine zP (Qc (Qpf u hu hs x _ (QnP hx)) rfl rfl rfl) ?_; refine JA ?_
 refine zq ?_ ?_ <;> intro h7
 ·
  cases h7
 refine QA ?_; refine zQ ?_
 rfl
theorem QrF (n : Int) : FC Tryz.prog 196 [i64 n] (bl true) := by
 refine Qd [2] Tryz.func196 rfl rfl 3 Tryz.ntmps196 (Nat.le_of_ble_eq_true rfl) ?_
 intro E hN
 refine Xz ?_; refine zQ ?_
 rfl
theorem QqG (h : List Nat × Nat) (bits : List Bool) (h2 : h.2 < bits.length) (h1 : ∀ i ∈ h.1, i < bits.length) : FC Tryz.prog 210 [.agg (hrC h), .sl (bits.map bv1) none] (bl (QfJ bits h)) := by
 refine Qd [4] Tryz.func210 rfl rfl 25 Tryz.ntmps210 (Nat.le_of_ble_eq_true rfl) ?_
 intro E hN
 obtain ⟨y, hy⟩ := Qk h2
 have hby := QjJ hy
 refine YJ ?_; refine zP (Qh rfl rfl rfl h.2 rfl _ (Qq hy) rfl) ?_; refine QO ?_
 refine zq ?_ ?_ <;> intro h7
 ·
  refine QC ?_; refine zQ ?_
  exact Qt (by simp_all [QfJ])
 refine XN ?_
 refine Qi (fun x : {k : Nat // k ≤ (h.1).length ∧ (h.1.drop k).all (Qif bits) = h.1.all (Qif bits)} => ⟨[(1, .sl (bits.map bv1) none), (13, .sl (h.1.map nv1) none), (14, i64 h.1.length), (15, i64 (x.1 : Nat))], [], 0⟩) (fun x => (h.1).length - x.1) (⟨0, Nat.zero_le _, by simp⟩) ?_ ?_
 ·
  exact Qa rfl (Jg ⟨(QE (by simp)), rfl, (Xu trivial)⟩) trivial
 rintro ⟨k, hk, hg⟩
 dsimp only
 refine JK 13 rfl (fun hl13 => ?_)
 refine QA ?_
 refine zq ?_ ?_ <;> intro h15
 rotate_left
 ·
  have hge : (h.1).length ≤ k := by simpa using h15
  refine QJ ?_; refine zQ ?_
  exact Qt (by rw [QfJ, X4 hg hge]; simp_all)
 have hlt : k < (h.1).length := by simpa using h15
 obtain ⟨x, hx⟩ := Qk hlt
 obtain ⟨z, hz⟩ := Qk (h1 x (List.mem_of_getElem? hx))
 have hbz := QjJ hz
 refine QA ?_; refine zP (Qh rfl rfl rfl k rfl _ (Qq hx) rfl) ?_; refine Xz ?_; refine zP (Qh rfl rfl rfl x rfl _ (Qq hz) rfl) ?_
 refine QC ?_
 refine zq ?_ ?_ <;> intro h19
 ·
  have h8 := h19
  refine QC ?_; refine zQ ?_
  exact Qt (by rw [QfJ, Q6 hg hx (by simp_all)]; simp)
 have h8 := h19
 refine QJ ?_; refine Qb ?_
 exact ⟨⟨k + 1, hlt, XF hg hx (by rw [hbz]; simpa using n0 h8)⟩, Qa rfl (Xl ⟨(QE (by dsimp only; omega)), rfl, trivial⟩) trivial, by dsimp only; omega⟩
end Go.Proofs.YtaecccdkjmipeaaGreat
