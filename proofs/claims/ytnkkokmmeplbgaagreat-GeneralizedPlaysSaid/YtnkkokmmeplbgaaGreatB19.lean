/-
  Plain laws: the chain of rules that close a set of names, by
-/
import Derived.Test.YtnkkokmmeplbgaaGreatB11
import Derived.Test.YtnkkokmmeplbgaaGreatB10
import Derived.Test.YtnkkokmmeplbgaaGreatA5
namespace Go.Proofs.YtnkkokmmeplbgaaGreat
set_option maxRecDepth 100000
set_option maxHeartbeats 1000000
open Go.RowKit
def Qbx (u : List Nm) (x : Nm) : Nat := u.idxOf x
theorem Qb6 {u : List Nm} {x : Nm} (h : x ∈ u) : Qbx u x < u.length := List.idxOf_lt_length_iff.2 h
theorem Qmc {u : List Nm} {x : Nm} (h : x ∈ u) : u[Qbx u x]? = some x := by
 rw [List.getElem?_eq_getElem (Qb6 h)];exact congrArg some (List.getElem_idxOf (Qb6 h))
theorem Qte {u : List Nm} (hs : pw u) {i : Nat} {x : Nm} (h : u[i]? = some x) : Qbx u x = i := by
 obtain ⟨h1, h2⟩ := List.getElem?_eq_some_iff.1 h
 have hn : u.Nodup := hs.imp (fun h => Qdh h)
 subst h2
 exact hn.idxOf_getElem i h1
def Y3 (u t : List Nm) : List Bool := u.map (X6 t)
theorem Qde {u t : List Nm} : (Y3 u t).length = u.length := by simp [Y3]
theorem QnO {u t : List Nm} {x : Nm} (h : x ∈ u) : (Y3 u t)[Qbx u x]? = some (X6 t x) := by
 unfold Y3
 rw [List.getElem?_map, Qmc h]; rfl
theorem QcK {t : List Nm} {x y : Nm} : X6 (t ++ [x]) y = (X6 t y || y == x) := by simp [X6]
theorem Qlu {u t : List Nm} (hs : pw u) {x : Nm} (h : x ∈ u) : (Y3 u t).set (Qbx u x) true = Y3 u (t ++ [x]) := by
 apply List.ext_getElem?
 intro i
 unfold Y3
 rw [List.getElem?_set, List.getElem?_map]
 by_cases hi : Qbx u x = i
 ·rw [if_pos hi]
  subst hi
  rw [if_pos (by simpa using Qb6 h), List.getElem?_map, Qmc h]
  simp [QcK]
 rw [if_neg hi, List.getElem?_map]
 cases hy : u[i]? with
 | none => rfl
 | some y =>
  have : (y == x) = false := by
   rw [beq_eq_false_iff_ne];intro e
   subst e
   exact hi (Qte hs hy)
  simp [QcK, this]
def W7 (u : List Nm) (r : Ru) : List Nat × Nat := (r.i.map (Qbx u), Qbx u r.t)
def nv1 (n : Nat) : List AV := [i64 (n : Nat)]
def hrC (h : List Nat × Nat) : List AV := [.sl (h.1.map nv1) none, i64 (h.2 : Nat)]
abbrev hrs (l : List (List Nat × Nat)) : AV := .sl (l.map hrC) none
def Qg5 (bits : List Bool) (i : Nat) : Bool := bits.getD i false
theorem QjO {bits : List Bool} {i : Nat} {b : Bool} (h : bits[i]? = some b) : Qg5 bits i = b := by
 unfold Qg5
 rw [List.getD_eq_getElem?_getD, h]; rfl
def Qfj (bits : List Bool) (h : List Nat × Nat) : Bool := !Qg5 bits h.2 && h.1.all (Qg5 bits)
def X2 (t : List Nm) (r : Ru) : Bool := J6 r.i t && !X6 t r.t
theorem Qq2 {u t : List Nm} {r : Ru} (h1 : ∀ x ∈ r.i, x ∈ u) (h2 : r.t ∈ u) : Qfj (Y3 u t) (W7 u r) = X2 t r := by
 unfold Qfj X2 W7
 rw [QjO (QnO h2), Bool.and_comm]
 congr 1
 rw [List.all_map]
 unfold J6
 have : ∀ l : List Nm, (∀ x ∈ l, x ∈ u) → l.all (Qg5 (Y3 u t) ∘ Qbx u) = l.all (X6 t) := by
  intro l hl
  induction l with
  | nil => rfl
  | cons x l ih =>
   rw [List.all_cons, List.all_cons, ih fun y hy => hl y (List.mem_cons_of_mem _ hy)];rw [Function.comp, QjO (QnO (hl x (List.mem_cons_self ..)))]
 exact this r.i h1
def Kl (q : Ru → Bool) : List Ru → Nat → Option (Nat × Ru)
 | [], _ => none
 | r :: l, k => if q r then some (k, r) else Kl q l (k + 1)
theorem Qhh (q : Ru → Bool) : ∀ (l : List Ru) (k : Nat), l.find? q = (Kl q l k).map (·.2)
 | [], _ => rfl
 | r :: l, k => by
  unfold Kl
  rw [List.find?_cons]
  cases h : q r
  ·simp [Qhh q l (k + 1)]
  simp
theorem Y0 (q : Ru → Bool) : ∀ (l : List Ru) (k : Nat) {j : Nat} {r : Ru}, Kl q l k = some (j, r) → q r = true ∧ r ∈ l
 | [], _, _, _, h => by cases h
 | r :: l, k, j, r', h => by
  unfold Kl at h
  split at h
  ·cases h; exact ⟨‹_›, List.mem_cons_self ..⟩
  obtain ⟨h1, h2⟩ := Y0 q l (k + 1) h;exact ⟨h1, List.mem_cons_of_mem _ h2⟩
theorem Qrq {q : Ru → Bool} {l : List Ru} {k : Nat} (h : Kl q l k = none) : ∀ r ∈ l, q r = false := fun r hr => by
 have h1 := Qhh q l k
 rw [h] at h1
 have := List.find?_eq_none.1 h1 r hr
 simpa using this
def Qll (u : List Nm) (o : Option (Nat × Ru)) : Int × Int := match o with
 | none => (-1, 0)
 | some (k, r) => ((k : Int), (Qbx u r.t : Int))
def QbM (rs : List Ru) (t : List Nm) : Nat := rs.countP (fun r => !X6 t r.t)
theorem QeL {rs : List Ru} {t : List Nm} : WO rs t = match Kl (X2 t) rs 0 with | some (_, r) => t ++ [r.t] | none => t := by
 unfold WO
 rw [show (fun r : Ru => J6 r.i t && !X6 t r.t) = X2 t from rfl, Qhh _ rs 0]
 cases h : Kl (X2 t) rs 0 with
 | none => rfl
 | some p => rfl
theorem Kv {rs : List Ru} {t : List Nm} {r : Ru} (hr : r ∈ rs) (hf : X2 t r = true) : QbM rs (t ++ [r.t]) < QbM rs t := by
 have hnt : X6 t r.t = false := by
  unfold X2 at hf
  simp only [Bool.and_eq_true, Bool.not_eq_true'] at hf
  exact hf.2
 unfold QbM
 clear hf
 have le : ∀ l : List Ru, l.countP (fun r' => !X6 (t ++ [r.t]) r'.t) ≤ l.countP (fun r' => !X6 t r'.t) := fun l => by
  refine List.countP_mono_left fun r' _ h => ?_
  rw [QcK] at h
  simp at h ⊢
  exact h.1
 induction rs with
 | nil => cases hr
 | cons r' l ih =>
  rcases List.mem_cons.1 hr with e | hr
  ·subst e
   have hl := le l
   rw [List.countP_cons, List.countP_cons];rw [if_neg (by rw [QcK]; simp), if_pos (by rw [hnt]; rfl)]
   omega
  have := ih hr
  rw [List.countP_cons, List.countP_cons]
  have h2 : (if (!X6 (t ++ [r.t]) r'.t) = true then 1 else 0) ≤ if (!X6 t r'.t) = true then 1 else 0 := by
   rw [QcK]
   cases X6 t r'.t <;> cases (r'.t == r.t) <;> simp
  omega
theorem K2 {rs : List Ru} {t : List Nm} (h : WO rs t = t) : ∀ n, Yk rs n t = t
 | 0 => rfl
 | n + 1 => by rw [Yk, h, K2 h n]
theorem Qan {rs : List Ru} {t : List Nm} (h : Kl (X2 t) rs 0 = none) : WO rs t = t := by rw [QeL, h]
theorem Qh6 {rs : List Ru} : ∀ (n : Nat) (t : List Nm), QbM rs t ≤ n → Yk rs (n + 1) t = Yk rs n t
 | 0, t, h => by
  have h0 : WO rs t = t := by
   cases hf : Kl (X2 t) rs 0 with
   | none => exact Qan hf
   | some p =>
    obtain ⟨h1, h2⟩ := Y0 _ rs 0 (j := p.1) (r := p.2) hf
    have := Kv h2 h1
    omega
  rw [K2 h0, K2 h0]
 | n + 1, t, h => by
  cases hf : Kl (X2 t) rs 0 with
  | none => rw [K2 (Qan hf), K2 (Qan hf)]
  | some p =>
   obtain ⟨h1, h2⟩ := Y0 _ rs 0 (j := p.1) (r := p.2) hf
   have h3 : WO rs t = t ++ [p.2.t] := by rw [QeL, hf]
   have h4 := Kv h2 h1
   show Yk rs (n + 1) (WO rs t) = Yk rs n (WO rs t)
   rw [h3];exact Qh6 (rs := rs) n (t ++ [p.2.t]) (by omega)
theorem Qe0 {rs : List Ru} {t : List Nm} : QbM rs t ≤ rs.length := List.countP_le_length
theorem Qnv {rs : List Ru} {t : List Nm} {k : Nat} {r : Ru} (hf : Kl (X2 t) rs 0 = some (k, r)) : Yk rs rs.length (t ++ [r.t]) = Yk rs rs.length t := by
 obtain ⟨h1, h2⟩ := Y0 _ rs 0 hf
 have h3 : WO rs t = t ++ [r.t] := by rw [QeL, hf]
 have h4 := Kv h2 h1
 have h5 := Qe0 (rs := rs) (t := t)
 obtain ⟨n, hn⟩ : ∃ n, rs.length = n + 1 := ⟨rs.length - 1, by omega⟩
 have h6 := Qh6 (rs := rs) n (t ++ [r.t]) (by omega)
 rw [hn];rw [h6, Yk, h3]
def Qca : List Nm → List Bool → List Nm
 | x :: u, b :: l => if b then x :: Qca u l else Qca u l
 | _, _ => []
theorem Qrm (u t : List Nm) : Qca u (Y3 u t) = u.filter (X6 t) := by
 induction u with
 | nil => rfl
 | cons x u ih =>
  have h : Qca (x :: u) (Y3 (x :: u) t) = if X6 t x then x :: Qca u (Y3 u t) else Qca u (Y3 u t) := rfl
  rw [h, ih, List.filter_cons]
theorem Qhe : ∀ {u : List Nm} {l : List Bool} {k : Nat} {x : Nm} {b : Bool}, u[k]? = some x → l[k]? = some b → Qca (u.take (k + 1)) (l.take (k + 1)) = Qca (u.take k) (l.take k) ++ (if b then [x] else [])
 | y :: u, c :: l, 0, x, b, h1, h2 => by
  simp at h1 h2; subst h1 h2
  cases c <;> simp [Qca]
 | y :: u, c :: l, k + 1, x, b, h1, h2 => by
  have := Qhe (u := u) (l := l) (k := k) (by simpa using h1) (by simpa using h2)
  simp only [List.take_succ_cons, Qca]
  cases c <;> simp only [Bool.false_eq_true, if_false, if_true] <;> rw [this]
  simp
 | [], _, _, _, _, h, _ => by simp at h
 | _ :: _, [], _, _, _, _, h => by simp at h
theorem QnU : ∀ (u : List Nm) (l : List Bool), (Qca u l).length ≤ u.length
 | x :: u, b :: l => by
  have := QnU u l
  unfold Qca
  split <;> simp <;> omega
 | [], _ => by simp [Qca]
 | _ :: _, [] => by simp [Qca]
theorem QtI {u : List Nm} {l : List Bool} {k : Nat} (h : u.length ≤ k) (h2 : l.length = u.length) : Qca (u.take k) (l.take k) = Qca u l := by rw [List.take_of_length_le h, List.take_of_length_le (by omega)]
theorem QsV {n : Nat} (h : n ≤ 1000000000) : IntKind.u64.wrap (n : Int) = ((n : Nat) : Int) := by simp only [IntKind.wrap_u64]; omega
theorem QsB {n : Nat} (h : n ≤ 1000000000) : IntKind.i64.wrap (((n : Nat) : Int) / 2) = ((n / 2 : Nat) : Int) := by rw [IntWalk.i64_in _ (by omega)]; omega
theorem Qud {u : List Nm} (hs : pw u) {i j : Nat} {x y : Nm} (h1 : u[i]? = some x) (h2 : u[j]? = some y) (h : i < j) : Op.bytesLess x y = true := by
 obtain ⟨g1, rfl⟩ := List.getElem?_eq_some_iff.1 h1;obtain ⟨g2, rfl⟩ := List.getElem?_eq_some_iff.1 h2;exact List.pairwise_iff_getElem.1 hs i j g1 g2 h
theorem Qs3 {u : List Nm} (hs : pw u) {i j : Nat} {x y : Nm} (h1 : u[i]? = some x) (h2 : u[j]? = some y) : Op.bytesLess x y = decide (i < j) := by
 rcases Nat.lt_trichotomy i j with h | h | h
 ·rw [Qud hs h1 h2 h, decide_eq_true h]
 ·subst h
  rw [h1] at h2
  cases h2
  rw [Qcc, decide_eq_false (Nat.lt_irrefl _)]
 ·rw [decide_eq_false (by omega)]
  cases hb : Op.bytesLess x y
  ·rfl
  ·have := Qbc hb (Qud hs h2 h1 h)
   rw [Qcc] at this; cases this
theorem QqP (x y : Nm) : FC Tryz.prog 254 [sv x, sv y] (bl (Op.bytesLess x y)) := by
 refine Qh [4] Tryz.func254 rfl rfl 17 Tryz.ntmps254 (Nat.le_of_ble_eq_true rfl) ?_
 intro E hN;refine Xg ?_;refine zP (Qd (Qi9 x) rfl rfl rfl) ?_;refine Xn ?_;refine zQ ?_
 rfl
theorem Qox (u : List Nm) (hu : u.length ≤ 1000000) (hs : pw u) (x : Nm) (i : Nat) (hi : u[i]? = some x) : FC Tryz.prog 241 [XS u, sv x] (.tup [i64 (i : Nat), bl true]) := by
 refine Qh [4, 5] Tryz.func241 rfl rfl 54 Tryz.ntmps241 (Nat.le_of_ble_eq_true rfl) ?_
 intro E hN
 have hiu : i < u.length := (List.getElem?_eq_some_iff.1 hi).1
 refine Qes ?_;refine Qm (fun z : {q : Nat × Nat // q.1 ≤ i ∧ i ≤ q.2 ∧ q.2 ≤ u.length} => ⟨[(0, XS u), (1, sv x), (6, i64 u.length), (7, i64 (z.1.1 : Nat)), (8, i64 (z.1.2 : Nat))], [], 0⟩) (fun z => z.1.2 - z.1.1) (⟨(0, u.length), by dsimp only; omega⟩) ?_ ?_
 ·exact Qa rfl (Yf ⟨(Y6 (by simp)), rfl, rfl, rfl, (Y6 (by simp)), rfl, trivial⟩) trivial
 rintro ⟨⟨lo, hh⟩, h1, h2, h3⟩;dsimp only at h1 h2 h3 ⊢;refine Xg ?_
 refine zq ?_ ?_ <;> intro h9
 rotate_left
 ·have hge : hh ≤ lo := by simpa using h9
  obtain rfl : lo = i := by omega
  refine Xk ?_;refine zP (Ql (b := true) rfl rfl rfl (by simp; omega)) ?_;refine QD ?_;refine zP (Qf rfl rfl rfl lo rfl _ (Qi hi) rfl) ?_;refine QH ?_;refine zP (Ql (b := true) rfl rfl rfl (by simp)) ?_;refine YI ?_;refine zQ ?_
  rfl
 have hlt : lo < hh := by simpa using h9
 obtain ⟨y, hy⟩ := Qq (show (lo + hh) / 2 < u.length by omega)
 have hl := Qs3 hs hy hi
 refine Xg ?_;refine zP (QnH rfl rfl ((lo + hh : Nat) : Int) (QsV (by omega))) ?_;refine zB ?_;refine zP (QnH rfl rfl (((lo + hh) / 2 : Nat) : Int) (QsB (by omega))) ?_;refine Xk ?_;refine zP (Qf rfl rfl rfl ((lo + hh) / 2) rfl _ (Qi hy) rfl) ?_;refine QH ?_;refine zP (Qd (QqP _ x) rfl rfl rfl) ?_;refine zN ?_
 refine zq ?_ ?_ <;> intro h16
 ·have h5 : (lo + hh) / 2 < i := of_decide_eq_true (hl ▸ h16)
  refine QC ?_;refine Qb ?_;exact ⟨⟨((lo + hh) / 2 + 1, hh), by dsimp only; omega⟩, Qa rfl (YO (XE trivial)) trivial, by dsimp only; omega⟩
 have h5 : ¬ (lo + hh) / 2 < i := of_decide_eq_false (hl ▸ h16)
 refine QD ?_;refine Qb ?_;exact ⟨⟨(lo, (lo + hh) / 2), by dsimp only; omega⟩, Qa rfl (YO (XE trivial)) trivial, by dsimp only; omega⟩
theorem Qqq (u : List Nm) (hu : u.length ≤ 1000000) (hs : pw u) (R : AV) (x : Nm) (hx : x ∈ u) : FC Tryz.prog 231 [.el [XS u, R], sv x] (i64 (Qbx u x : Nat)) := by
 refine Qh [4] Tryz.func231 rfl rfl 19 Tryz.ntmps231 (Nat.le_of_ble_eq_true rfl) ?_
 intro E hN;refine Xn ?_;refine zP (Qd (Qox u hu hs x _ (Qmc hx)) rfl rfl rfl) ?_;refine Jx ?_
 refine zq ?_ ?_ <;> intro h7
 ·cases h7
 refine Qy ?_;refine zQ ?_
 rfl
theorem Qqc (n : Int) : FC Tryz.prog 233 [i64 n] (bl true) := by
 refine Qh [2] Tryz.func233 rfl rfl 3 Tryz.ntmps233 (Nat.le_of_ble_eq_true rfl) ?_
 intro E hN;refine Xg ?_;refine zQ ?_
 rfl
theorem Qp2 (h : List Nat × Nat) (bits : List Bool) (h2 : h.2 < bits.length) (h1 : ∀ i ∈ h.1, i < bits.length) : FC Tryz.prog 242 [.agg (hrC h), .sl (bits.map Xw) none] (bl (Qfj bits h)) := by
 refine Qh [4] Tryz.func242 rfl rfl 25 Tryz.ntmps242 (Nat.le_of_ble_eq_true rfl) ?_
 intro E hN;obtain ⟨y, hy⟩ := Qq h2
 have hby := QjO hy
 refine Xn ?_;refine zP (Qf rfl rfl rfl h.2 rfl _ (Qi hy) rfl) ?_;refine QH ?_
 refine zq ?_ ?_ <;> intro h7
 ·refine QD ?_;refine zQ ?_;exact Qo (by simp_all [Qfj])
 refine Xs ?_;refine Qm (fun x : {k : Nat // k ≤ (h.1).length ∧ (h.1.drop k).all (Qg5 bits) = h.1.all (Qg5 bits)} => ⟨[(1, .sl (bits.map Xw) none), (13, .sl (h.1.map nv1) none), (14, i64 h.1.length), (15, i64 (x.1 : Nat))], [], 0⟩) (fun x => (h.1).length - x.1) (⟨0, Nat.zero_le _, by simp⟩) ?_ ?_
 ·exact Qa rfl (Yf ⟨(Y6 (by simp)), rfl, (XE trivial)⟩) trivial
 rintro ⟨k, hk, hg⟩;dsimp only;refine Jq 13 rfl (fun hl13 => ?_);refine Qy ?_
 refine zq ?_ ?_ <;> intro h15
 rotate_left
 ·have hge : (h.1).length ≤ k := by simpa using h15
  refine QC ?_;refine zQ ?_;exact Qo (by rw [Qfj, X4 hg hge]; simp_all)
 have hlt : k < (h.1).length := by simpa using h15
 obtain ⟨x, hx⟩ := Qq hlt;obtain ⟨z, hz⟩ := Qq (h1 x (List.mem_of_getElem? hx))
 have hbz := QjO hz
 refine Qy ?_;refine zP (Qf rfl rfl rfl k rfl _ (Qi hx) rfl) ?_;refine Xg ?_;refine zP (Qf rfl rfl rfl x rfl _ (Qi hz) rfl) ?_;refine QD ?_
 refine zq ?_ ?_ <;> intro h19
 ·have h8 := h19
  refine QD ?_;refine zQ ?_;exact Qo (by rw [Qfj, Q6 hg hx (by simp_all)]; simp)
 have h8 := h19
 refine QC ?_;refine Qb ?_;exact ⟨⟨k + 1, hlt, XG hg hx (by rw [hbz]; simpa using n0 h8)⟩, Qa rfl (JZ ⟨X5, rfl, trivial⟩) trivial, by dsimp only; omega⟩
end Go.Proofs.YtnkkokmmeplbgaaGreat
