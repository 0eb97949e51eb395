/-
  Plain laws: the chain of rules that close a set of names, by places.
  Contracts: closing names under rules.
-/
import Derived.Test.YtaecccdkjmipeaaGreatB11
import Derived.Test.YtaecccdkjmipeaaGreatB10
import Derived.Test.YtaecccdkjmipeaaGreatA5
namespace Go.Proofs.YtaecccdkjmipeaaGreat
open Go.RowKit

def posN (u : List Nm) (x : Nm) : Nat := u.idxOf x
theorem pos_lt {u : List Nm} {x : Nm} (h : x ∈ u) : posN u x < u.length := List.idxOf_lt_length_iff.2 h
theorem pos_at {u : List Nm} {x : Nm} (h : x ∈ u) : u[posN u x]? = some x := by
 rw [List.getElem?_eq_getElem (pos_lt h)]
 exact congrArg some (List.getElem_idxOf (pos_lt h))
theorem pos_one {u : List Nm} (hs : pw u) {i : Nat} {x : Nm} (h : u[i]? = some x) : posN u x = i := by
 obtain ⟨h1, h2⟩ := List.getElem?_eq_some_iff.1 h
 have hn : u.Nodup := hs.imp (fun h => bl_ne2 h)
 subst h2
 exact hn.idxOf_getElem i h1
/-- which names of u lie in t -/
def memb (u t : List Nm) : List Bool := u.map (hasB t)
theorem memb_len {u t : List Nm} : (memb u t).length = u.length := by simp [memb]
theorem memb_at {u t : List Nm} {x : Nm} (h : x ∈ u) : (memb u t)[posN u x]? = some (hasB t x) := by
 unfold memb
 rw [List.getElem?_map, pos_at h]; rfl
theorem has_snoc {t : List Nm} {x y : Nm} : hasB (t ++ [x]) y = (hasB t y || y == x) := by simp [hasB]
theorem memb_set {u t : List Nm} (hs : pw u) {x : Nm} (h : x ∈ u) : (memb u t).set (posN u x) true = memb u (t ++ [x]) := by
 apply List.ext_getElem?
 intro i
 unfold memb
 rw [List.getElem?_set, List.getElem?_map]
 by_cases hi : posN u x = i
 ·rw [if_pos hi]
  subst hi
  rw [if_pos (by simpa using pos_lt h), List.getElem?_map, pos_at h]
  simp [has_snoc]
 rw [if_neg hi, List.getElem?_map]
 cases hy : u[i]? with
 | none => rfl
 | some y =>
  have : (y == x) = false := by
   rw [beq_eq_false_iff_ne]
   intro e
   subst e
   exact hi (pos_one hs hy)
  simp [has_snoc, this]
/-- a rule by places -/
def hornN (u : List Nm) (r : Ru) : List Nat × Nat := (r.i.map (posN u), posN u r.t)
def nv1 (n : Nat) : List AV := [i64 (n : Nat)]
def hrC (h : List Nat × Nat) : List AV := [.sl (h.1.map nv1) none, i64 (h.2 : Nat)]
abbrev hrs (l : List (List Nat × Nat)) : AV := .sl (l.map hrC) none
def bitAt (bits : List Bool) (i : Nat) : Bool := bits.getD i false
theorem bit_of {bits : List Bool} {i : Nat} {b : Bool} (h : bits[i]? = some b) : bitAt bits i = b := by
 unfold bitAt
 rw [List.getD_eq_getElem?_getD, h]; rfl
def firesB (bits : List Bool) (h : List Nat × Nat) : Bool := !bitAt bits h.2 && h.1.all (bitAt bits)
def firesR (t : List Nm) (r : Ru) : Bool := subsetB r.i t && !hasB t r.t
theorem fires_eq {u t : List Nm} {r : Ru} (h1 : ∀ x ∈ r.i, x ∈ u) (h2 : r.t ∈ u) : firesB (memb u t) (hornN u r) = firesR t r := by
 unfold firesB firesR hornN
 rw [bit_of (memb_at h2), Bool.and_comm]
 congr 1
 rw [List.all_map]
 unfold subsetB
 have : ∀ l : List Nm, (∀ x ∈ l, x ∈ u) → l.all (bitAt (memb u t) ∘ posN u) = l.all (hasB t) := by
  intro l hl
  induction l with
  | nil => rfl
  | cons x l ih =>
   rw [List.all_cons, List.all_cons, ih fun y hy => hl y (List.mem_cons_of_mem _ hy)]
   rw [Function.comp, bit_of (memb_at (hl x (List.mem_cons_self ..)))]
 exact this r.i h1
/-- the first one that fires -/
def fstR (q : Ru → Bool) : List Ru → Nat → Option (Nat × Ru)
 | [], _ => none
 | r :: l, k => if q r then some (k, r) else fstR q l (k + 1)
theorem fst_find (q : Ru → Bool) : ∀ (l : List Ru) (k : Nat), l.find? q = (fstR q l k).map (·.2)
 | [], _ => rfl
 | r :: l, k => by
  unfold fstR
  rw [List.find?_cons]
  cases h : q r
  ·simp [fst_find q l (k + 1)]
  simp
theorem fst_some (q : Ru → Bool) : ∀ (l : List Ru) (k : Nat) {j : Nat} {r : Ru}, fstR q l k = some (j, r) → q r = true ∧ r ∈ l
 | [], _, _, _, h => by cases h
 | r :: l, k, j, r', h => by
  unfold fstR at h
  split at h
  ·cases h; exact ⟨‹_›, List.mem_cons_self ..⟩
  obtain ⟨h1, h2⟩ := fst_some q l (k + 1) h
  exact ⟨h1, List.mem_cons_of_mem _ h2⟩
theorem fst_none {q : Ru → Bool} {l : List Ru} {k : Nat} (h : fstR q l k = none) : ∀ r ∈ l, q r = false := fun r hr => by
 have h1 := fst_find q l k
 rw [h] at h1
 have := List.find?_eq_none.1 h1 r hr
 simpa using this
def fndP (u : List Nm) (o : Option (Nat × Ru)) : Int × Int := match o with
 | none => (-1, 0)
 | some (k, r) => ((k : Int), (posN u r.t : Int))
/-- rules whose conclusion is not yet there -/
def todo (rs : List Ru) (t : List Nm) : Nat := rs.countP (fun r => !hasB t r.t)
theorem stepC_eq {rs : List Ru} {t : List Nm} : stepC rs t = match fstR (firesR t) rs 0 with | some (_, r) => t ++ [r.t] | none => t := by
 unfold stepC
 rw [show (fun r : Ru => subsetB r.i t && !hasB t r.t) = firesR t from rfl, fst_find _ rs 0]
 cases h : fstR (firesR t) rs 0 with
 | none => rfl
 | some p => rfl
theorem todo_lt {rs : List Ru} {t : List Nm} {r : Ru} (hr : r ∈ rs) (hf : firesR t r = true) : todo rs (t ++ [r.t]) < todo rs t := by
 have hnt : hasB t r.t = false := by
  unfold firesR at hf
  simp only [Bool.and_eq_true, Bool.not_eq_true'] at hf
  exact hf.2
 unfold todo
 clear hf
 have le : ∀ l : List Ru, l.countP (fun r' => !hasB (t ++ [r.t]) r'.t) ≤ l.countP (fun r' => !hasB t r'.t) := fun l => by
  refine List.countP_mono_left fun r' _ h => ?_
  rw [has_snoc] at h
  simp at h ⊢
  exact h.1
 induction rs with
 | nil => cases hr
 | cons r' l ih =>
  rcases List.mem_cons.1 hr with e | hr
  ·subst e
   have hl := le l
   rw [List.countP_cons, List.countP_cons]
   rw [if_neg (by rw [has_snoc]; simp), if_pos (by rw [hnt]; rfl)]
   omega
  have := ih hr
  rw [List.countP_cons, List.countP_cons]
  have h2 : (if (!hasB (t ++ [r.t]) r'.t) = true then 1 else 0) ≤ if (!hasB t r'.t) = true then 1 else 0 := by
   rw [has_snoc]
   cases hasB t r'.t <;> cases (r'.t == r.t) <;> simp
  omega
theorem iter_stay {rs : List Ru} {t : List Nm} (h : stepC rs t = t) : ∀ n, iterC rs n t = t
 | 0 => rfl
 | n + 1 => by rw [iterC, h, iter_stay h n]
theorem step_stay {rs : List Ru} {t : List Nm} (h : fstR (firesR t) rs 0 = none) : stepC rs t = t := by rw [stepC_eq, h]
theorem iter_stab {rs : List Ru} : ∀ (n : Nat) (t : List Nm), todo rs t ≤ n → iterC rs (n + 1) t = iterC rs n t
 | 0, t, h => by
  have h0 : stepC rs t = t := by
   cases hf : fstR (firesR t) rs 0 with
   | none => exact step_stay hf
   | some p =>
    obtain ⟨h1, h2⟩ := fst_some _ rs 0 (j := p.1) (r := p.2) hf
    have := todo_lt h2 h1
    omega
  rw [iter_stay h0, iter_stay h0]
 | n + 1, t, h => by
  cases hf : fstR (firesR t) rs 0 with
  | none => rw [iter_stay (step_stay hf), iter_stay (step_stay hf)]
  | some p =>
   obtain ⟨h1, h2⟩ := fst_some _ rs 0 (j := p.1) (r := p.2) hf
   have h3 : stepC rs t = t ++ [p.2.t] := by rw [stepC_eq, hf]
   have h4 := todo_lt h2 h1
   show iterC rs (n + 1) (stepC rs t) = iterC rs n (stepC rs t)
   rw [h3]
   exact iter_stab (rs := rs) n (t ++ [p.2.t]) (by omega)
theorem todo_le {rs : List Ru} {t : List Nm} : todo rs t ≤ rs.length := List.countP_le_length
theorem iter_go {rs : List Ru} {t : List Nm} {k : Nat} {r : Ru} (hf : fstR (firesR t) rs 0 = some (k, r)) : iterC rs rs.length (t ++ [r.t]) = iterC rs rs.length t := by
 obtain ⟨h1, h2⟩ := fst_some _ rs 0 hf
 have h3 : stepC rs t = t ++ [r.t] := by rw [stepC_eq, hf]
 have h4 := todo_lt h2 h1
 have h5 := todo_le (rs := rs) (t := t)
 obtain ⟨n, hn⟩ : ∃ n, rs.length = n + 1 := ⟨rs.length - 1, by omega⟩
 have h6 := iter_stab (rs := rs) n (t ++ [r.t]) (by omega)
 rw [hn]
 rw [h6, iterC, h3]
/-- the names at the places that are set -/
def selN : List Nm → List Bool → List Nm
 | x :: u, b :: l => if b then x :: selN u l else selN u l
 | _, _ => []
theorem sel_memb (u t : List Nm) : selN u (memb u t) = u.filter (hasB t) := by
 induction u with
 | nil => rfl
 | cons x u ih =>
  have h : selN (x :: u) (memb (x :: u) t) = if hasB t x then x :: selN u (memb u t) else selN u (memb u t) := rfl
  rw [h, ih, List.filter_cons]
theorem sel_take : ∀ {u : List Nm} {l : List Bool} {k : Nat} {x : Nm} {b : Bool}, u[k]? = some x → l[k]? = some b → selN (u.take (k + 1)) (l.take (k + 1)) = selN (u.take k) (l.take k) ++ (if b then [x] else [])
 | y :: u, c :: l, 0, x, b, h1, h2 => by
  simp at h1 h2; subst h1 h2
  cases c <;> simp [selN]
 | y :: u, c :: l, k + 1, x, b, h1, h2 => by
  have := sel_take (u := u) (l := l) (k := k) (by simpa using h1) (by simpa using h2)
  simp only [List.take_succ_cons, selN]
  cases c <;> simp only [Bool.false_eq_true, if_false, if_true] <;> rw [this]
  simp
 | [], _, _, _, _, h, _ => by simp at h
 | _ :: _, [], _, _, _, _, h => by simp at h
theorem sel_len : ∀ (u : List Nm) (l : List Bool), (selN u l).length ≤ u.length
 | x :: u, b :: l => by
  have := sel_len u l
  unfold selN
  split <;> simp <;> omega
 | [], _ => by simp [selN]
 | _ :: _, [] => by simp [selN]
theorem sel_all {u : List Nm} {l : List Bool} {k : Nat} (h : u.length ≤ k) (h2 : l.length = u.length) : selN (u.take k) (l.take k) = selN u l := by rw [List.take_of_length_le h, List.take_of_length_le (by omega)]
end Go.Proofs.YtaecccdkjmipeaaGreat

namespace Go.Proofs.YtaecccdkjmipeaaGreat
open Go.RowKit
theorem mid_u64 {n : Nat} (h : n ≤ 1000000000) : IntKind.u64.wrap (n : Int) = ((n : Nat) : Int) := by simp only [IntKind.wrap_u64]; omega
theorem mid_i64 {n : Nat} (h : n ≤ 1000000000) : IntKind.i64.wrap (((n : Nat) : Int) / 2) = ((n / 2 : Nat) : Int) := by rw [IntWalk.i64_in _ (by omega)]; omega
theorem pw_lt {u : List Nm} (hs : pw u) {i j : Nat} {x y : Nm} (h1 : u[i]? = some x) (h2 : u[j]? = some y) (h : i < j) : Op.bytesLess x y = true := by
 obtain ⟨g1, rfl⟩ := List.getElem?_eq_some_iff.1 h1
 obtain ⟨g2, rfl⟩ := List.getElem?_eq_some_iff.1 h2
 exact List.pairwise_iff_getElem.1 hs i j g1 g2 h
theorem low_iff {u : List Nm} (hs : pw u) {i j : Nat} {x y : Nm} (h1 : u[i]? = some x) (h2 : u[j]? = some y) : Op.bytesLess x y = decide (i < j) := by
 rcases Nat.lt_trichotomy i j with h | h | h
 ·rw [pw_lt hs h1 h2 h, decide_eq_true h]
 ·subst h
  rw [h1] at h2
  cases h2
  rw [bl_irr, decide_eq_false (Nat.lt_irrefl _)]
 ·rw [decide_eq_false (by omega)]
  cases hb : Op.bytesLess x y
  ·rfl
  ·have := bl_trans hb (pw_lt hs h2 h1 h)
   rw [bl_irr] at this; cases this

set_option maxRecDepth 100000 in
set_option maxHeartbeats 1000000 in
theorem less_str (x y : Nm) : FC Tryz.prog 222 [sv x, sv y] (bl (Op.bytesLess x y)) := by
 refine fc_of_awp [4] Tryz.func222 rfl rfl 17 Tryz.ntmps222 (Nat.le_of_ble_eq_true rfl) ?_
 intro E hN
 refine rn7 ?_; refine zP (q_call (nan_str x) rfl rfl rfl) ?_; refine rn4 ?_; refine zh0 rfl ?_; refine rn4 ?_; refine zh0 rfl ?_; refine zS ?_
 refine zQ ?_
 rfl
set_option maxRecDepth 100000 in
set_option maxHeartbeats 1000000 in
theorem search_fc (u : List Nm) (hu : u.length ≤ 1000000) (hs : pw u) (x : Nm) (i : Nat) (hi : u[i]? = some x) : FC Tryz.prog 209 [svs u, sv x] (.tup [i64 (i : Nat), bl true]) := by
 refine fc_of_awp [4, 5] Tryz.func209 rfl rfl 54 Tryz.ntmps209 (Nat.le_of_ble_eq_true rfl) ?_
 intro E hN
 have hiu : i < u.length := (List.getElem?_eq_some_iff.1 hi).1
 refine rn19 ?_
 refine awp_loop (fun z : {q : Nat × Nat // q.1 ≤ i ∧ i ≤ q.2 ∧ q.2 ≤ u.length} => ⟨[(0, svs u), (1, sv x), (6, i64 u.length), (7, i64 (z.1.1 : Nat)), (8, i64 (z.1.2 : Nat))], [], 0⟩) (fun z => z.1.2 - z.1.1) (⟨(0, u.length), by dsimp only; omega⟩) ?_ ?_
 ·
  exact weak_scrub' rfl (zz2 ⟨(cgI (by simp)), rfl, rfl, rfl, (cgI (by simp)), rfl, trivial⟩) trivial
 rintro ⟨⟨lo, hh⟩, h1, h2, h3⟩
 dsimp only at h1 h2 h3 ⊢
 refine rn7 ?_
 refine zq ?_ ?_ <;> intro h9
 ·
  have hlt : lo < hh := by simpa using h9
  obtain ⟨y, hy⟩ := get_lt (show (lo + hh) / 2 < u.length by omega)
  have hl := low_iff hs hy hi
  refine rn6 ?_; refine zP (q_addi rfl rfl rfl (by omega)) ?_; refine zP (q_convN rfl rfl ((lo + hh : Nat) : Int) (mid_u64 (by omega))) ?_
  refine zB ?_; refine zP (q_convN rfl rfl (((lo + hh) / 2 : Nat) : Int) (mid_i64 (by omega))) ?_; refine rn6 ?_
  refine zP (q_elem rfl rfl rfl ((lo + hh) / 2) rfl _ (map_get hy) rfl) ?_; refine rn2 ?_; refine zP (q_call (less_str _ x) rfl rfl rfl) ?_
  refine zN ?_
  refine zq ?_ ?_ <;> intro h16
  ·
   have h5 : (lo + hh) / 2 < i := of_decide_eq_true (hl ▸ h16)
   refine rn2 ?_; refine zP (q_addi rfl rfl rfl (by omega)) ?_; refine zS ?_; refine aops_nil ?_
   exact ⟨⟨((lo + hh) / 2 + 1, hh), by dsimp only; omega⟩, weak_scrub' rfl (zz4 (zz1 trivial)) trivial, by dsimp only; omega⟩
  have h5 : ¬ (lo + hh) / 2 < i := of_decide_eq_false (hl ▸ h16)
  refine rn3 ?_; refine aops_nil ?_
  exact ⟨⟨(lo, (lo + hh) / 2), by dsimp only; omega⟩, weak_scrub' rfl (zz4 (zz1 trivial)) trivial, by dsimp only; omega⟩
 have hge : hh ≤ lo := by simpa using h9
 obtain rfl : lo = i := by omega
 refine rn6 ?_
 refine zP (q_binb (b := true) rfl rfl rfl (by simp; omega)) ?_
 refine rn3 ?_; refine zP (q_elem rfl rfl rfl lo rfl _ (map_get hi) rfl) ?_; refine rn2 ?_; refine zP (q_binb (b := true) rfl rfl rfl (by simp)) ?_
 refine rn10 ?_; refine zh1 rfl ?_; refine zh1 rfl ?_; refine rn2 ?_; refine zQ ?_
 rfl
set_option maxRecDepth 100000 in
set_option maxHeartbeats 1000000 in
theorem at_fc (u : List Nm) (hu : u.length ≤ 1000000) (hs : pw u) (R : AV) (x : Nm) (hx : x ∈ u) : FC Tryz.prog 194 [.el [svs u, R], sv x] (i64 (posN u x : Nat)) := by
 refine fc_of_awp [4] Tryz.func194 rfl rfl 19 Tryz.ntmps194 (Nat.le_of_ble_eq_true rfl) ?_
 intro E hN
 refine rn7 ?_; refine zP (q_nil rfl rfl rfl) ?_; refine rn3 ?_; refine zP (q_call (search_fc u hu hs x _ (pos_at hx)) rfl rfl rfl) ?_; refine rn12 ?_
 refine zq ?_ ?_ <;> intro h7
 ·
  cases h7
 refine rn5 ?_; refine zQ ?_
 rfl
set_option maxRecDepth 100000 in
set_option maxHeartbeats 1000000 in
theorem every_fc (n : Int) : FC Tryz.prog 196 [i64 n] (bl true) := by
 refine fc_of_awp [2] Tryz.func196 rfl rfl 3 Tryz.ntmps196 (Nat.le_of_ble_eq_true rfl) ?_
 intro E hN
 refine rn7 ?_; refine zQ ?_
 rfl
set_option maxRecDepth 100000 in
set_option maxHeartbeats 1000000 in
theorem fires_fc (h : List Nat × Nat) (bits : List Bool) (h2 : h.2 < bits.length) (h1 : ∀ i ∈ h.1, i < bits.length) : FC Tryz.prog 210 [.agg (hrC h), .sl (bits.map bv1) none] (bl (firesB bits h)) := by
 refine fc_of_awp [4] Tryz.func210 rfl rfl 25 Tryz.ntmps210 (Nat.le_of_ble_eq_true rfl) ?_
 intro E hN
 obtain ⟨y, hy⟩ := get_lt h2
 have hby := bit_of hy
 refine rn11 ?_; refine zP (q_elem rfl rfl rfl h.2 rfl _ (map_get hy) rfl) ?_; refine rn2 ?_
 refine zq ?_ ?_ <;> intro h7
 ·
  refine rn3 ?_; refine zQ ?_
  exact retB (by simp_all [firesB])
 refine rn10 ?_
 refine awp_loop (fun x : {k : Nat // k ≤ (h.1).length ∧ (h.1.drop k).all (bitAt bits) = h.1.all (bitAt bits)} => ⟨[(1, .sl (bits.map bv1) none), (13, .sl (h.1.map nv1) none), (14, i64 h.1.length), (15, i64 (x.1 : Nat))], [], 0⟩) (fun x => (h.1).length - x.1) (⟨0, Nat.zero_le _, by simp⟩) ?_ ?_
 ·
  exact weak_scrub' rfl (zz2 ⟨(cgI (by simp)), rfl, (zz1 trivial)⟩) trivial
 rintro ⟨k, hk, hg⟩
 dsimp only
 refine a_lm 13 rfl (fun hl13 => ?_)
 refine rn5 ?_
 refine zq ?_ ?_ <;> intro h15
 ·
  have hlt : k < (h.1).length := by simpa using h15
  obtain ⟨x, hx⟩ := get_lt hlt
  obtain ⟨z, hz⟩ := get_lt (h1 x (List.mem_of_getElem? hx))
  have hbz := bit_of hz
  refine rn5 ?_; refine zP (q_elem rfl rfl rfl k rfl _ (map_get hx) rfl) ?_; refine rn7 ?_; refine zP (q_elem rfl rfl rfl x rfl _ (map_get hz) rfl) ?_
  refine rn3 ?_
  refine zq ?_ ?_ <;> intro h19
  ·
   have h8 := h19
   refine rn3 ?_; refine zQ ?_
   exact retB (by rw [firesB, all_no hg hx (by simp_all)]; simp)
  have h8 := h19
  refine rn2 ?_; refine zP (q_addi rfl rfl rfl (by omega)) ?_; refine zM ?_; refine aops_nil ?_
  exact ⟨⟨k + 1, hlt, all_go hg hx (by rw [hbz]; simpa using n0 h8)⟩, weak_scrub' rfl (zz3 ⟨(cgI (by dsimp only; omega)), rfl, trivial⟩) trivial, by dsimp only; omega⟩
 have hge : (h.1).length ≤ k := by simpa using h15
 refine rn4 ?_; refine zQ ?_
 exact retB (by rw [firesB, all_end hg hge]; simp_all)
end Go.Proofs.YtaecccdkjmipeaaGreat
