/-
  Plain laws: chains and maximal elements.
  Contracts: the law JoinChains.
-/
import Derived.Test.YtciojbjoijedjaaGreatB21
import Derived.Test.YtciojbjoijedjaaGreatB16
import Derived.Test.YtciojbjoijedjaaGreatB22
import Derived.Test.YtciojbjoijedjaaGreatA5
namespace Go.Proofs.YtciojbjoijedjaaGreat
open Go.RowKit

/-- a list in which what p holds of comes first -/
theorem part_of {α : Type} {p : α → Bool} : ∀ {l : List α}, l.Pairwise (fun x y => p y = true → p x = true) → (∀ x ∈ l.take (l.countP p), p x = true) ∧ ∀ x ∈ l.drop (l.countP p), p x = false
 | [], _ => by simp
 | x :: r, h => by
  obtain ⟨h1, h2⟩ := List.pairwise_cons.1 h
  obtain ⟨i1, i2⟩ := part_of h2
  cases hp : p x with
  | true =>
   rw [List.countP_cons_of_pos hp]
   refine ⟨fun y hy => ?_, fun y hy => i2 y (by simpa using hy)⟩
   rcases List.mem_cons.1 (by simpa using hy : y ∈ x :: r.take (r.countP p)) with rfl | hy
   ·exact hp
   ·exact i1 y hy
  | false =>
   have hr : ∀ y ∈ r, p y = false := fun y hy => by
    cases hy2 : p y
    ·rfl
    ·rw [h1 y hy hy2] at hp; cases hp
   have h0 : (x :: r).countP p = 0 := by
    rw [List.countP_eq_zero]
    intro y hy
    rcases List.mem_cons.1 hy with rfl | hy
    ·simp [hp]
    ·simp [hr y hy]
   rw [h0]
   refine ⟨by simp, fun y hy => ?_⟩
   rcases List.mem_cons.1 (by simpa using hy : y ∈ x :: r) with rfl | hy
   ·exact hp
   ·exact hr y hy
structure GoodC (l : Lat) (vs : List Val) (k : Nat) (out : List Int) : Prop where
 mem : ∀ y, y ∈ out ↔ 0 ≤ y ∧ y < k
 nd : out.Nodup
 pw : out.Pairwise (fun x y => leqB l (getV vs x) (getV vs y) = true)
theorem getV_of {vs : List Val} {k : Nat} {v : Val} (h : vs[k]? = some v) : getV vs (k : Int) = v := by
 unfold getV
 simp [h]
section
variable {l : Lat} {vs : List Val} (hO : OkL l) (hel : ∀ v ∈ vs, elemB v l = true)
include hO hel
omit hO in
theorem getV_el {y : Int} {k : Nat} (h : 0 ≤ y ∧ y < k) (hk : k ≤ vs.length) : elemB (getV vs y) l = true := hel _ (List.mem_of_getElem? (getV_at h hk))
theorem chain_good : ∀ (k : Nat) (out : List Int), k ≤ vs.length → chainN l vs k = some out → GoodC l vs k out
 | 0, out, _, h => by cases h; exact ⟨fun y => ⟨fun h => by simp at h, fun h => by omega⟩, List.nodup_nil, List.Pairwise.nil⟩
 | k + 1, out, hk, h => by
  obtain ⟨v, hv⟩ := get_lt (show k < vs.length by omega)
  cases hc : chainN l vs k with
  | none => have := chainN_none hc 1; rw [h] at this; cases this
  | some o1 =>
   rw [chainN_succ hc hv, chainStep] at h
   obtain ⟨m, nd, pw⟩ := chain_good k o1 (by omega) hc
   split at h
   ·rename_i hall
    cases h
    have hve := hel v (List.mem_of_getElem? hv)
    have ge : ∀ {y}, y ∈ o1 → elemB (getV vs y) l = true := fun hy => getV_el hel ((m _).1 hy) (by omega)
    have hp : o1.Pairwise (fun x y => lowAt l vs v y = true → lowAt l vs v x = true) := by
     refine List.Pairwise.imp_of_mem (fun {x y} hx hy hxy hl => ?_) pw
     exact leq_trans l hO _ _ _ (ge hx) (ge hy) hve hxy hl
    obtain ⟨t1, t2⟩ := part_of hp
    have perm : (insL o1 (o1.countP (lowAt l vs v)) (k : Int)).Perm ((k : Int) :: o1) := by
     unfold insL
     refine List.perm_middle.trans ?_
     rw [List.take_append_drop]
    have hkn : (k : Int) ∉ o1 := fun hm => by have := ((m _).1 hm).2; omega
    refine ⟨fun y => ?_, perm.nodup_iff.2 (List.nodup_cons.2 ⟨hkn, nd⟩), ?_⟩
    ·rw [insL_mem, m]; omega
    ·unfold insL
     have pw' : (o1.take (o1.countP (lowAt l vs v)) ++ o1.drop (o1.countP (lowAt l vs v))).Pairwise (fun x y => leqB l (getV vs x) (getV vs y) = true) := by rw [List.take_append_drop]; exact pw
     obtain ⟨q1, q2, q3⟩ := List.pairwise_append.1 pw'
     refine List.pairwise_append.2 ⟨q1, List.pairwise_cons.2 ⟨fun y hy => ?_, q2⟩, fun x hx y hy => ?_⟩
     ·rw [getV_of hv]
      have h1 := t2 y hy
      have h2 := List.all_eq_true.1 hall y (List.mem_of_mem_drop hy)
      unfold cmpAt at h2
      unfold lowAt at h1
      rw [h1, Bool.false_or] at h2
      exact h2
     ·rcases List.mem_cons.1 hy with rfl | hy
      ·rw [getV_of hv]; exact t1 x hx
      ·exact q3 x hx y hy
   ·cases h
theorem chain_all (h : ∀ (i j : Nat) (x y : Val), j < i → vs[i]? = some x → vs[j]? = some y → (leqB l x y || leqB l y x) = true) : ∀ k, k ≤ vs.length → ∃ out, chainN l vs k = some out
 | 0, _ => ⟨[], rfl⟩
 | k + 1, hk => by
  obtain ⟨o1, h1⟩ := chain_all h k (by omega)
  obtain ⟨v, hv⟩ := get_lt (show k < vs.length by omega)
  have m := (chain_good hO hel k o1 (by omega) h1).mem
  suffices hall : o1.all (cmpAt l vs v) = true from ⟨_, by rw [chainN_succ h1 hv, chainStep, if_pos hall]⟩
  rw [List.all_eq_true]
  intro y hy
  have hy2 := (m y).1 hy
  have := h k y.toNat v (getV vs y) (by omega) hv (getV_at hy2 (by omega))
  unfold cmpAt
  rw [Bool.or_comm]; exact this
theorem chain_last {out : List Int} (h : chainN l vs vs.length = some out) {k : Nat} {y : Int} (hk : k + 1 = out.length) (hy : out[k]? = some y) : foldJ l vs = getV vs y := by
 obtain ⟨m, nd, pw⟩ := chain_good hO hel _ out (Nat.le_refl _) h
 have hym := (m y).1 (List.mem_of_getElem? hy)
 have hye := getV_el hel hym (Nat.le_refl _)
 obtain ⟨f1, f2, f3⟩ := foldJ_lub hO hel
 refine leq_anti l hO _ _ f1 hye (f3 _ hye fun v hv => ?_) (f2 _ (List.mem_of_getElem? (getV_at hym (Nat.le_refl _))))
 obtain ⟨i, hi⟩ := List.mem_iff_getElem?.1 hv
 have hil := (List.getElem?_eq_some_iff.1 hi).1
 obtain ⟨j, hj⟩ := List.mem_iff_getElem?.1 ((m (i : Int)).2 ⟨by omega, by omega⟩)
 rw [← getV_of hi]
 obtain ⟨g1, g2⟩ := List.getElem?_eq_some_iff.1 hj
 obtain ⟨g3, g4⟩ := List.getElem?_eq_some_iff.1 hy
 rcases Nat.lt_or_ge j k with hlt | hge
 ·have := List.pairwise_iff_getElem.1 pw j k g1 g3 hlt
  rw [g2, g4] at this; exact this
 ·obtain rfl : j = k := by omega
  rw [g2] at g4
  rw [g4]; exact leq_refl l hO _ hye
end
/-- the places that have been seen -/
def seenB (n : Nat) (o : List Int) : List Bool := (List.range n).map fun (i : Nat) => decide (((i : Nat) : Int) ∈ o)
theorem seen_len {n : Nat} {o : List Int} : (seenB n o).length = n := by simp [seenB]
theorem seen_at {n : Nat} {o : List Int} {y : Int} (h : 0 ≤ y ∧ y < n) (hn : y ∉ o) : (seenB n o)[y.toNat]? = some false := by
 unfold seenB
 rw [List.getElem?_map, List.getElem?_range (by omega)]
 have : ((y.toNat : Nat) : Int) = y := by omega
 simp [this, hn]
theorem seen_set {n : Nat} {o : List Int} {k : Nat} {y : Int} (h : 0 ≤ y ∧ y < n) (hy : o[k]? = some y) : (seenB n (o.take k)).set y.toNat true = seenB n (o.take (k + 1)) := by
 have hc : ∀ i : Int, (i ∈ o.take (k + 1)) ↔ i ∈ o.take k ∨ i = y := fun i => by rw [List.take_add_one, hy]; simp
 unfold seenB
 apply List.ext_getElem?
 intro i
 rw [List.getElem?_set, List.getElem?_map, List.getElem?_map, List.length_map, List.length_range]
 by_cases hi : i < n
 ·rw [List.getElem?_range hi]
  by_cases e : y.toNat = i
  ·rw [if_pos e, if_pos (by omega)]
   exact congrArg some (decide_eq_true ((hc _).2 (.inr (by omega)))).symm
  ·rw [if_neg e]
   have : (i : Int) ≠ y := by omega
   simp [hc, this]
 ·rw [if_neg (by omega), List.getElem?_eq_none (by simpa using hi)]
  rfl
theorem seen_nil (n : Nat) : List.replicate n false = seenB n [] := by
 apply List.ext_getElem (by simp [seenB])
 intro i h1 h2
 simp [seenB]
theorem nd_take {o : List Int} (h : o.Nodup) {k : Nat} {y : Int} (hy : o[k]? = some y) : y ∉ o.take k := fun hm => by
 obtain ⟨j, hj⟩ := List.mem_iff_getElem?.1 hm
 have hjk : j < k := by
  have := (List.getElem?_eq_some_iff.1 hj).1
  simp at this; omega
 rw [List.getElem?_take, if_pos hjk] at hj
 obtain ⟨g1, g2⟩ := List.getElem?_eq_some_iff.1 hj
 obtain ⟨g3, g4⟩ := List.getElem?_eq_some_iff.1 hy
 have := (List.pairwise_iff_getElem.1 h) j k g1 g3 hjk
 exact this (g2.trans g4.symm)
theorem cmpJ_on {l : Lat} {a b : Val} (hc : checkX l = 0) (ha : elemB a l = true) (hb : elemB b l = true) : cmpJ l a b = (leqB l a b || leqB l b a) := cmpJ_of (checkJ_of hc (by simp [ha, hb])) rfl

/-! ### maximal elements -/
section
variable {l : Lat} {vs : List Val}
theorem keep_iff {v : Val} {i : Nat} : keepM l vs v i = true ↔ ∀ (j : Nat) (w : Val), vs[j]? = some w → (v ≠ w → leqB l v w = false) ∧ (v = w → i ≤ j) := by
 unfold keepM
 rw [List.all_eq_true]
 have one : ∀ (j : Nat) (w : Val), keepP l v i (w, j) = true ↔ (v ≠ w → leqB l v w = false) ∧ (v = w → i ≤ j) := fun j w => by
  unfold keepP
  by_cases e : v = w
  ·subst e
   have : eqV v v = true := (eqV_iff v v).2 rfl
   simp [this]
  ·have : eqV v w = false := by rw [Bool.eq_false_iff]; exact fun h => e ((eqV_iff _ _).1 h)
   simp [this, e]
 constructor
 ·intro h j w hw
  exact (one j w).1 (h (w, j) (List.mem_of_getElem? (zipV_get hw)))
 ·rintro h ⟨w, j⟩ hm
  obtain ⟨k, hk⟩ := List.mem_iff_getElem?.1 hm
  have hk2 := (List.getElem?_eq_some_iff.1 hk).1
  rw [List.length_zipIdx] at hk2
  have h3 := zipV_get (List.getElem?_eq_getElem hk2)
  rw [hk] at h3
  cases h3
  exact (one _ _).2 (h _ _ (List.getElem?_eq_getElem hk2))
theorem mxl_mem {k : Nat} (hk : k ≤ vs.length) {y : Int} : y ∈ mxl l vs k ↔ ∃ (i : Nat) (v : Val), y = (i : Int) ∧ i < k ∧ vs[i]? = some v ∧ keepM l vs v i = true := by
 induction k with
 | zero => simp [mxl]
 | succ k ih =>
  obtain ⟨x, hx⟩ := get_lt (show k < vs.length by omega)
  rw [mxl_succ hx, List.mem_append, ih (by omega)]
  constructor
  ·rintro (⟨i, v, e1, e2, e3, e4⟩ | h)
   ·exact ⟨i, v, e1, by omega, e3, e4⟩
   ·split at h
    ·rename_i hkp
     exact ⟨k, x, by simpa using h, by omega, hx, hkp⟩
    ·cases h
  ·rintro ⟨i, v, e1, e2, e3, e4⟩
   by_cases e : i = k
   ·subst e
    rw [hx] at e3
    cases e3
    right
    rw [if_pos e4, e1]
    simp
   ·exact .inl ⟨i, v, e1, by omega, e3, e4⟩
theorem mxl_sorted : ∀ {k : Nat}, k ≤ vs.length → (mxl l vs k).Pairwise (fun x y => x < y)
 | 0, _ => List.Pairwise.nil
 | k + 1, hk => by
  obtain ⟨x, hx⟩ := get_lt (show k < vs.length by omega)
  rw [mxl_succ hx]
  refine List.pairwise_append.2 ⟨mxl_sorted (by omega), by split <;> simp, fun y hy z hz => ?_⟩
  obtain ⟨i, v, e1, e2, -, -⟩ := (mxl_mem (by omega)).1 hy
  split at hz
  ·have : z = (k : Int) := by simpa using hz
   omega
  ·cases hz
variable (hO : OkL l) (hel : ∀ v ∈ vs, elemB v l = true)
include hO hel
/-- every element lies below a maximal one -/
theorem mxl_above : ∀ (n : Nat) (v : Val), v ∈ vs → vs.countP (fun w => !eqV v w && leqB l v w) ≤ n → ∃ y ∈ mxl l vs vs.length, leqB l v (getV vs y) = true := by
 have first : ∀ (v : Val), v ∈ vs → (∀ w ∈ vs, v ≠ w → leqB l v w = false) → ∃ y ∈ mxl l vs vs.length, leqB l v (getV vs y) = true := fun v hv hmax => by
  have : ∃ i : Nat, vs[i]? = some v ∧ ∀ j, vs[j]? = some v → i ≤ j := by
   clear hmax hel hO
   induction vs with
   | nil => cases hv
   | cons x r ih =>
    by_cases e : v = x
    ·exact ⟨0, by simp [e], fun j _ => Nat.zero_le j⟩
    ·obtain ⟨i, h1, h2⟩ := ih ((List.mem_cons.1 hv).resolve_left e)
     refine ⟨i + 1, by simpa using h1, fun j hj => ?_⟩
     cases j with
     | zero => simp at hj; exact absurd hj.symm e
     | succ j => have := h2 j (by simpa using hj); omega
  obtain ⟨i, h1, h2⟩ := this
  refine ⟨(i : Int), (mxl_mem (Nat.le_refl _)).2 ⟨i, v, rfl, (List.getElem?_eq_some_iff.1 h1).1, h1, keep_iff.2 fun j w hw => ⟨fun hne => hmax w (List.mem_of_getElem? hw) hne, fun e => h2 j (e ▸ hw)⟩⟩, ?_⟩
  rw [getV_of h1]; exact leq_refl l hO v (hel v hv)
 intro n
 induction n with
 | zero =>
  intro v hv hc
  refine first v hv fun w hw hne => ?_
  have h0 := List.countP_eq_zero.1 (Nat.le_zero.1 hc) w hw
  have he : eqV v w = false := by rw [Bool.eq_false_iff]; exact fun h => hne ((eqV_iff _ _).1 h)
  simpa [he] using h0
 | succ n ih =>
  intro v hv hc
  by_cases hmax : ∀ w ∈ vs, v ≠ w → leqB l v w = false
  ·exact first v hv hmax
  ·have : ∃ w ∈ vs, v ≠ w ∧ leqB l v w = true := Classical.byContradiction fun hn => hmax fun w hw hne => by
    rw [Bool.eq_false_iff]; exact fun h => hn ⟨w, hw, hne, h⟩
   obtain ⟨w, hw, hne, hle⟩ := this
   have hlt : vs.countP (fun z => !eqV w z && leqB l w z) < vs.countP (fun z => !eqV v z && leqB l v z) := by
    have hsub : ∀ z ∈ vs, (!eqV w z && leqB l w z) = true → (!eqV v z && leqB l v z) = true := fun z hz h => by
     simp only [Bool.and_eq_true, Bool.not_eq_true'] at h ⊢
     refine ⟨?_, leq_trans l hO _ _ _ (hel v hv) (hel w hw) (hel z hz) hle h.2⟩
     rw [Bool.eq_false_iff]
     intro e
     rw [eqV_iff] at e
     subst e
     exact hne (leq_anti l hO _ _ (hel _ hv) (hel w hw) hle h.2)
    have hww : (!eqV w w && leqB l w w) = false := by rw [(eqV_iff w w).2 rfl]; rfl
    have hvw : (!eqV v w && leqB l v w) = true := by
     have : eqV v w = false := by rw [Bool.eq_false_iff]; exact fun h => hne ((eqV_iff _ _).1 h)
     rw [this, hle]; rfl
    revert hsub hw
    generalize vs = us
    intro hw hsub
    induction us with
    | nil => cases hw
    | cons z r ihr =>
     rw [List.countP_cons, List.countP_cons]
     have hmono : ∀ s : List Val, (∀ z ∈ s, (!eqV w z && leqB l w z) = true → (!eqV v z && leqB l v z) = true) → s.countP (fun z => !eqV w z && leqB l w z) ≤ s.countP (fun z => !eqV v z && leqB l v z) := fun s hs => List.countP_mono_left hs
     rcases List.mem_cons.1 hw with rfl | hw
     ·have := hmono r (fun z hz => hsub z (List.mem_cons_of_mem _ hz))
      rw [if_neg (by rw [hww]; decide), if_pos hvw]
      omega
     ·have := ihr hw (fun z hz => hsub z (List.mem_cons_of_mem _ hz))
      have h2 := hsub z (List.mem_cons_self ..)
      split
      ·rename_i h3
       rw [if_pos (h2 h3)]; omega
      ·split <;> omega
   obtain ⟨y, hy, hl⟩ := ih w hw (by omega)
   obtain ⟨i, u, e1, -, e3, -⟩ := (mxl_mem (Nat.le_refl _)).1 hy
   have hu : getV vs y = u := by rw [e1]; exact getV_of e3
   exact ⟨y, hy, leq_trans l hO _ _ _ (hel v hv) (hel w hw) (by rw [hu]; exact hel u (List.mem_of_getElem? e3)) hle hl⟩
omit hO hel in
theorem mxl_apart {i j : Nat} {y z : Int} (hy : (mxl l vs vs.length)[i]? = some y) (hz : (mxl l vs vs.length)[j]? = some z) (hne : i ≠ j) : leqB l (getV vs y) (getV vs z) = false := by
 obtain ⟨a, u, e1, -, e3, e4⟩ := (mxl_mem (Nat.le_refl _)).1 (List.mem_of_getElem? hy)
 obtain ⟨b, w, f1, -, f3, f4⟩ := (mxl_mem (Nat.le_refl _)).1 (List.mem_of_getElem? hz)
 have hu : getV vs y = u := by rw [e1]; exact getV_of e3
 have hw : getV vs z = w := by rw [f1]; exact getV_of f3
 rw [hu, hw]
 have k1 := (keep_iff.1 e4) b w f3
 have k2 := (keep_iff.1 f4) a u e3
 by_cases e : u = w
 ·exfalso
  have h1 := k1.2 e
  have h2 := k2.2 e.symm
  have hab : a = b := by omega
  have hyz : y = z := by omega
  have hs := mxl_sorted (l := l) (vs := vs) (Nat.le_refl _)
  obtain ⟨g1, g2⟩ := List.getElem?_eq_some_iff.1 hy
  obtain ⟨g3, g4⟩ := List.getElem?_eq_some_iff.1 hz
  rcases Nat.lt_or_ge i j with h | h
  ·have := List.pairwise_iff_getElem.1 hs i j g1 g3 h; omega
  ·have := List.pairwise_iff_getElem.1 hs j i g3 g1 (by omega); omega
 ·exact k1.1 e
theorem mxl_join : foldJ l ((mxl l vs vs.length).map (getV vs)) = foldJ l vs := by
 have hm : ∀ v ∈ (mxl l vs vs.length).map (getV vs), v ∈ vs := fun v hv => by
  obtain ⟨y, hy, rfl⟩ := List.mem_map.1 hv
  obtain ⟨i, u, e1, -, e3, -⟩ := (mxl_mem (Nat.le_refl _)).1 hy
  rw [e1, getV_of e3]; exact List.mem_of_getElem? e3
 obtain ⟨f1, f2, f3⟩ := foldJ_lub hO hel
 obtain ⟨g1, g2, g3⟩ := foldJ_lub (vs := (mxl l vs vs.length).map (getV vs)) hO (fun v hv => hel v (hm v hv))
 refine leq_anti l hO _ _ g1 f1 (g3 _ f1 fun v hv => f2 v (hm v hv)) (f3 _ g1 fun v hv => ?_)
 obtain ⟨y, hy, hl⟩ := mxl_above hO hel _ v hv (Nat.le_refl _)
 have hmy : getV vs y ∈ (mxl l vs vs.length).map (getV vs) := List.mem_map.2 ⟨y, hy, rfl⟩
 exact leq_trans l hO _ _ _ (hel v hv) (hel _ (hm _ hmy)) g1 hl (g2 _ hmy)
end
end Go.Proofs.YtciojbjoijedjaaGreat

namespace Go.Proofs.YtciojbjoijedjaaGreat
open Go.RowKit
theorem validL_el {l : Lat} {vs : List Val} (h : validL l vs = true) : ∀ v ∈ vs, elemB v l = true := fun v hv => ((validL_ok h).2.2 v hv).1
theorem chainV_no {l : Lat} {vs : List Val} (h : (chainV l vs).2 = false) (hc : checkJ l vs = 0) : (chainV l vs).1 = [] ∧ chainN l vs vs.length = none := by
 unfold chainV at h ⊢
 rw [if_pos hc] at h ⊢
 cases hN : chainN l vs vs.length with
 | none => exact ⟨rfl, rfl⟩
 | some o => rw [hN] at h; cases h
theorem chainV_yes {l : Lat} {vs : List Val} (h : (chainV l vs).2 = true) (hc : checkJ l vs = 0) : ∃ out, chainN l vs vs.length = some out ∧ chainV l vs = (out, true) := by
 unfold chainV at h ⊢
 rw [if_pos hc] at h ⊢
 cases hN : chainN l vs vs.length with
 | none => rw [hN] at h; cases h
 | some o => exact ⟨o, rfl, rfl⟩
theorem checkJ_all {l : Lat} {vs : List Val} (hc : checkX l = 0) (h : ∀ v ∈ vs, elemB v l = true) : checkJ l vs = 0 := checkJ_of hc (List.all_eq_true.2 h)
theorem allJ_fc (l : Lat) (vs : List Val) (hc : checkX l = 0) (h : ∀ v ∈ vs, elemB v l = true ∧ SmV 1000 v) (hl : vs.length ≤ 100) : FC Tryz.prog 30 [.agg (latL l), vals vs] (.tup [.agg (valL (foldJ l vs)), i64 0]) := by
 have hc2 : checkJ l vs = 0 := checkJ_all hc fun v hv => (h v hv).1
 have h2 := joinAll_fc l vs (fun _ => fold_ok (check_ok hc) h hl)
 rw [joinAllV_of hc2 rfl] at h2
 exact h2
theorem okE_b1 (b : Bool) : okE 1 (bv1 b) = true := rfl
set_option maxRecDepth 100000 in
set_option maxHeartbeats 1000000 in
theorem lawChains_fc (l : Lat) (vs : List Val) : FC Tryz.prog 10 [.agg (latL l), vals vs] (bl true) := by
 refine fc_of_awp [4] Tryz.func10 rfl rfl 143 Tryz.ntmps10 (Nat.le_of_ble_eq_true rfl) ?_
 intro E hN
 refine zG ?_
 refine zX hN ?_
 refine zS hN ?_
 refine zN ?_
 refine awp_seq ?_
 refine zG ?_
 refine zP hN (q_call awake_fc rfl rfl rfl) ?_
 refine zP hN (q_not rfl rfl) ?_
 refine zN ?_
 refine c_false rfl rfl ?_
 refine awp_skip ?_
 change AWP _ _ _ _ _
 refine awp_seq ?_
 refine zG ?_
 refine zL hN ?_
 refine zM hN ?_
 refine zP hN (q_call (lvalid_fc l vs) rfl rfl rfl) ?_
 refine zP hN (q_not rfl rfl) ?_
 refine zM hN ?_
 refine s_case 19 rfl (fun h5 => ?_) (fun h5 => ?_)
 ·
  refine s_skip hN rfl (w10 (m0 (n1 h5))) rfl rfl ?_
  refine s_skip hN rfl (w10 (m0 (n1 h5))) rfl rfl ?_
  refine s_skip hN rfl (w10 (m0 (n1 h5))) rfl rfl ?_
  refine zP hN (q_pick1 rfl rfl (m0 (n1 h5)) rfl) ?_
  refine zN ?_
  refine c_true rfl rfl ?_
  refine zG ?_
  refine zS hN ?_
  refine zQ ?_
  rfl
 ·
  have hV := n0 h5
  have hv3 := validL_ok hV
  have hc := hv3.1
  have hn8 := hv3.2.1
  have hel := validL_el hV
  have hS := validL_small hV
  have hcJ := checkJ_all hc hel
  have hO := check_ok hc
  refine s_py hN (q_move rfl rfl) rfl (w00 (m1 (n0 h5))) rfl rfl ?_
  refine s_py hN ((by first | exact q_len rfl rfl | exact q_len_str rfl rfl | exact q_len_p rfl rfl)) rfl (w00 (m1 (n0 h5))) rfl rfl ?_
  refine s_py hN (q_bin rfl rfl rfl) rfl (w00 (m1 (n0 h5))) rfl rfl ?_
  refine zP hN (q_pick0 rfl rfl (m1 (n0 h5)) rfl) ?_
  refine zN ?_
  refine c_cond rfl (fun h7 => ?_) (fun h7 => ?_)
  ·
   refine zG ?_
   refine zS hN ?_
   refine zQ ?_
   rfl
  ·
   have hn0 : 0 < vs.length := by
    have e : ¬ vs.length = 0 := by simpa using h7
    omega
   refine awp_skip ?_
   change AWP _ _ _ _ _
   refine zG ?_
   refine zL hN ?_
   refine zM hN ?_
   refine zP hN (q_call (chain_vfc l vs (by omega)) rfl rfl rfl) ?_
   refine zM hN ?_
   refine zP hN (q_extract rfl rfl rfl) ?_
   refine zP hN (q_extract rfl rfl rfl) ?_
   refine zS hN ?_
   refine zS hN ?_
   refine zN ?_
   refine awp_seq ?_
   refine zG ?_
   refine zM hN ?_
   refine zP hN (q_not rfl rfl) ?_
   refine zN ?_
   refine c_cond rfl (fun h11 => ?_) (fun h11 => ?_)
   ·
    obtain ⟨hE, hCh⟩ := chainV_no (n1 h11) hcJ
    rw [hE]
    refine awp_seq ?_
    refine zG ?_
    refine zS hN ?_
    refine zN ?_
    refine awp_block ?_
    refine awp_loop (fun z : {i : Nat // i ≤ vs.length ∧ (∀ (p q : Nat) (x y : Val), p < i → q < p → vs[p]? = some x → vs[q]? = some y → (leqB l x y || leqB l y x) = true)} => ⟨[(2, .ptr 0 0), (1, vals vs), (5, ivs []), (7, i64 (z.1 : Nat))], [(0, .var 26 (latL l))], 1⟩) (fun z => vs.length - z.1) (⟨0, Nat.zero_le _, fun _ _ _ _ h => absurd h (Nat.not_lt_zero _)⟩) ?_ ?_
    ·
     exact weak_scrub' rfl ⟨rfl, rfl, rfl, rfl, rfl, rfl, rfl, rfl, trivial⟩ ⟨rfl, rfl, rfl, trivial⟩
    ·rintro ⟨i, hi, hI⟩
     dsimp only
     refine awp_seq ?_
     refine zG ?_
     refine zM hN ?_
     refine zM hN ?_
     refine zE hN ?_
     refine zB hN ?_
     refine zN ?_
     refine c_cond rfl (fun h17 => ?_) (fun h17 => ?_)
     ·
      have hlt : i < vs.length := by simpa using h17
      obtain ⟨vi, hvi⟩ := get_lt hlt
      refine awp_skip ?_
      change AWP _ _ _ _ _
      refine awp_seq ?_
      refine awp_block ?_
      refine zG ?_
      refine zS hN ?_
      refine zN ?_
      refine awp_block ?_
      refine awp_loop (fun z : {j : Nat // j ≤ i ∧ (∀ (q : Nat) (x y : Val), q < j → vs[i]? = some x → vs[q]? = some y → (leqB l x y || leqB l y x) = true)} => ⟨[(2, .ptr 0 0), (1, vals vs), (5, ivs []), (7, i64 (i : Nat)), (8, i64 (z.1 : Nat))], [(0, .var 26 (latL l))], 1⟩) (fun z => i - z.1) (⟨0, Nat.zero_le _, fun _ _ _ h => absurd h (Nat.not_lt_zero _)⟩) ?_ ?_
      ·
       exact weak_scrub' rfl ⟨rfl, rfl, rfl, rfl, rfl, rfl, rfl, rfl, rfl, rfl, trivial⟩ ⟨rfl, rfl, rfl, trivial⟩
      ·rintro ⟨j, hj, hJ⟩
       dsimp only
       refine awp_seq ?_
       refine zG ?_
       refine zM hN ?_
       refine zM hN ?_
       refine zB hN ?_
       refine zN ?_
       refine c_cond rfl (fun h23 => ?_) (fun h23 => ?_)
       ·
        have hjl : j < i := by simpa using h23
        obtain ⟨vj, hvj⟩ := get_lt (show j < vs.length by omega)
        refine awp_skip ?_
        change AWP _ _ _ _ _
        refine awp_seq ?_
        refine awp_block ?_
        refine awp_seq ?_
        refine awp_draw 10 (by kernel_rfl) (by kernel_rfl) ?_
        refine zl hN ?_
        refine zm hN ?_
        refine zm hN ?_
        refine zp hN (q_elem rfl rfl rfl i rfl _ (val_get hvi) rfl) ?_
        refine zl hN ?_
        refine zm hN ?_
        refine zm hN ?_
        refine zp hN (q_elem rfl rfl rfl j rfl _ (val_get hvj) rfl) ?_
        refine zl hN ?_
        refine zp hN (q_call (comparable_fc l vi vj) rfl rfl rfl) ?_
        change AOps _ _ _ _ _ _
        refine zP hN (q_not rfl rfl) ?_
        refine zN ?_
        refine c_cond rfl (fun h29 => ?_) (fun h29 => ?_)
        ·
         refine zG ?_
         refine zM hN ?_
         refine zE hN ?_
         refine zB hN ?_
         refine zS hN ?_
         refine zQ ?_
         rfl
        ·
         have hcmp : (leqB l vi vj || leqB l vj vi) = true := by rw [← cmpJ_on hc (hel _ (List.mem_of_getElem? hvi)) (hel _ (List.mem_of_getElem? hvj))]; exact n0 h29
         refine awp_skip ?_
         change AWP _ _ _ _  _
         refine awp_region ?_
         refine zM hN ?_
         refine zP hN (q_addi rfl rfl rfl (by omega)) ?_
         refine zS hN ?_
         refine aops_nil ?_
         exact ⟨⟨j + 1, by omega, fun q x y h1 h2 h3 => by
          by_cases e : q = j
          ·subst e; rw [hvi] at h2; rw [hvj] at h3; cases h2; cases h3; exact hcmp
          ·exact hJ q x y (by omega) h2 h3⟩, weak_scrub' rfl ⟨rfl, rfl, rfl, rfl, rfl, rfl, rfl, rfl, (cgI (by dsimp only; omega)), rfl, trivial⟩ ⟨rfl, rfl, rfl, trivial⟩, by dsimp only; omega⟩
       ·
        have hje : i ≤ j := by simpa using h23
        obtain rfl : i = j := by omega
        refine awp_exit ?_
        change AWP _ _ _ _  _
        refine awp_region ?_
        refine zM hN ?_
        refine zP hN (q_addi rfl rfl rfl (by omega)) ?_
        refine zS hN ?_
        refine aops_nil ?_
        exact ⟨⟨i + 1, by omega, fun p q x y h1 h2 h3 h4 => by
         by_cases e : p = i
         ·subst e; exact hJ q x y (by omega) h3 h4
         ·exact hI p q x y (by omega) h2 h3 h4⟩, weak_scrub' rfl ⟨rfl, rfl, rfl, rfl, rfl, rfl, (cgI (by dsimp only; omega)), rfl, trivial⟩ ⟨rfl, rfl, rfl, trivial⟩, by dsimp only; omega⟩
     ·
      have hge : vs.length ≤ i := by simpa using h17
      refine awp_exit ?_
      change AWP _ _ _ _  _
      refine zG ?_
      refine zS hN ?_
      refine zQ ?_
      exact absurd hCh (by obtain ⟨o, ho⟩ := chain_all hO hel (fun p q x y h1 h2 h3 => hI p q x y (by have := (List.getElem?_eq_some_iff.1 h2).1; omega) h1 h2 h3) vs.length (Nat.le_refl _); rw [ho]; simp)
   ·
    obtain ⟨out, hCh, hE⟩ := chainV_yes (n0 h11) hcJ
    rw [hE]
    have hG := chain_good hO hel _ out (Nat.le_refl _) hCh
    have hol := (chainN_ok _ out hCh).1
    refine awp_skip ?_
    change AWP _ _ _ _ _
    refine awp_seq ?_
    refine zG ?_
    refine zM hN ?_
    refine zE hN ?_
    refine zM hN ?_
    refine zE hN ?_
    refine zP hN (q_binb (b := false) rfl rfl rfl (by simp [hol])) ?_
    refine zN ?_
    refine c_false rfl rfl ?_
    refine awp_skip ?_
    change AWP _ _ _ _ _
    refine zG ?_
    refine zM hN ?_
    refine zE hN ?_
    refine s_makeB hN rfl rfl rfl rfl rfl (by simp; omega) rfl rfl rfl rfl ?_
    rw [List.length_map, seen_nil]
    refine zS hN ?_
    refine zN ?_
    refine awp_seq ?_
    refine zG ?_
    refine zS hN ?_
    refine zN ?_
    refine awp_block ?_
    refine awp_loop (fun x : {k : Nat // k ≤ (out).length ∧ True} => ⟨[(2, .ptr 0 0), (1, vals vs), (5, ivs out), (9, .own 1 vs.length), (10, i64 (x.1 : Nat))], [(0, .var 26 (latL l)), (1, .arr 4 1 ((seenB vs.length (out.take x.1)).map bv1))], 2⟩) (fun x => (out).length - x.1) (⟨0, Nat.zero_le _, by simp⟩) ?_ ?_
    ·
     exact weak_scrub' rfl ⟨rfl, rfl, rfl, rfl, rfl, rfl, (cgO (by simp)), rfl, rfl, rfl, trivial⟩ ⟨rfl, rfl, rfl, rfl, rfl, (ok_arr (fun _ => rfl) _), trivial⟩
    ·rintro ⟨k, hk, hg⟩
     dsimp only
     refine awp_seq ?_
     refine zG ?_
     refine zM hN ?_
     refine zM hN ?_
     refine zE hN ?_
     refine zB hN ?_
     refine zN ?_
     refine c_cond rfl (fun h44 => ?_) (fun h44 => ?_)
     ·
      have hlt : k < out.length := by simpa using h44
      obtain ⟨y, hy⟩ := get_lt hlt
      have hyb := (hG.mem y).1 (List.mem_of_getElem? hy)
      have hyn := nd_take hG.nd hy
      refine awp_skip ?_
      change AWP _ _ _ _ _
      refine awp_seq ?_
      refine awp_block ?_
      refine awp_seq ?_
      refine zG ?_
      refine zM hN ?_
      refine zM hN ?_
      refine zP hN (q_elem rfl rfl rfl k rfl _ (map_get hy) rfl) ?_
      refine zL hN ?_
      refine zP hN (q_binb (b := false) rfl rfl rfl (by simp; omega)) ?_
      refine zM hN ?_
      refine zM hN ?_
      refine zM hN ?_
      refine zP hN (q_elem rfl rfl rfl k rfl _ (map_get hy) rfl) ?_
      refine zL hN ?_
      refine zM hN ?_
      refine zE hN ?_
      refine zP hN (q_binb (b := false) rfl rfl rfl (by simp; omega)) ?_
      refine zP hN (q_pick0 rfl rfl rfl rfl) ?_
      refine zM hN ?_
      refine zM hN ?_
      refine zM hN ?_
      refine zM hN ?_
      refine zP hN (q_elem rfl rfl rfl k rfl _ (map_get hy) rfl) ?_
      refine zL hN ?_
      refine zP hN (q_eown rfl rfl rfl rfl (by simp [seenB]) y.toNat (by omega) (by omega)) ?_
      refine zP hN (q_loadB rfl rfl (seenB vs.length (out.take k)) rfl (by simp [seenB]) y.toNat rfl (seen_at hyb hyn)) ?_
      refine zP hN (q_pick0 rfl rfl rfl rfl) ?_
      refine zN ?_
      refine c_false rfl rfl ?_
      refine awp_skip ?_
      change AWP _ _ _ _ _
      refine zG ?_
      refine zM hN ?_
      refine zM hN ?_
      refine zM hN ?_
      refine zP hN (q_elem rfl rfl rfl k rfl _ (map_get hy) rfl) ?_
      refine zL hN ?_
      refine zP hN (q_eown rfl rfl rfl rfl (by simp [seenB]) y.toNat (by omega) (by omega)) ?_
      refine s_storeB hN rfl rfl (seenB vs.length (out.take k)) rfl (by simp [seenB]) y.toNat rfl (by rw [seen_len]; omega) rfl rfl rfl rfl ?_
      refine zN ?_
      refine awp_seq ?_
      refine awp_draw 21 (by kernel_rfl) (by kernel_rfl) ?_
      refine zm hN ?_
      refine zp hN (q_bin rfl rfl rfl) ?_
      refine zm hN ?_
      refine d_case 102 rfl (fun h57 => ?_) (fun h57 => ?_)
      ·
       have hk0 : 0 < k := by simpa using h57
       obtain ⟨y', hy'⟩ := get_lt (show k - 1 < out.length by omega)
       have hyb' := (hG.mem y').1 (List.mem_of_getElem? hy')
       have hle : leqJ l (getV vs y') (getV vs y) = true := by
        rw [leqJ_on hc (getV_el hel hyb' (Nat.le_refl _)) (getV_el hel hyb (Nat.le_refl _))]
        obtain ⟨g1, g2⟩ := List.getElem?_eq_some_iff.1 hy'
        obtain ⟨g3, g4⟩ := List.getElem?_eq_some_iff.1 hy
        have := List.pairwise_iff_getElem.1 hG.pw (k - 1) k g1 g3 (by omega)
        rw [g2, g4] at this; exact this
       refine d_py hN (q_load rfl rfl rfl rfl rfl) rfl (w11 h57) rfl rfl ?_
       refine d_py hN (q_move rfl rfl) rfl (w11 h57) rfl rfl ?_
       refine d_py hN (q_move rfl rfl) rfl (w11 h57) rfl rfl ?_
       refine d_py hN (q_move rfl rfl) rfl (w11 h57) rfl rfl ?_
       refine d_py hN (q_subi rfl rfl rfl (by omega)) rfl (w11 h57) rfl rfl ?_
       refine d_py hN (q_elem rfl rfl rfl (k - 1) (by omega) _ (map_get hy') rfl) rfl (w11 h57) rfl rfl ?_
       refine d_py hN (q_load rfl rfl rfl rfl rfl) rfl (w11 h57) rfl rfl ?_
       refine d_py hN (q_elem rfl rfl rfl y'.toNat (by omega) _ (val_get (getV_at hyb' (Nat.le_refl _))) rfl) rfl (w11 h57) rfl rfl ?_
       refine d_py hN (q_load rfl rfl rfl rfl rfl) rfl (w11 h57) rfl rfl ?_
       refine d_py hN (q_move rfl rfl) rfl (w11 h57) rfl rfl ?_
       refine d_py hN (q_move rfl rfl) rfl (w11 h57) rfl rfl ?_
       refine d_py hN (q_move rfl rfl) rfl (w11 h57) rfl rfl ?_
       refine d_py hN (q_elem rfl rfl rfl k rfl _ (map_get hy) rfl) rfl (w11 h57) rfl rfl ?_
       refine d_py hN (q_load rfl rfl rfl rfl rfl) rfl (w11 h57) rfl rfl ?_
       refine d_py hN (q_elem rfl rfl rfl y.toNat (by omega) _ (val_get (getV_at hyb (Nat.le_refl _))) rfl) rfl (w11 h57) rfl rfl ?_
       refine d_py hN (q_load rfl rfl rfl rfl rfl) rfl (w11 h57) rfl rfl ?_
       refine d_py hN (q_call (fcb (leqJ_fc l (getV vs y') (getV vs y)) hle) rfl rfl rfl) rfl (w11 h57) rfl rfl ?_
       refine d_py hN (q_not rfl rfl) rfl (w11 h57) rfl rfl ?_
       change AOps _ _ _ _ _ _
       refine zP hN (q_pick1 rfl rfl h57 rfl) ?_
       refine zN ?_
       refine c_false rfl rfl ?_
       refine awp_skip ?_
       change AWP _ _ _ _  _
       refine awp_region ?_
       refine zM hN ?_
       refine zP hN (q_addi rfl rfl rfl (by omega)) ?_
       refine zS hN ?_
       refine aops_nil ?_
       exact ⟨⟨k + 1, hlt, trivial⟩, weak_scrub' rfl ⟨rfl, rfl, rfl, rfl, rfl, rfl, rfl, rfl, (cgI (by dsimp only; omega)), rfl, trivial⟩ ⟨rfl, rfl, rfl, (cgA (by rw [seen_set hyb hy])), rfl, (ok_arr (fun _ => rfl) _), trivial⟩, by dsimp only; omega⟩
      ·
       refine d_skip hN rfl (w01 h57) rfl rfl ?_
       refine d_skip hN rfl (w01 h57) rfl rfl ?_
       refine d_skip hN rfl (w01 h57) rfl rfl ?_
       refine d_skip hN rfl (w01 h57) rfl rfl ?_
       refine d_skip hN rfl (w01 h57) rfl rfl ?_
       refine d_skip hN rfl (w01 h57) rfl rfl ?_
       refine d_skip hN rfl (w01 h57) rfl rfl ?_
       refine d_skip hN rfl (w01 h57) rfl rfl ?_
       refine d_skip hN rfl (w01 h57) rfl rfl ?_
       refine d_skip hN rfl (w01 h57) rfl rfl ?_
       refine d_skip hN rfl (w01 h57) rfl rfl ?_
       refine d_skip hN rfl (w01 h57) rfl rfl ?_
       refine d_skip hN rfl (w01 h57) rfl rfl ?_
       refine d_skip hN rfl (w01 h57) rfl rfl ?_
       refine d_skip hN rfl (w01 h57) rfl rfl ?_
       refine d_skip hN rfl (w01 h57) rfl rfl ?_
       refine d_skip hN rfl (w01 h57) rfl rfl ?_
       refine d_skip hN rfl (w01 h57) rfl rfl ?_
       change AOps _ _ _ _ _ _
       refine zP hN (q_pick0 rfl rfl h57 rfl) ?_
       refine zN ?_
       refine c_false rfl rfl ?_
       refine awp_skip ?_
       change AWP _ _ _ _  _
       refine awp_region ?_
       refine zM hN ?_
       refine zP hN (q_addi rfl rfl rfl (by omega)) ?_
       refine zS hN ?_
       refine aops_nil ?_
       exact ⟨⟨k + 1, hlt, trivial⟩, weak_scrub' rfl ⟨rfl, rfl, rfl, rfl, rfl, rfl, rfl, rfl, (cgI (by dsimp only; omega)), rfl, trivial⟩ ⟨rfl, rfl, rfl, (cgA (by rw [seen_set hyb hy])), rfl, (ok_arr (fun _ => rfl) _), trivial⟩, by dsimp only; omega⟩
     ·
      have hge : out.length ≤ k := by simpa using h44
      obtain ⟨y, hy⟩ := get_lt (show out.length - 1 < out.length by omega)
      have hyb := (hG.mem y).1 (List.mem_of_getElem? hy)
      have hlast := chain_last hO hel hCh (show out.length - 1 + 1 = out.length by omega) hy
      refine awp_exit ?_
      change AWP _ _ _ _  _
      refine zG ?_
      refine zL hN ?_
      refine zM hN ?_
      refine zP hN (q_call (allJ_fc l vs hc (fun v hv => ⟨hel v hv, (hS v hv).up (by decide)⟩) (by omega)) rfl rfl rfl) ?_
      refine zM hN ?_
      refine zP hN (q_extract rfl rfl rfl) ?_
      refine zP hN (q_extract rfl rfl rfl) ?_
      refine zO hN ?_
      refine zC ?_
      refine zS hN ?_
      refine zN ?_
      refine awp_seq ?_
      refine awp_draw 15 (by kernel_rfl) (by kernel_rfl) ?_
      refine zm hN ?_
      refine zp hN (q_binb (b := true) rfl rfl rfl (by rfl)) ?_
      refine zm hN ?_
      refine zl hN ?_
      refine zm hN ?_
      refine zm hN ?_
      refine zm hN ?_
      refine ze hN ?_
      refine zp hN (q_subi rfl rfl rfl (by simp; omega)) ?_
      refine zp hN (q_elem rfl rfl rfl (out.length - 1) (by simp; omega) _ (map_get hy) rfl) ?_
      refine zl hN ?_
      refine zp hN (q_elem rfl rfl rfl y.toNat (by omega) _ (val_get (getV_at hyb (Nat.le_refl _))) rfl) ?_
      refine zl hN ?_
      refine zp hN (q_call (fcb (rEqual_fc (foldJ l vs) (getV vs y)) ((eqV_iff _ _).2 hlast)) rfl rfl rfl) ?_
      refine zp hN (q_pick1 rfl rfl rfl rfl) ?_
      change AOps _ _ _ _ _ _
      refine zS hN ?_
      refine zQ ?_
      rfl
end Go.Proofs.YtciojbjoijedjaaGreat
