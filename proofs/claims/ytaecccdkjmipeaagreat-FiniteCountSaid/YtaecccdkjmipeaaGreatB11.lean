/-
  Plain laws: values are compared by a total order; clocks, entries, registers, names in order.
  Plain laws: the order of a lattice's elements is reflexive, antisymmetric and transitive.
  Plain laws: merged names; the join of two values.
-/
import Derived.Test.YtaecccdkjmipeaaGreatB10
import Derived.Test.YtaecccdkjmipeaaGreatB4
namespace Go.Proofs.YtaecccdkjmipeaaGreat
open Go.RowKit

theorem lexL_map {α β : Type} (c : α → α → Int) (f : β → α) : ∀ a b : List β, lexL c (a.map f) (b.map f) = lexL (fun x y => c (f x) (f y)) a b
 | [], [] => rfl
 | [], _ :: _ => rfl
 | _ :: _, [] => rfl
 | x :: a, y :: b => by simp only [List.map, lexL]; rw [lexL_map c f a b]

abbrev VS (n : Nat) := {v : Val // SizeOf.sizeOf v < n}
def VS.down {n : Nat} (v : VS (n + 1)) : List (VS n) := v.1.ps.attach.map fun p => ⟨p.1, by have := Val.sizeOf_ps p.2; have := v.2; omega⟩
theorem VS.down_map {n : Nat} (v : VS (n + 1)) : v.down.map Subtype.val = v.1.ps := by
 unfold VS.down; rw [List.map_map]; exact List.attach_map_subtype_val _

theorem cmpVS_ok : ∀ n, CmpOk (fun x y : VS n => cmpVal x.1 y.1)
 | 0 => ⟨fun x => absurd x.2 (Nat.not_lt_zero _), fun x => absurd x.2 (Nat.not_lt_zero _), fun x => absurd x.2 (Nat.not_lt_zero _)⟩
 | n + 1 => by
  have ih := cmpVS_ok n
  have h3 := lex2_ok (α := List (VS n) × List En) Prod.fst Prod.snd (lexL_ok ih) (lexL_ok cmpEn_ok) (fun x y h1 h2 => Prod.ext h1 h2)
  have h2 := lex2_ok (α := List Nm × (List (VS n) × List En)) Prod.fst Prod.snd (lexL_ok compareBytes_ok) h3 (fun x y h1 h2 => Prod.ext h1 h2)
  have h1 := lex2_ok (α := VS (n + 1)) (fun v => v.1.N) (fun v => (v.1.nm, (v.down, v.1.es))) compareInt_ok h2 (fun x y e1 e2 => by
   have e3 := congrArg Prod.fst e2
   have e4 := congrArg (fun p => p.2.1) e2
   have e5 := congrArg (fun p => p.2.2) e2
   simp only at e3 e4 e5
   have e6 : x.1.ps = y.1.ps := by rw [← VS.down_map, ← VS.down_map, e4]
   apply Subtype.ext
   rw [← Val.eta x.1, ← Val.eta y.1, e1, e3, e6, e5])
  refine Eq.mpr (congrArg CmpOk ?_) h1
  funext x y
  rw [cmpVal_eq, ← VS.down_map x, ← VS.down_map y, lexL_map, orE2]
  simp only [lex2]
  by_cases c1 : Lib.compareInt x.1.N y.1.N = 0
  ·by_cases c2 : lexL Lib.compareBytes x.1.nm y.1.nm = 0
   ·by_cases c3 : lexL (fun x y : VS n => cmpVal x.1 y.1) x.down y.down = 0
    ·simp only [c1, c2, c3, ne_eq, not_true, if_true, if_false]
    simp only [c1, c2, c3, ne_eq, not_true, not_false_eq_true, if_true, if_false]
   simp only [c1, c2, ne_eq, not_true, not_false_eq_true, if_true, if_false]
  simp only [c1, ne_eq, not_false_eq_true, if_true, if_false]
theorem cmpVal_ok : CmpOk cmpVal where
 anti x y := (cmpVS_ok (SizeOf.sizeOf x + SizeOf.sizeOf y + 1)).anti ⟨x, by omega⟩ ⟨y, by omega⟩
 trans x y z := (cmpVS_ok (SizeOf.sizeOf x + SizeOf.sizeOf y + SizeOf.sizeOf z + 1)).trans ⟨x, by omega⟩ ⟨y, by omega⟩ ⟨z, by omega⟩
 eq x y h := congrArg Subtype.val ((cmpVS_ok (SizeOf.sizeOf x + SizeOf.sizeOf y + 1)).eq ⟨x, by omega⟩ ⟨y, by omega⟩ h)
theorem eqV_iff (x y : Val) : eqV x y = true ↔ x = y := by
 unfold eqV; rw [beq_iff_eq]
 exact ⟨cmpVal_ok.eq x y, fun h => h ▸ cmpVal_ok.refl x⟩

/-! ### clocks -/
theorem okTk_iff {last : Int} {t : Tk} : okTk last t = true ↔ last < t.1 ∧ t.1 ≤ 63 ∧ 1 ≤ t.2 ∧ t.2 ≤ 1000000000000000 := by
 simp only [okTk, Bool.not_eq_true', Bool.or_eq_false_iff, decide_eq_false_iff_not]; omega
theorem vc_cons {last : Int} {x : Tk} {r : List Tk} : validC last (x :: r) = true ↔ okTk last x = true ∧ validC x.1 r = true := by
 rw [validC, Bool.and_eq_true]
theorem getB_cons (x : Tk) (r : List Tk) (p : Int) : getB (x :: r) p = if x.1 = p then x.2 else getB r p := by
 unfold getB
 rw [List.find?_cons]
 by_cases h : x.1 = p
 ·rw [if_pos h, show (x.1 == p) = true from beq_iff_eq.2 h]
 rw [if_neg h, show (x.1 == p) = false from beq_eq_false_iff_ne.2 h]
theorem getB_lo : ∀ (l : List Tk) (last p : Int), validC last l = true → p ≤ last → getB l p = 0
 | [], _, _, _, _ => rfl
 | x :: r, last, p, h, hp => by
  obtain ⟨h1, h2⟩ := vc_cons.1 h
  have := okTk_iff.1 h1
  rw [getB_cons, if_neg (by omega)]
  exact getB_lo r x.1 p h2 (by omega)
theorem getB_nn : ∀ (l : List Tk) (last p : Int), validC last l = true → 0 ≤ getB l p
 | [], _, _, _ => Int.le_refl _
 | x :: r, last, p, h => by
  obtain ⟨h1, h2⟩ := vc_cons.1 h
  have := okTk_iff.1 h1
  rw [getB_cons]
  split
  ·omega
  exact getB_nn r x.1 p h2
/-- one clock is at most the other -/
def cle (a b : List Tk) : Prop := ∀ p, getB a p ≤ getB b p
theorem cle_refl (a : List Tk) : cle a a := fun _ => Int.le_refl _
theorem cle_trans {a b c : List Tk} (h : cle a b) (k : cle b c) : cle a c := fun p => Int.le_trans (h p) (k p)
theorem putT_ne {p k : Int} {l : List Tk} (h : k > 0) : putT p k l ≠ [] := by unfold putT; rw [if_pos h]; simp
theorem putT_no {p k : Int} {l : List Tk} (h : ¬ k > 0) : putT p k l = l := by unfold putT; rw [if_neg h]
theorem vc_up {l : List Tk} {a b : Int} (h : validC a l = true) (hb : ∀ x r, l = x :: r → b < x.1) : validC b l = true := by
 cases l with
 | nil => rfl
 | cons x r =>
  obtain ⟨h1, h2⟩ := vc_cons.1 h
  have := okTk_iff.1 h1
  have := hb x r rfl
  exact vc_cons.2 ⟨okTk_iff.2 ⟨by omega, by omega, by omega, by omega⟩, h2⟩

theorem walk_nil : ∀ (n : Nat) (a b : List Tk) (l1 l2 : Int), a.length + b.length ≤ n → validC l1 a = true → validC l2 b = true → (walkT chMinus a b = [] ↔ cle a b)
 | _, [], [], _, _, _, _, _ => ⟨fun _ => cle_refl _, fun _ => rfl⟩
 | 0, _ :: _, _, _, _, h, _, _ => by simp at h
 | 0, [], _ :: _, _, _, h, _, _ => by simp at h
 | n + 1, x :: r, [], l1, l2, _, ha, _ => by
  obtain ⟨h1, h2⟩ := vc_cons.1 ha
  have := okTk_iff.1 h1
  rw [wk_l]
  refine ⟨fun h => absurd h (putT_ne ?_), fun h => ?_⟩
  ·unfold chMinus; split <;> omega
  have h3 := h x.1
  rw [getB_cons, if_pos rfl] at h3
  have : getB [] x.1 = 0 := rfl
  omega
 | n + 1, [], y :: s, l1, l2, hl, ha, hb => by
  obtain ⟨h1, h2⟩ := vc_cons.1 hb
  have := okTk_iff.1 h1
  rw [wk_r, putT_no (by unfold chMinus; split <;> omega), walk_nil n [] s l1 y.1 (by simp at hl ⊢; omega) ha h2]
  exact ⟨fun _ p => getB_nn _ _ p hb, fun _ p => getB_nn _ _ p h2⟩
 | n + 1, x :: r, y :: s, l1, l2, hl, ha, hb => by
  obtain ⟨h1, h2⟩ := vc_cons.1 ha
  obtain ⟨k1, k2⟩ := vc_cons.1 hb
  have o1 := okTk_iff.1 h1
  have o2 := okTk_iff.1 k1
  simp only [List.length_cons] at hl
  by_cases e1 : x.1 < y.1
  ·rw [wk_lt e1]
   refine ⟨fun h => absurd h (putT_ne (by unfold chMinus; split <;> omega)), fun h => ?_⟩
   have h3 := h x.1
   have hb' : validC x.1 (y :: s) = true := vc_up hb (fun z q e => by cases e; exact e1)
   rw [getB_cons, if_pos rfl, getB_lo _ _ _ hb' (Int.le_refl _)] at h3
   omega
  by_cases e2 : y.1 < x.1
  ·rw [wk_gt e1 e2, putT_no (by unfold chMinus; split <;> omega), walk_nil n (x :: r) s l1 y.1 (by simp; omega) ha k2]
   have ha' : validC y.1 (x :: r) = true := vc_up ha (fun z q e => by cases e; exact e2)
   constructor
   ·intro h p
    rw [getB_cons y]
    by_cases hp : y.1 = p
    ·rw [if_pos hp, ← hp, getB_lo _ _ _ ha' (Int.le_refl _)]; omega
    rw [if_neg hp]; exact h p
   intro h p
   have := h p
   rw [getB_cons y] at this
   by_cases hp : y.1 = p
   ·rw [← hp, getB_lo _ _ _ ha' (Int.le_refl _)]; exact getB_nn _ _ _ k2
   rw [if_neg hp] at this; exact this
  have e : x.1 = y.1 := by omega
  rw [wk_eq e1 e2]
  by_cases hg : x.2 > y.2
  ·refine ⟨fun h => absurd h (putT_ne (by unfold chMinus; rw [if_pos hg]; omega)), fun h => ?_⟩
   have := h x.1
   rw [getB_cons, if_pos rfl, getB_cons, if_pos e.symm] at this
   omega
  rw [putT_no (by unfold chMinus; rw [if_neg hg]; omega), walk_nil n r s x.1 y.1 (by omega) h2 k2]
  constructor
  ·intro h p
   rw [getB_cons, getB_cons, ← e]
   by_cases hp : x.1 = p
   ·rw [if_pos hp, if_pos hp]; omega
   rw [if_neg hp, if_neg hp]; exact h p
  intro h p
  have := h p
  rw [getB_cons, getB_cons, ← e] at this
  by_cases hp : x.1 = p
  ·rw [← hp, getB_lo _ _ _ h2 (Int.le_refl _)]; exact getB_nn _ _ _ k2
  rw [if_neg hp, if_neg hp] at this; exact this
theorem cle_ext : ∀ (a b : List Tk) (l1 l2 : Int), validC l1 a = true → validC l2 b = true → cle a b → cle b a → a = b
 | [], [], _, _, _, _, _, _ => rfl
 | x :: r, [], _, _, ha, _, h, _ => by
  have := okTk_iff.1 (vc_cons.1 ha).1
  have := h x.1
  rw [getB_cons, if_pos rfl] at this
  have : getB [] x.1 = 0 := rfl
  omega
 | [], y :: s, _, _, _, hb, _, h => by
  have := okTk_iff.1 (vc_cons.1 hb).1
  have := h y.1
  rw [getB_cons, if_pos rfl] at this
  have : getB [] y.1 = 0 := rfl
  omega
 | x :: r, y :: s, l1, l2, ha, hb, h, k => by
  obtain ⟨h1, h2⟩ := vc_cons.1 ha
  obtain ⟨k1, k2⟩ := vc_cons.1 hb
  have o1 := okTk_iff.1 h1
  have o2 := okTk_iff.1 k1
  have e : x.1 = y.1 := by
   rcases Int.lt_trichotomy x.1 y.1 with e | e | e
   ·have h3 := h x.1
    rw [getB_cons, if_pos rfl, getB_lo _ _ _ (vc_up hb (fun z q e' => by cases e'; exact e)) (Int.le_refl _)] at h3
    omega
   ·exact e
   have h3 := k y.1
   rw [getB_cons, if_pos rfl, getB_lo _ _ _ (vc_up ha (fun z q e' => by cases e'; exact e)) (Int.le_refl _)] at h3
   omega
  have e2 : x.2 = y.2 := by
   have h3 := h x.1
   have h4 := k x.1
   rw [getB_cons, if_pos rfl, getB_cons, if_pos e.symm] at h3
   rw [getB_cons, if_pos e.symm, getB_cons, if_pos rfl] at h4
   omega
  have e3 : x = y := Prod.ext e e2
  subst e3
  have tl : ∀ (u v : List Tk), validC x.1 u = true → validC x.1 v = true → cle (x :: u) (x :: v) → cle u v := fun u v hu hv h p => by
   have := h p
   rw [getB_cons, getB_cons] at this
   by_cases hp : x.1 = p
   ·rw [← hp, getB_lo _ _ _ hu (Int.le_refl _)]; exact getB_nn _ _ _ hv
   rw [if_neg hp, if_neg hp] at this; exact this
  rw [cle_ext r s x.1 x.1 h2 k2 (tl _ _ h2 k2 h) (tl _ _ k2 h2 k)]

open Classical in
theorem cmpC_eq {a b : List Tk} (ha : validC (-1) a = true) (hb : validC (-1) b = true) : cmpC a b = if cle a b then (if cle b a then 0 else 1) else if cle b a then 2 else 3 := by
 have e : ∀ a b : List Tk, validC (-1) a = true → validC (-1) b = true → ((minusT a b).length == 0) = decide (cle a b) := fun a b ha hb => by
  unfold minusT walkC
  rw [ha, hb, Bool.and_self, if_pos rfl]
  have := walk_nil _ a b (-1) (-1) (Nat.le_refl _) ha hb
  by_cases h : cle a b
  ·rw [this.2 h]; simp [h]
  have h2 : walkT chMinus a b ≠ [] := fun e => h (this.1 e)
  have h3 : (walkT chMinus a b).length ≠ 0 := fun e => h2 (List.eq_nil_of_length_eq_zero e)
  simp [h, h3]
 unfold cmpC
 rw [ha, hb, e a b ha hb, e b a hb ha]
 simp

/-! ### entries -/
def ltE (x y : En) : Prop := cle x.1 y.1 ∧ ¬ cle y.1 x.1
def leE (x y : En) : Prop := ltE x y ∨ x = y
theorem ltE_irrefl (x : En) : ¬ ltE x x := fun h => h.2 h.1
theorem ltE_trans {x y z : En} (h1 : ltE x y) (h2 : ltE y z) : ltE x z := ⟨cle_trans h1.1 h2.1, fun h => h2.2 (cle_trans h h1.1)⟩
theorem leE_refl (x : En) : leE x x := .inr rfl
theorem leE_trans {x y z : En} (h1 : leE x y) (h2 : leE y z) : leE x z := by
 rcases h1 with h1 | rfl
 ·rcases h2 with h2 | rfl
  ·exact .inl (ltE_trans h1 h2)
  exact .inl h1
 exact h2
theorem ltE_leE {x y z : En} (h1 : ltE x y) (h2 : leE y z) : ltE x z := by
 rcases h2 with h2 | rfl
 ·exact ltE_trans h1 h2
 exact h1
theorem leE_ltE {x y z : En} (h1 : leE x y) (h2 : ltE y z) : ltE x z := by
 rcases h1 with h1 | rfl
 ·exact ltE_trans h1 h2
 exact h2
theorem underB_iff {x y : En} (hx : validC (-1) x.1 = true) (hy : validC (-1) y.1 = true) : underB x y = true ↔ leE x y := by
 unfold underB
 rw [cmpC_eq hx hy]
 by_cases h1 : cle x.1 y.1 <;> by_cases h2 : cle y.1 x.1
 ·have e := cle_ext _ _ _ _ hx hy h1 h2
  simp only [h1, h2, if_true]
  constructor
  ·intro h; exact .inr (Prod.ext e (by simpa using h))
  rintro (h | rfl)
  ·exact absurd h2 h.2
  simp
 ·simp only [h1, h2, if_true, if_false]
  exact ⟨fun _ => .inl ⟨h1, h2⟩, fun _ => by simp⟩
 ·simp only [h1, h2, if_true, if_false]
  exact ⟨fun h => by simp at h, fun h => by
   rcases h with h | rfl
   ·exact absurd h.1 h1
   exact absurd (cle_refl _) h1⟩
 simp only [h1, h2, if_false]
 exact ⟨fun h => by simp at h, fun h => by
  rcases h with h | rfl
  ·exact absurd h.1 h1
  exact absurd (cle_refl _) h1⟩
theorem isBef_iff {x y : En} (hx : validC (-1) x.1 = true) (hy : validC (-1) y.1 = true) : isBef x y = true ↔ ltE x y := by
 unfold isBef ltE
 rw [cmpC_eq hx hy]
 by_cases h1 : cle x.1 y.1 <;> by_cases h2 : cle y.1 x.1 <;> simp [h1, h2]
theorem regF_iff {x y : En} (hx : validC (-1) x.1 = true) (hy : validC (-1) y.1 = true) : regF x y = true ↔ ¬ ltE x y ∧ ¬ ltE y x := by
 unfold regF ltE
 rw [cmpC_eq hx hy]
 by_cases h1 : cle x.1 y.1 <;> by_cases h2 : cle y.1 x.1 <;> simp [h1, h2]

/-! ### registers -/
structure RegOk (es : List En) : Prop where
 valid : ∀ x ∈ es, validC (-1) x.1 = true
 ne : ∀ x ∈ es, x.1 ≠ []
 name : ∀ x ∈ es, validB x.2 = true
 sorted : es.Pairwise (fun x y => cmpEn x y < 0)
 anti : ∀ x ∈ es, ∀ y ∈ es, ¬ ltE x y
theorem cmp_lt3 {x y z : En} (h1 : cmpEn x y < 0) (h2 : cmpEn y z < 0) : cmpEn x z < 0 := by
 have := (cmpEn_ok.swo (fun x : En => x)).trans x y z (decide_eq_true h1) (decide_eq_true h2)
 exact of_decide_eq_true this
theorem pairwise_of_steps : ∀ (es : List En), (∀ j e d, es[j + 1]? = some e → es[j]? = some d → cmpEn d e < 0) → es.Pairwise (fun x y => cmpEn x y < 0)
 | [], _ => List.Pairwise.nil
 | [_], _ => List.pairwise_singleton _ _
 | a :: b :: r, h => by
  have ih := pairwise_of_steps (b :: r) (fun j e d he hd => h (j + 1) e d (by simpa using he) (by simpa using hd))
  have hab := h 0 b a rfl rfl
  refine List.Pairwise.cons (fun y hy => ?_) ih
  rcases List.mem_cons.1 hy with rfl | hy
  ·exact hab
  exact cmp_lt3 hab ((List.pairwise_cons.1 ih).1 y hy)
theorem regB_at {l : List En} : regB l = true ↔ ∀ k x, l[k]? = some x → regE l x k = true := by
 unfold regB
 rw [List.all_eq_true]
 constructor
 ·intro h k x hx
  exact h (x, k) (List.mem_of_getElem? (zipE_get hx))
 rintro h ⟨x, k⟩ hm
 obtain ⟨i, hi⟩ := List.mem_iff_getElem?.1 hm
 have h2 := (List.getElem?_eq_some_iff.1 hi).1
 rw [zipE_len] at h2
 have h3 := zipE_get (List.getElem?_eq_getElem h2)
 rw [hi] at h3
 cases h3
 exact h k _ (List.getElem?_eq_getElem h2)
theorem regE_iff {l : List En} {k : Nat} {x : En} (hx : l[k]? = some x) : regE l x k = true ↔ x.1 ≠ [] ∧ validC (-1) x.1 = true ∧ validB x.2 = true ∧ (∀ y, 0 < k → l[k - 1]? = some y → cmpEn y x < 0) ∧ ∀ y ∈ l.take k, regF x y = true := by
 have hkl := (List.getElem?_eq_some_iff.1 hx).1
 unfold regE
 simp only [Bool.and_eq_true, Bool.not_eq_true', List.all_eq_true, and_assoc]
 refine and_congr ?_ (and_congr Iff.rfl (and_congr Iff.rfl (and_congr ?_ Iff.rfl)))
 ·cases x.1 <;> simp; omega
 by_cases hk : 0 < k
 ·have h1 : l[k - 1]? = some l[k - 1] := List.getElem?_eq_getElem (by omega)
  have h0 : ((k : Int) > 0) := by omega
  rw [h1]
  simp [hk]
 have h0 : ¬ ((k : Int) > 0) := by omega
 simp only [h0, decide_false, Bool.false_and]
 exact ⟨fun _ y h => absurd h hk, fun _ => trivial⟩
theorem RegOk.of {es : List En} (h : regB es = true) : RegOk es := by
 have h' := fun k x hx => (regE_iff hx).1 (regB_at.1 h k x hx)
 have hj : ∀ x ∈ es, ∃ j : Nat, es[j]? = some x := fun x hx => List.mem_iff_getElem?.1 hx
 have hv : ∀ x ∈ es, validC (-1) x.1 = true := fun x hx => by obtain ⟨j, hj⟩ := hj x hx; exact (h' j x hj).2.1
 refine ⟨hv, fun x hx => ?_, fun x hx => ?_, ?_, fun x hx y hy hlt => ?_⟩
 ·obtain ⟨j, hj⟩ := hj x hx; exact (h' j x hj).1
 ·obtain ⟨j, hj⟩ := hj x hx; exact (h' j x hj).2.2.1
 ·exact pairwise_of_steps es (fun j e d he hd => (h' (j + 1) e he).2.2.2.1 d (by omega) hd)
 obtain ⟨j, hj⟩ := hj x hx
 obtain ⟨k, hk⟩ := List.mem_iff_getElem?.1 hy
 rcases Nat.lt_trichotomy j k with e | e | e
 ·have hm : x ∈ es.take k := by rw [List.mem_take_iff_getElem]; obtain ⟨g1, g2⟩ := List.getElem?_eq_some_iff.1 hj; exact ⟨j, by omega, g2⟩
  exact ((regF_iff (hv y hy) (hv x hx)).1 ((h' k y hk).2.2.2.2 x hm)).2 hlt
 ·subst e
  rw [hj] at hk; cases hk
  exact ltE_irrefl _ hlt
 have hm : y ∈ es.take j := by rw [List.mem_take_iff_getElem]; obtain ⟨g1, g2⟩ := List.getElem?_eq_some_iff.1 hk; exact ⟨k, by omega, g2⟩
 exact ((regF_iff (hv x hx) (hv y hy)).1 ((h' j x hj).2.2.2.2 y hm)).1 hlt
theorem RegOk.regB_ {es : List En} (h : RegOk es) : regB es = true := by
 refine regB_at.2 fun k x hx => (regE_iff hx).2 ?_
 have hm := List.mem_of_getElem? hx
 refine ⟨h.ne x hm, h.valid x hm, h.name x hm, fun y hk hy => ?_, fun y hy => ?_⟩
 ·obtain ⟨h1, rfl⟩ := List.getElem?_eq_some_iff.1 hx
  obtain ⟨h2, rfl⟩ := List.getElem?_eq_some_iff.1 hy
  exact List.pairwise_iff_getElem.1 h.sorted (k - 1) k h2 h1 (by omega)
 have hy := List.mem_of_mem_take hy
 exact (regF_iff (h.valid x hm) (h.valid y hy)).2 ⟨h.anti x hm y hy, h.anti y hy x hm⟩
theorem RegOk.nodup {es : List En} (h : RegOk es) : es.Nodup := h.sorted.imp (fun {a b} h e => by subst e; rw [cmpEn_ok.refl] at h; exact absurd h (by decide))
theorem sortedEn_uniq {a b : List En} (hp : a.Perm b) (ha : a.Pairwise (fun x y => cmpEn x y ≤ 0)) (hb : b.Pairwise (fun x y => cmpEn x y ≤ 0)) : a = b :=
 hp.eq_of_pairwise (fun x y _ _ h1 h2 => cmpEn_ok.eq x y (by have := cmpEn_ok.anti y x; omega)) ha hb
theorem RegOk.ext_ {a b : List En} (ha : RegOk a) (hb : RegOk b) (h : ∀ x, x ∈ a ↔ x ∈ b) : a = b :=
 sortedEn_uniq ((List.perm_ext_iff_of_nodup ha.nodup hb.nodup).2 h) (ha.sorted.imp (fun h => by omega)) (hb.sorted.imp (fun h => by omega))
theorem RegOk.le_eq {es : List En} (h : RegOk es) {x y : En} (hx : x ∈ es) (hy : y ∈ es) (hl : leE x y) : x = y := by
 rcases hl with hl | hl
 ·exact absurd hl (h.anti x hx y hy)
 exact hl
theorem covered_iff {x : En} {es : List En} (hx : validC (-1) x.1 = true) (hv : ∀ y ∈ es, validC (-1) y.1 = true) : coveredB es x = true ↔ ∃ y ∈ es, leE x y := by
 unfold coveredB
 rw [List.any_eq_true]
 exact ⟨fun ⟨y, hy, h⟩ => ⟨y, hy, (underB_iff hx (hv y hy)).1 h⟩, fun ⟨y, hy, h⟩ => ⟨y, hy, (underB_iff hx (hv y hy)).2 h⟩⟩
theorem coverL_iff {a b : List En} (ha : ∀ x ∈ a, validC (-1) x.1 = true) (hb : ∀ x ∈ b, validC (-1) x.1 = true) : a.all (coveredB b) = true ↔ ∀ x ∈ a, ∃ y ∈ b, leE x y := by
 rw [List.all_eq_true]
 exact ⟨fun h x hx => (covered_iff (ha x hx) hb).1 (h x hx), fun h x hx => (covered_iff (ha x hx) hb).2 (h x hx)⟩

/-! ### names -/
theorem has_iff {l : List Nm} {s : Nm} : hasB l s = true ↔ s ∈ l := by
 unfold hasB; rw [List.any_eq_true]
 exact ⟨fun ⟨x, hx, h⟩ => by rw [beq_iff_eq] at h; exact h ▸ hx, fun h => ⟨s, h, by simp⟩⟩
theorem subset_iff {a b : List Nm} : subsetB a b = true ↔ ∀ x ∈ a, x ∈ b := by
 unfold subsetB; rw [List.all_eq_true]
 exact ⟨fun h x hx => has_iff.1 (h x hx), fun h x hx => has_iff.2 (h x hx)⟩
theorem bl_asym {a b : Nm} (h : Op.bytesLess a b = true) (k : Op.bytesLess b a = true) : False := by
 have := bl_trans h k; rw [bl_irr] at this; cases this
theorem pw_ext : ∀ {a b : List Nm}, a.Pairwise (fun a b => Op.bytesLess a b = true) → b.Pairwise (fun a b => Op.bytesLess a b = true) → (∀ x, x ∈ a ↔ x ∈ b) → a = b := fun {a b} ha hb h => by
 have na : a.Nodup := ha.imp (fun {x y} h e => by subst e; rw [bl_irr] at h; cases h)
 have nb : b.Nodup := hb.imp (fun {x y} h e => by subst e; rw [bl_irr] at h; cases h)
 exact ((List.perm_ext_iff_of_nodup na nb).2 h).eq_of_pairwise (fun x y _ _ h1 h2 => absurd h2 fun h2 => bl_asym h1 h2) ha hb
theorem sorted_ext {a b : List Nm} (ha : sortedB a = true) (hb : sortedB b = true) (h : ∀ x, x ∈ a ↔ x ∈ b) : a = b := pw_ext (sorted_pw ha) (sorted_pw hb) h
theorem sorted_of_pw : ∀ {l : List Nm}, l.Pairwise (fun a b => Op.bytesLess a b = true) → sortedB l = true
 | [], _ => rfl
 | [_], _ => rfl
 | a :: b :: l, h => by
  show (Op.bytesLess a b && sortedB (b :: l)) = true
  rw [List.pairwise_cons] at h
  rw [h.1 b (by simp), sorted_of_pw h.2]; rfl
theorem nodup_of {l : List Nm} (h : sortedB l = true) : l.Nodup := (sorted_pw h).imp (fun {x y} h e => by subst e; rw [bl_irr] at h; cases h)
theorem indexN_at {s : Nm} : ∀ (l : List Nm) (i k : Nat), l.Nodup → l[k]? = some s → indexN s l i = ((i + k : Nat) : Int)
 | [], _, _, _, h => by simp at h
 | x :: l, i, 0, _, h => by
  simp at h; subst h
  unfold indexN; simp
 | x :: l, i, k + 1, hn, h => by
  rw [List.nodup_cons] at hn
  have h : l[k]? = some s := by simpa using h
  have hne : (s == x) = false := by
   rw [beq_eq_false_iff_ne]
   intro e; subst e
   exact hn.1 (List.mem_of_getElem? h)
  unfold indexN
  rw [hne]
  simp only [Bool.false_eq_true, if_false]
  rw [indexN_at l (i + 1) k hn.2 h]
  congr 1; omega
theorem partOf_at {v : Val} {s : Nm} {k : Nat} (hs : sortedB v.nm = true) (h : v.nm[k]? = some s) : partOf v s = v.ps[k]? := by
 unfold partOf
 rw [indexN_at v.nm 0 k (nodup_of hs) h, if_neg (by omega)]
 simp
theorem indexN_none {s : Nm} : ∀ (l : List Nm) (i : Nat), s ∉ l → indexN s l i = -1
 | [], _, _ => rfl
 | x :: l, i, h => by
  simp only [List.mem_cons, not_or] at h
  unfold indexN
  rw [show (s == x) = false from beq_eq_false_iff_ne.2 h.1]
  simp only [Bool.false_eq_true, if_false]
  exact indexN_none l (i + 1) h.2
theorem partOf_no {v : Val} {s : Nm} (h : s ∉ v.nm) : partOf v s = none := by
 unfold partOf; rw [indexN_none _ _ h]; rfl
end Go.Proofs.YtaecccdkjmipeaaGreat

namespace Go.Proofs.YtaecccdkjmipeaaGreat
open Go.RowKit

theorem kinds {l : Lat} (h : OkL l) : l.k = 1 ∨ l.k = 2 ∨ l.k = 3 ∨ l.k = 4 ∨ l.k = 5 ∨ l.k = 6 ∨ l.k = 7 ∨ l.k = 8 ∨ l.k = 9 ∨ l.k = 10 := by
 have h := h.shape
 unfold shapeX at h
 by_cases hk : knownB l.k = true
 ·simp [knownB, rangedB, namedB] at hk; omega
 rw [if_neg hk] at h; cases h
theorem Val.ext_ {v w : Val} (h1 : v.N = w.N) (h2 : v.nm = w.nm) (h3 : v.ps = w.ps) (h4 : v.es = w.es) : v = w := by
 rw [← v.eta, ← w.eta, h1, h2, h3, h4]
theorem used_iff {v : Val} {n li pa en : Bool} : usedB v n li pa en = true ↔ (n = true ∨ v.N = 0) ∧ (li = true ∨ v.nm = []) ∧ (pa = true ∨ v.ps = []) ∧ (en = true ∨ v.es = []) := by
 unfold usedB
 simp [and_assoc]
section
variable {l : Lat} {v : Val}
theorem el_num (h : elemB v l = true) (hk : l.k = 1 ∨ l.k = 2 ∨ l.k = 3) : v.nm = [] ∧ v.ps = [] ∧ v.es = [] := by
 rw [elemB_eq] at h
 rcases hk with hk | hk | hk <;> rw [hk] at h <;> simp [used_iff] at h <;> simp [h]
theorem el_set (h : elemB v l = true) (hk : l.k = 4 ∨ l.k = 10) : v.N = 0 ∧ v.ps = [] ∧ v.es = [] ∧ sortedB v.nm = true ∧ (∀ s ∈ v.nm, okName l.nm s = true) ∧ (l.k = 10 → closedB l.rs v.nm = true) := by
 rw [elemB_eq] at h
 rcases hk with hk | hk
 ·rw [hk] at h; simp [used_iff, allowedB] at h
  exact ⟨h.1.1, h.1.2.1, h.1.2.2, h.2.1, h.2.2, fun e => by omega⟩
 rw [hk] at h; simp [used_iff, allowedB] at h
 exact ⟨h.1.1.1, h.1.1.2.1, h.1.1.2.2, h.1.2.1, h.1.2.2, fun _ => h.2⟩
theorem el_map (h : elemB v l = true) (hk : l.k = 5) {q : Lat} {r : List Lat} (hp : l.ps = q :: r) : v.N = 0 ∧ v.es = [] ∧ v.nm.length = v.ps.length ∧ sortedB v.nm = true ∧ (∀ s ∈ v.nm, okName l.nm s = true) ∧ ∀ p ∈ v.ps, elemB p q = true ∧ p ≠ bottomV q := by
 rw [elemB_eq, hk, hp] at h
 simp only [show ((5 : Int) == 1) = false from rfl, show ((5 : Int) == 2) = false from rfl, show ((5 : Int) == 3) = false from rfl, show ((5 : Int) == 4) = false from rfl, show ((5 : Int) == 10) = false from rfl, show ((5 : Int) == 8) = false from rfl, show ((5 : Int) == 9) = false from rfl, show ((5 : Int) == 5) = true from rfl, Bool.or_self, Bool.false_eq_true, if_false, if_true, Bool.and_eq_true, used_iff, allowedB, elemA_all, List.all_eq_true, beq_iff_eq, elemP, false_or, true_or, true_and, Bool.not_eq_true'] at h
 obtain ⟨⟨⟨⟨h1, h2⟩, h3⟩, h4, h5⟩, h6⟩ := h
 refine ⟨h1, h2, by omega, h4, h5, fun p hp => ⟨(h6 p hp).1, fun e => ?_⟩⟩
 have := (h6 p hp).2
 rw [(eqV_iff _ _).2 e] at this
 cases this
theorem el_prod (h : elemB v l = true) (hk : l.k = 6 ∨ l.k = 7) : v.N = 0 ∧ v.nm = [] ∧ v.es = [] ∧ v.ps.length = l.ps.length ∧ elemZ v.ps l.ps = true := by
 obtain ⟨h1, h2⟩ := el_Z h hk
 rw [elemB_eq] at h
 rcases hk with hk | hk <;> rw [hk] at h <;> simp [used_iff] at h <;> exact ⟨h.1.1.1, h.1.1.2.1, h.1.1.2.2, h1, h2⟩
theorem el_flat (h : elemB v l = true) (hk : l.k = 8) : (v.N = 0 ∨ v.N = 2) ∧ v = .mk v.N [] [] [] ∨ v.N = 1 ∧ ∃ s, v = .mk 1 [s] [] [] ∧ okName l.nm s = true := by
 rw [elemB_eq, hk] at h
 simp at h
 by_cases h0 : v.N = 0 ∨ v.N = 2
 ·rw [if_pos h0] at h
  simp [used_iff] at h
  exact .inl ⟨h0, Val.ext_ rfl h.1 h.2.1 h.2.2⟩
 rw [if_neg h0] at h
 obtain ⟨h1, h⟩ := h
 simp [used_iff, allowedB] at h
 obtain ⟨⟨h2, h3⟩, h4, h5⟩ := h
 obtain ⟨s, hs⟩ := List.length_eq_one_iff.1 (show v.nm.length = 1 by omega)
 exact .inr ⟨h1, s, Val.ext_ h1 hs h2.1 h2.2, h5 s (by rw [hs]; simp)⟩
theorem el_reg (h : elemB v l = true) (hk : l.k = 9) : v.N = 0 ∧ v.nm = [] ∧ v.ps = [] ∧ RegOk v.es := by
 rw [elemB_eq, hk] at h
 simp [used_iff] at h
 exact ⟨h.1.1, h.1.2.1, h.1.2.2, .of h.2⟩
theorem shape_56 (h : OkL l) (hk : l.k = 5) : ∃ q, l.ps = [q] := by
 have h := h.shape
 unfold shapeX at h
 rw [if_pos (by rw [hk]; decide)] at h
 have hb : badB l = false := by
  cases hb : badB l
  ·rfl
  rw [hb] at h; simp [whenE] at h
 have h2 : l.ps.length = 1 := by
  simp only [badB, partsN, hk] at hb
  simp at hb
  omega
 obtain ⟨q, hq⟩ := List.length_eq_one_iff.1 h2
 exact ⟨q, hq⟩
end

section
variable {l : Lat} {a b : Val}
theorem lq_num (hk : l.k = 1 ∨ l.k = 2) : leqB l a b = true ↔ a.N ≤ b.N := by
 rw [leqB_eq]; rcases hk with hk | hk <;> simp [hk]
theorem lq_min (hk : l.k = 3) : leqB l a b = true ↔ b.N ≤ a.N := by
 rw [leqB_eq]; simp [hk]
theorem lq_set (hk : l.k = 4 ∨ l.k = 10) : leqB l a b = true ↔ ∀ x ∈ a.nm, x ∈ b.nm := by
 rw [leqB_eq, ← subset_iff]; rcases hk with hk | hk <;> simp [hk]
theorem lq_map (hk : l.k = 5) {q : Lat} {r : List Lat} (hp : l.ps = q :: r) (ha : a.nm.length = a.ps.length) (hb : b.nm.length = b.ps.length) (hs : sortedB b.nm = true) :
  leqB l a b = true ↔ ∀ (i : Nat) (s : Nm) (p : Val), a.nm[i]? = some s → a.ps[i]? = some p → ∃ (j : Nat) (y : Val), b.nm[j]? = some s ∧ b.ps[j]? = some y ∧ leqB q p y = true := by
 rw [leqB_eq, hk, hp]
 simp only [show ((5 : Int) == 1) = false from rfl, show ((5 : Int) == 2) = false from rfl, show ((5 : Int) == 3) = false from rfl, show ((5 : Int) == 4) = false from rfl, show ((5 : Int) == 10) = false from rfl, show ((5 : Int) == 5) = true from rfl, Bool.or_self, Bool.false_eq_true, if_false, if_true, leqM_all, List.all_eq_true]
 constructor
 ·intro h i s p hs' hp'
  have h1 := h (s, p) (List.mem_of_getElem? (zip_get2 hs' hp'))
  unfold leqE at h1
  by_cases hm : s ∈ b.nm
  ·obtain ⟨j, hj⟩ := List.mem_iff_getElem?.1 hm
   simp only [partOf_at hs hj] at h1
   cases hy : b.ps[j]? with
   | none => rw [hy] at h1; cases h1
   | some y => rw [hy] at h1; exact ⟨j, y, hj, hy, h1⟩
  simp only [partOf_no hm] at h1; cases h1
 rintro h ⟨s, p⟩ hm
 obtain ⟨i, hi⟩ := List.mem_iff_getElem?.1 hm
 rw [List.getElem?_zip_eq_some] at hi
 obtain ⟨j, y, hj, hy, hle⟩ := h i s p hi.1 hi.2
 unfold leqE
 simp only [partOf_at hs hj, hy]
 exact hle
theorem leqZ_iff : ∀ {ls : List Lat} {xs ys : List Val}, xs.length = ls.length → ys.length = ls.length →
  (leqZ ls xs ys = true ↔ ∀ (k : Nat) (q : Lat) (x y : Val), ls[k]? = some q → xs[k]? = some x → ys[k]? = some y → leqB q x y = true)
 | [], [], [], _, _ => by simp [leqZ]
 | q :: r, x :: a, y :: b, h1, h2 => by
  rw [leqZ, Bool.and_eq_true, leqZ_iff (by simpa using h1) (by simpa using h2)]
  constructor
  ·rintro ⟨h3, h4⟩ k q' x' y' e1 e2 e3
   cases k with
   | zero => simp at e1 e2 e3; subst e1 e2 e3; exact h3
   | succ k => exact h4 k q' x' y' (by simpa using e1) (by simpa using e2) (by simpa using e3)
  intro h
  exact ⟨h 0 q x y rfl rfl rfl, fun k q' x' y' e1 e2 e3 => h (k + 1) q' x' y' (by simpa using e1) (by simpa using e2) (by simpa using e3)⟩
 | [], _ :: _, _, h, _ => by simp at h
 | [], [], _ :: _, _, h => by simp at h
 | _ :: _, [], _, h, _ => by simp at h
 | _ :: _, _ :: _, [], _, h => by simp at h
theorem lq_prod (hk : l.k = 6) : leqB l a b = leqZ l.ps a.ps b.ps := by
 rw [leqB_eq]; simp [hk]
theorem lq_lex (hk : l.k = 7) {p q : Lat} (hp : l.ps = [p, q]) {x1 x2 y1 y2 : Val} (ha : a.ps = [x1, x2]) (hb : b.ps = [y1, y2]) : leqB l a b = true ↔ (x1 = y1 ∧ leqB q x2 y2 = true) ∨ (x1 ≠ y1 ∧ leqB p x1 y1 = true) := by
 rw [leqB_eq, hk, hp, ha, hb]
 simp only [show ((7 : Int) == 1) = false from rfl, show ((7 : Int) == 2) = false from rfl, show ((7 : Int) == 3) = false from rfl, show ((7 : Int) == 4) = false from rfl, show ((7 : Int) == 10) = false from rfl, show ((7 : Int) == 5) = false from rfl, show ((7 : Int) == 6) = false from rfl, show ((7 : Int) == 7) = true from rfl, Bool.or_self, Bool.false_eq_true, if_false, if_true, leqX]
 by_cases e : x1 = y1
 ·rw [if_pos ((eqV_iff _ _).2 e)]; simp [e]
 rw [if_neg (fun h => e ((eqV_iff _ _).1 h))]; simp [e]
theorem lq_flat (hk : l.k = 8) : leqB l a b = true ↔ a.N = 0 ∨ b.N = 2 ∨ a = b := by
 rw [leqB_eq, hk]
 simp [eqV_iff, or_assoc]
theorem lq_reg (hk : l.k = 9) (ha : RegOk a.es) (hb : RegOk b.es) : leqB l a b = true ↔ ∀ x ∈ a.es, ∃ y ∈ b.es, leE x y := by
 rw [← coverL_iff ha.valid hb.valid, leqB_eq, hk]
 simp
end

theorem leE_anti {x y : En} (h1 : leE x y) (h2 : leE y x) : x = y := by
 rcases h1 with h1 | h1
 ·rcases h2 with h2 | h2
  ·exact absurd (ltE_trans h1 h2) (ltE_irrefl _)
  exact h2.symm
 exact h1
theorem nodup_at {l : List Nm} (h : l.Nodup) {i j : Nat} {s : Nm} (hi : l[i]? = some s) (hj : l[j]? = some s) : i = j := by
 obtain ⟨h1, h2⟩ := List.getElem?_eq_some_iff.1 hi
 obtain ⟨h3, h4⟩ := List.getElem?_eq_some_iff.1 hj
 rcases Nat.lt_trichotomy i j with e | e | e
 ·exact absurd (h2.trans h4.symm) (List.pairwise_iff_getElem.1 h i j h1 h3 e)
 ·exact e
 ·exact absurd (h4.trans h2.symm) (List.pairwise_iff_getElem.1 h j i h3 h1 e)

theorem refl_s (l : Lat) (hO : OkL l) (ih : ∀ q ∈ l.ps, ∀ x, elemB x q = true → leqB q x x = true) (a : Val) (ha : elemB a l = true) : leqB l a a = true := by
 rcases kinds hO with hk | hk | hk | hk | hk | hk | hk | hk | hk | hk
 ·exact (lq_num (.inl hk)).2 (Int.le_refl _)
 ·exact (lq_num (.inr hk)).2 (Int.le_refl _)
 ·exact (lq_min hk).2 (Int.le_refl _)
 ·exact (lq_set (.inl hk)).2 fun _ h => h
 ·obtain ⟨q, hp⟩ := shape_56 hO hk
  obtain ⟨-, -, h3, h4, -, h6⟩ := el_map ha hk hp
  exact (lq_map hk hp h3 h3 h4).2 fun i s p hs hpp => ⟨i, p, hs, hpp, ih q (by rw [hp]; simp) p (h6 p (List.mem_of_getElem? hpp)).1⟩
 ·obtain ⟨-, -, -, h4, h5⟩ := el_prod ha (.inl hk)
  rw [lq_prod hk, leqZ_iff h4 h4]
  intro k q x y e1 e2 e3
  rw [e2] at e3; cases e3
  exact ih q (List.mem_of_getElem? e1) x (elemZ_get h5 e2 e1)
 ·obtain ⟨p, q, hp⟩ := shape_72 hO.shape hk
  obtain ⟨x, y, e, h1, h2⟩ := two_of ha hk hp
  exact (lq_lex hk hp e e).2 (.inl ⟨rfl, ih q (by rw [hp]; simp) y h2⟩)
 ·exact (lq_flat hk).2 (.inr (.inr rfl))
 ·obtain ⟨-, -, -, h⟩ := el_reg ha hk
  exact (lq_reg hk h h).2 fun x hx => ⟨x, hx, leE_refl x⟩
 exact (lq_set (.inr hk)).2 fun _ h => h
theorem leq_refl (l : Lat) (hO : OkL l) (a : Val) (ha : elemB a l = true) : leqB l a a = true := refl_s l hO (fun q hq x hx => leq_refl q (hO.part q hq) x hx) a ha
termination_by l
decreasing_by exact Lat.sizeOf_ps ‹_›

theorem anti_s (l : Lat) (hO : OkL l) (ih : ∀ q ∈ l.ps, ∀ x y, elemB x q = true → elemB y q = true → leqB q x y = true → leqB q y x = true → x = y) (a b : Val) (ha : elemB a l = true) (hb : elemB b l = true) (h1 : leqB l a b = true) (h2 : leqB l b a = true) : a = b := by
 have num : l.k = 1 ∨ l.k = 2 ∨ l.k = 3 → a.N = b.N → a = b := fun hk e => by
  obtain ⟨p1, p2, p3⟩ := el_num ha hk
  obtain ⟨q1, q2, q3⟩ := el_num hb hk
  exact Val.ext_ e (by rw [p1, q1]) (by rw [p2, q2]) (by rw [p3, q3])
 have set : l.k = 4 ∨ l.k = 10 → a = b := fun hk => by
  obtain ⟨p1, p2, p3, p4, -⟩ := el_set ha hk
  obtain ⟨q1, q2, q3, q4, -⟩ := el_set hb hk
  exact Val.ext_ (by rw [p1, q1]) (sorted_ext p4 q4 fun x => ⟨(lq_set hk).1 h1 x, (lq_set hk).1 h2 x⟩) (by rw [p2, q2]) (by rw [p3, q3])
 rcases kinds hO with hk | hk | hk | hk | hk | hk | hk | hk | hk | hk
 ·exact num (.inl hk) (Int.le_antisymm ((lq_num (.inl hk)).1 h1) ((lq_num (.inl hk)).1 h2))
 ·exact num (.inr (.inl hk)) (Int.le_antisymm ((lq_num (.inr hk)).1 h1) ((lq_num (.inr hk)).1 h2))
 ·exact num (.inr (.inr hk)) (Int.le_antisymm ((lq_min hk).1 h2) ((lq_min hk).1 h1))
 ·exact set (.inl hk)
 ·obtain ⟨q, hp⟩ := shape_56 hO hk
  obtain ⟨p1, p2, p3, p4, -, p6⟩ := el_map ha hk hp
  obtain ⟨q1, q2, q3, q4, -, q6⟩ := el_map hb hk hp
  have l1 := (lq_map hk hp p3 q3 q4).1 h1
  have l2 := (lq_map hk hp q3 p3 p4).1 h2
  have sub : ∀ {u v : Val}, u.nm.length = u.ps.length → (∀ (i : Nat) (s : Nm) (p : Val), u.nm[i]? = some s → u.ps[i]? = some p → ∃ (j : Nat) (y : Val), v.nm[j]? = some s ∧ v.ps[j]? = some y ∧ leqB q p y = true) → ∀ x ∈ u.nm, x ∈ v.nm := fun {u v} hl h x hx => by
   obtain ⟨i, hi⟩ := List.mem_iff_getElem?.1 hx
   have hlt := (List.getElem?_eq_some_iff.1 hi).1
   obtain ⟨j, y, hj, -, -⟩ := h i x _ hi (List.getElem?_eq_getElem (by omega))
   exact List.mem_of_getElem? hj
  have en : a.nm = b.nm := sorted_ext p4 q4 fun x => ⟨sub p3 l1 x, sub q3 l2 x⟩
  refine Val.ext_ (by rw [p1, q1]) en (List.ext_getElem (by rw [← p3, ← q3, en]) fun i g1 g2 => ?_) (by rw [p2, q2])
  have e1 : a.ps[i]? = some a.ps[i] := List.getElem?_eq_getElem g1
  have e2 : b.ps[i]? = some b.ps[i] := List.getElem?_eq_getElem g2
  have hs : a.nm[i]? = some (a.nm[i]'(by omega)) := List.getElem?_eq_getElem (by omega)
  have hs2 : b.nm[i]? = some (a.nm[i]'(by omega)) := by rw [← en]; exact hs
  obtain ⟨j, y, hj, hy, hle⟩ := l1 i _ _ hs e1
  obtain ⟨j', y', hj', hy', hle'⟩ := l2 i _ _ hs2 e2
  have := nodup_at (nodup_of q4) hj hs2
  subst this
  have := nodup_at (nodup_of p4) hj' hs
  subst this
  rw [e2] at hy; cases hy
  rw [e1] at hy'; cases hy'
  exact ih q (by rw [hp]; simp) _ _ (p6 _ (List.getElem_mem g1)).1 (q6 _ (List.getElem_mem g2)).1 hle hle'
 ·obtain ⟨p1, p2, p3, p4, p5⟩ := el_prod ha (.inl hk)
  obtain ⟨q1, q2, q3, q4, q5⟩ := el_prod hb (.inl hk)
  rw [lq_prod hk, leqZ_iff p4 q4] at h1
  rw [lq_prod hk, leqZ_iff q4 p4] at h2
  refine Val.ext_ (by rw [p1, q1]) (by rw [p2, q2]) (List.ext_getElem (by rw [p4, q4]) fun i g1 g2 => ?_) (by rw [p3, q3])
  have e1 : a.ps[i]? = some a.ps[i] := List.getElem?_eq_getElem g1
  have e2 : b.ps[i]? = some b.ps[i] := List.getElem?_eq_getElem g2
  have e3 : l.ps[i]? = some (l.ps[i]'(by omega)) := List.getElem?_eq_getElem (by omega)
  exact ih _ (List.mem_of_getElem? e3) _ _ (elemZ_get p5 e1 e3) (elemZ_get q5 e2 e3) (h1 i _ _ _ e3 e1 e2) (h2 i _ _ _ e3 e2 e1)
 ·obtain ⟨p, q, hp⟩ := shape_72 hO.shape hk
  obtain ⟨p1, p2, p3, -, -⟩ := el_prod ha (.inr hk)
  obtain ⟨q1, q2, q3, -, -⟩ := el_prod hb (.inr hk)
  obtain ⟨x1, x2, ea, u1, u2⟩ := two_of ha hk hp
  obtain ⟨y1, y2, eb, v1, v2⟩ := two_of hb hk hp
  have ep : x1 = y1 ∧ x2 = y2 := by
   rcases (lq_lex hk hp ea eb).1 h1 with ⟨e, g1⟩ | ⟨e, g1⟩
   ·rcases (lq_lex hk hp eb ea).1 h2 with ⟨e', g2⟩ | ⟨e', g2⟩
    ·exact ⟨e, ih q (by rw [hp]; simp) _ _ u2 v2 g1 g2⟩
    exact absurd e.symm e'
   rcases (lq_lex hk hp eb ea).1 h2 with ⟨e', g2⟩ | ⟨e', g2⟩
   ·exact absurd e'.symm e
   exact absurd (ih p (by rw [hp]; simp) _ _ u1 v1 g1 g2) e
  refine Val.ext_ (by rw [p1, q1]) (by rw [p2, q2]) (by rw [ea, eb, ep.1, ep.2]) (by rw [p3, q3])
 ·have h1 := (lq_flat hk).1 h1
  have h2 := (lq_flat hk).1 h2
  rcases h1 with h1 | h1 | h1
  ·rcases h2 with h2 | h2 | h2
   ·rcases el_flat ha hk with ⟨-, e⟩ | ⟨e, -⟩
    ·rcases el_flat hb hk with ⟨-, e'⟩ | ⟨e', -⟩
     ·rw [e, e', h1, h2]
     omega
    omega
   ·omega
   exact h2.symm
  ·rcases h2 with h2 | h2 | h2
   ·omega
   ·rcases el_flat ha hk with ⟨-, e⟩ | ⟨e, -⟩
    ·rcases el_flat hb hk with ⟨-, e'⟩ | ⟨e', -⟩
     ·rw [e, e', h1, h2]
     omega
    omega
   exact h2.symm
  exact h1
 ·obtain ⟨p1, p2, p3, ra⟩ := el_reg ha hk
  obtain ⟨q1, q2, q3, rb⟩ := el_reg hb hk
  have h1 := (lq_reg hk ra rb).1 h1
  have h2 := (lq_reg hk rb ra).1 h2
  have one : ∀ {u v : List En}, RegOk u → (∀ x ∈ u, ∃ y ∈ v, leE x y) → (∀ x ∈ v, ∃ y ∈ u, leE x y) → ∀ x ∈ u, x ∈ v := fun {u v} ru k1 k2 x hx => by
   obtain ⟨y, hy, g1⟩ := k1 x hx
   obtain ⟨z, hz, g2⟩ := k2 y hy
   have := ru.le_eq hx hz (leE_trans g1 g2)
   subst this
   rw [leE_anti g1 g2]; exact hy
  exact Val.ext_ (by rw [p1, q1]) (by rw [p2, q2]) (by rw [p3, q3]) (ra.ext_ rb fun x => ⟨one ra h1 h2 x, one rb h2 h1 x⟩)
 exact set (.inr hk)
theorem leq_anti (l : Lat) (hO : OkL l) (a b : Val) (ha : elemB a l = true) (hb : elemB b l = true) (h1 : leqB l a b = true) (h2 : leqB l b a = true) : a = b := anti_s l hO (fun q hq x y hx hy => leq_anti q (hO.part q hq) x y hx hy) a b ha hb h1 h2
termination_by l
decreasing_by exact Lat.sizeOf_ps ‹_›

theorem trans_s (l : Lat) (hO : OkL l) (ih : ∀ q ∈ l.ps, ∀ x y z, elemB x q = true → elemB y q = true → elemB z q = true → leqB q x y = true → leqB q y z = true → leqB q x z = true) (a b c : Val) (ha : elemB a l = true) (hb : elemB b l = true) (hc : elemB c l = true) (h1 : leqB l a b = true) (h2 : leqB l b c = true) : leqB l a c = true := by
 have set : l.k = 4 ∨ l.k = 10 → leqB l a c = true := fun hk => (lq_set hk).2 fun x hx => (lq_set hk).1 h2 x ((lq_set hk).1 h1 x hx)
 rcases kinds hO with hk | hk | hk | hk | hk | hk | hk | hk | hk | hk
 ·exact (lq_num (.inl hk)).2 (Int.le_trans ((lq_num (.inl hk)).1 h1) ((lq_num (.inl hk)).1 h2))
 ·exact (lq_num (.inr hk)).2 (Int.le_trans ((lq_num (.inr hk)).1 h1) ((lq_num (.inr hk)).1 h2))
 ·exact (lq_min hk).2 (Int.le_trans ((lq_min hk).1 h2) ((lq_min hk).1 h1))
 ·exact set (.inl hk)
 ·obtain ⟨q, hp⟩ := shape_56 hO hk
  obtain ⟨-, -, p3, p4, -, p6⟩ := el_map ha hk hp
  obtain ⟨-, -, q3, q4, -, q6⟩ := el_map hb hk hp
  obtain ⟨-, -, r3, r4, -, r6⟩ := el_map hc hk hp
  have l1 := (lq_map hk hp p3 q3 q4).1 h1
  have l2 := (lq_map hk hp q3 r3 r4).1 h2
  refine (lq_map hk hp p3 r3 r4).2 fun i s p hs hpp => ?_
  obtain ⟨j, y, hj, hy, g1⟩ := l1 i s p hs hpp
  obtain ⟨k, z, hk', hz, g2⟩ := l2 j s y hj hy
  exact ⟨k, z, hk', hz, ih q (by rw [hp]; simp) p y z (p6 p (List.mem_of_getElem? hpp)).1 (q6 y (List.mem_of_getElem? hy)).1 (r6 z (List.mem_of_getElem? hz)).1 g1 g2⟩
 ·obtain ⟨-, -, -, p4, p5⟩ := el_prod ha (.inl hk)
  obtain ⟨-, -, -, q4, q5⟩ := el_prod hb (.inl hk)
  obtain ⟨-, -, -, r4, r5⟩ := el_prod hc (.inl hk)
  rw [lq_prod hk, leqZ_iff p4 q4] at h1
  rw [lq_prod hk, leqZ_iff q4 r4] at h2
  rw [lq_prod hk, leqZ_iff p4 r4]
  intro k q x z e1 e2 e3
  have hlt := (List.getElem?_eq_some_iff.1 e1).1
  have ey : b.ps[k]? = some (b.ps[k]'(by omega)) := List.getElem?_eq_getElem (by omega)
  exact ih q (List.mem_of_getElem? e1) x _ z (elemZ_get p5 e2 e1) (elemZ_get q5 ey e1) (elemZ_get r5 e3 e1) (h1 k q x _ e1 e2 ey) (h2 k q _ z e1 ey e3)
 ·obtain ⟨p, q, hp⟩ := shape_72 hO.shape hk
  obtain ⟨x1, x2, ea, u1, u2⟩ := two_of ha hk hp
  obtain ⟨y1, y2, eb, v1, v2⟩ := two_of hb hk hp
  obtain ⟨z1, z2, ec, w1, w2⟩ := two_of hc hk hp
  have mp : p ∈ l.ps := by rw [hp]; simp
  have mq : q ∈ l.ps := by rw [hp]; simp
  refine (lq_lex hk hp ea ec).2 ?_
  rcases (lq_lex hk hp ea eb).1 h1 with ⟨e, g1⟩ | ⟨e, g1⟩ <;> rcases (lq_lex hk hp eb ec).1 h2 with ⟨e', g2⟩ | ⟨e', g2⟩
  ·exact .inl ⟨e.trans e', ih q mq _ _ _ u2 v2 w2 g1 g2⟩
  ·subst e; exact .inr ⟨e', g2⟩
  ·subst e'; exact .inr ⟨e, g1⟩
  refine .inr ⟨fun e2 => ?_, ih p mp _ _ _ u1 v1 w1 g1 g2⟩
  subst e2
  exact e (leq_anti p (hO.part p mp) _ _ u1 v1 g1 g2)
 ·have h1 := (lq_flat hk).1 h1
  have h2 := (lq_flat hk).1 h2
  refine (lq_flat hk).2 ?_
  rcases h1 with h1 | h1 | h1
  ·exact .inl h1
  ·rcases h2 with h2 | h2 | h2
   ·omega
   ·exact .inr (.inl h2)
   subst h2; exact .inr (.inl h1)
  subst h1; exact h2
 ·obtain ⟨-, -, -, ra⟩ := el_reg ha hk
  obtain ⟨-, -, -, rb⟩ := el_reg hb hk
  obtain ⟨-, -, -, rc⟩ := el_reg hc hk
  have h1 := (lq_reg hk ra rb).1 h1
  have h2 := (lq_reg hk rb rc).1 h2
  refine (lq_reg hk ra rc).2 fun x hx => ?_
  obtain ⟨y, hy, g1⟩ := h1 x hx
  obtain ⟨z, hz, g2⟩ := h2 y hy
  exact ⟨z, hz, leE_trans g1 g2⟩
 exact set (.inr hk)
theorem leq_trans (l : Lat) (hO : OkL l) (a b c : Val) (ha : elemB a l = true) (hb : elemB b l = true) (hc : elemB c l = true) (h1 : leqB l a b = true) (h2 : leqB l b c = true) : leqB l a c = true := trans_s l hO (fun q hq x y z hx hy hz => leq_trans q (hO.part q hq) x y z hx hy hz) a b c ha hb hc h1 h2
termination_by l
decreasing_by exact Lat.sizeOf_ps ‹_›
theorem leqJ_on {l : Lat} {a b : Val} (hc : checkX l = 0) (ha : elemB a l = true) (hb : elemB b l = true) : leqJ l a b = leqB l a b := by
 unfold leqJ checkJ elementsB
 simp [hc, validV, ha, hb]
end Go.Proofs.YtaecccdkjmipeaaGreat

namespace Go.Proofs.YtaecccdkjmipeaaGreat
open Go.RowKit

theorem bl_eq {x y : Nm} (h : Op.bytesLess x y = false) (k : Op.bytesLess y x = false) : x = y := by
 have h1 := bytesLess_cmp x y
 have h2 := bytesLess_cmp y x
 rw [h] at h1
 rw [k] at h2
 have h3 := compareBytes_ok.anti x y
 have h4 := compareBytes_ok.anti y x
 refine compareBytes_ok.eq x y ?_
 simp only [Bool.false_eq_true, if_false] at h1 h2
 split at h1 <;> split at h2 <;> omega
abbrev pw (l : List Nm) : Prop := l.Pairwise (fun a b => Op.bytesLess a b = true)
theorem pb_mem {b : Bool} {x z : Nm} {l : List Nm} : z ∈ putB b x l ↔ (b = true ∧ z = x) ∨ z ∈ l := by
 unfold putB; cases b <;> simp
theorem pb_pw {b : Bool} {x : Nm} {l : List Nm} (h : pw l) (hx : ∀ z ∈ l, Op.bytesLess x z = true) : pw (putB b x l) := by
 unfold putB; cases b
 ·exact h
 exact List.Pairwise.cons hx h
theorem bl_ne2 {a b : Nm} (h : Op.bytesLess a b = true) : a ≠ b := fun e => by subst e; rw [bl_irr] at h; cases h
theorem mrg_spec (lf bo ri : Bool) : ∀ (n : Nat) (a b : List Nm), a.length + b.length ≤ n → pw a → pw b →
  pw (mrgT lf bo ri a b) ∧ (∀ z, z ∈ mrgT lf bo ri a b ↔ (z ∈ a ∧ z ∉ b ∧ lf = true) ∨ (z ∈ a ∧ z ∈ b ∧ bo = true) ∨ (z ∉ a ∧ z ∈ b ∧ ri = true)) ∧ (mrgT lf bo ri a b).length ≤ a.length + b.length
 | _, [], [], _, _, _ => ⟨List.Pairwise.nil, fun z => by simp [mrgT, mrgN], by simp [mrgT, mrgN]⟩
 | 0, _ :: _, _, h, _, _ => by simp at h
 | 0, [], _ :: _, h, _, _ => by simp at h
 | n + 1, x :: r, [], hl, ha, hb => by
  rw [mg_l]
  have ha' := List.pairwise_cons.1 ha
  obtain ⟨i1, i2, i3⟩ := mrg_spec lf bo ri n r [] (by simp at hl ⊢; omega) ha'.2 hb
  have sub : ∀ z ∈ mrgT lf bo ri r [], z ∈ r := fun z hz => by
   rcases (i2 z).1 hz with h | h | h
   ·exact h.1
   ·exact h.1
   simp at h
  refine ⟨pb_pw i1 fun z hz => ha'.1 z (sub z hz), fun z => ?_, ?_⟩
  ·rw [pb_mem, i2]
   simp only [List.mem_cons, List.not_mem_nil, not_false_eq_true, true_and, false_and, and_false, or_false]
   constructor
   ·rintro (⟨h1, h2⟩ | ⟨h1, h2⟩)
    ·exact ⟨.inl h2, h1⟩
    exact ⟨.inr h1, h2⟩
   rintro ⟨h1 | h1, h2⟩
   ·exact .inl ⟨h2, h1⟩
   exact .inr ⟨h1, h2⟩
  unfold putB; split <;> simp at i3 ⊢ <;> omega
 | n + 1, [], y :: s, hl, ha, hb => by
  rw [mg_r]
  have hb' := List.pairwise_cons.1 hb
  obtain ⟨i1, i2, i3⟩ := mrg_spec lf bo ri n [] s (by simp at hl ⊢; omega) ha hb'.2
  have sub : ∀ z ∈ mrgT lf bo ri [] s, z ∈ s := fun z hz => by
   rcases (i2 z).1 hz with h | h | h
   ·simp at h
   ·simp at h
   exact h.2.1
  refine ⟨pb_pw i1 fun z hz => hb'.1 z (sub z hz), fun z => ?_, ?_⟩
  ·rw [pb_mem, i2]
   simp only [List.mem_cons, List.not_mem_nil, not_false_eq_true, true_and, false_and, false_or]
   constructor
   ·rintro (⟨h1, h2⟩ | ⟨h1, h2⟩)
    ·exact ⟨.inl h2, h1⟩
    exact ⟨.inr h1, h2⟩
   rintro ⟨h1 | h1, h2⟩
   ·exact .inl ⟨h2, h1⟩
   exact .inr ⟨h1, h2⟩
  unfold putB; split <;> simp at i3 ⊢ <;> omega
 | n + 1, x :: r, y :: s, hl, ha, hb => by
  have ha' := List.pairwise_cons.1 ha
  have hb' := List.pairwise_cons.1 hb
  simp only [List.length_cons] at hl
  by_cases c1 : Op.bytesLess x y = true
  ·rw [mg_lt c1]
   obtain ⟨i1, i2, i3⟩ := mrg_spec lf bo ri n r (y :: s) (by simp; omega) ha'.2 hb
   have xs : ∀ z ∈ y :: s, Op.bytesLess x z = true := fun z hz => by
    rcases List.mem_cons.1 hz with rfl | hz
    ·exact c1
    exact bl_trans c1 (hb'.1 z hz)
   refine ⟨pb_pw i1 fun z hz => ?_, fun z => ?_, ?_⟩
   ·rcases (i2 z).1 hz with h | h | h
    ·exact ha'.1 z h.1
    ·exact ha'.1 z h.1
    exact xs z h.2.1
   ·rw [pb_mem, i2]
    by_cases e : z = x
    ·subst e
     have n1 : z ∉ r := fun h => bl_ne2 (ha'.1 z h) rfl
     have n2 : z ∉ y :: s := fun h => bl_ne2 (xs z h) rfl
     simp [n1]
     simp only [List.mem_cons, not_or] at n2
     simp [n2]
    simp [e]
   unfold putB; split <;> simp at i3 ⊢ <;> omega
  rw [Bool.not_eq_true] at c1
  by_cases c2 : Op.bytesLess y x = true
  ·rw [mg_gt c1 c2]
   obtain ⟨i1, i2, i3⟩ := mrg_spec lf bo ri n (x :: r) s (by simp; omega) ha hb'.2
   have ys : ∀ z ∈ x :: r, Op.bytesLess y z = true := fun z hz => by
    rcases List.mem_cons.1 hz with rfl | hz
    ·exact c2
    exact bl_trans c2 (ha'.1 z hz)
   refine ⟨pb_pw i1 fun z hz => ?_, fun z => ?_, ?_⟩
   ·rcases (i2 z).1 hz with h | h | h
    ·exact ys z h.1
    ·exact ys z h.1
    exact hb'.1 z h.2.1
   ·rw [pb_mem, i2]
    by_cases e : z = y
    ·subst e
     have n1 : z ∉ s := fun h => bl_ne2 (hb'.1 z h) rfl
     have n2 : z ∉ x :: r := fun h => bl_ne2 (ys z h) rfl
     simp only [List.mem_cons, not_or] at n2
     simp [n1, n2]
    simp [e]
   unfold putB; split <;> simp at i3 ⊢ <;> omega
  rw [Bool.not_eq_true] at c2
  have e0 := bl_eq c1 c2
  subst e0
  rw [mg_eq c1 c2]
  obtain ⟨i1, i2, i3⟩ := mrg_spec lf bo ri n r s (by omega) ha'.2 hb'.2
  refine ⟨pb_pw i1 fun z hz => ?_, fun z => ?_, ?_⟩
  ·rcases (i2 z).1 hz with h | h | h
   ·exact ha'.1 z h.1
   ·exact ha'.1 z h.1
   exact hb'.1 z h.2.1
  ·rw [pb_mem, i2]
   by_cases e : z = x
   ·subst e
    have n1 : z ∉ r := fun h => bl_ne2 (ha'.1 z h) rfl
    have n2 : z ∉ s := fun h => bl_ne2 (hb'.1 z h) rfl
    simp [n1, n2]
   simp [e]
  unfold putB; split <;> simp at i3 ⊢ <;> omega
/-- the union of sorted names -/
abbrev uni (a b : List Nm) : List Nm := mrgT true true true a b
theorem uni_mem {a b : List Nm} (ha : sortedB a = true) (hb : sortedB b = true) {z : Nm} : z ∈ uni a b ↔ z ∈ a ∨ z ∈ b := by
 rw [(mrg_spec true true true _ a b (Nat.le_refl _) (sorted_pw ha) (sorted_pw hb)).2.1 z]
 by_cases h1 : z ∈ a <;> by_cases h2 : z ∈ b <;> simp [h1, h2]
theorem uni_sorted {a b : List Nm} (ha : sortedB a = true) (hb : sortedB b = true) : sortedB (uni a b) = true := sorted_of_pw (mrg_spec true true true _ a b (Nat.le_refl _) (sorted_pw ha) (sorted_pw hb)).1
theorem uni_len {a b : List Nm} (ha : sortedB a = true) (hb : sortedB b = true) : (uni a b).length ≤ a.length + b.length := (mrg_spec true true true _ a b (Nat.le_refl _) (sorted_pw ha) (sorted_pw hb)).2.2
/-- all lists of a value are short -/
inductive SmV (n : Nat) : Val → Prop
 | mk (v : Val) (h1 : v.nm.length ≤ n) (h2 : v.ps.length ≤ n) (h3 : v.es.length ≤ n) (h4 : ∀ e ∈ v.es, e.1.length ≤ 64) (h5 : ∀ p ∈ v.ps, SmV n p) : SmV n v
section
variable {n : Nat} {v : Val}
theorem SmV.nm (h : SmV n v) : v.nm.length ≤ n := by cases h; assumption
theorem SmV.ps (h : SmV n v) : v.ps.length ≤ n := by cases h; assumption
theorem SmV.es (h : SmV n v) : v.es.length ≤ n := by cases h; assumption
theorem SmV.en (h : SmV n v) : ∀ e ∈ v.es, e.1.length ≤ 64 := by cases h; assumption
theorem SmV.part (h : SmV n v) : ∀ p ∈ v.ps, SmV n p := by cases h; assumption
theorem SmV.up {m : Nat} (hm : n ≤ m) (h : SmV n v) : SmV m v := by
 induction h with
 | mk v h1 h2 h3 h4 _ ih => exact .mk v (by omega) (by omega) (by omega) h4 ih
end

/-- the consequences of names -/
def stepC (rs : List Ru) (s : List Nm) : List Nm := match rs.find? (fun r => subsetB r.i s && !hasB s r.t) with | some r => s ++ [r.t] | none => s
def iterC (rs : List Ru) : Nat → List Nm → List Nm
 | 0, s => s
 | n + 1, s => iterC rs n (stepC rs s)
def closeV (u : List Nm) (rs : List Ru) (s : List Nm) : List Nm := u.filter (hasB (iterC rs rs.length s))
mutual
/-- the least upper bound of two elements -/
def joinV : Lat → Val → Val → Val
 | .mk k lo hi nm ps rs, a, b =>
  if k == 4 then .mk 0 (uni a.nm b.nm) [] []
  else if k == 10 then .mk 0 (closeV nm rs (uni a.nm b.nm)) [] []
  else if k == 9 then .mk 0 [] [] (mergedE a.es b.es)
  else if k == 5 then .mk 0 (uni a.nm b.nm) (joinM ps (uni a.nm b.nm) a b) []
  else if k == 6 then .mk 0 [] (joinZ ps a.ps b.ps) []
  else match (if k == 7 then joinX ps a.ps b.ps else none) with
   | some v => v
   | none => if leqB (.mk k lo hi nm ps rs) a b then b else if leqB (.mk k lo hi nm ps rs) b a then a else .mk 2 [] [] []
def joinM : List Lat → List Nm → Val → Val → List Val
 | [], _, _, _ => []
 | q :: _, u, a, b => u.map fun s => match partOf a s, partOf b s with
  | none, some y => y
  | some x, none => x
  | some x, some y => joinV q x y
  | none, none => Val.zero
def joinZ : List Lat → List Val → List Val → List Val
 | q :: r, x :: a, y :: b => joinV q x y :: joinZ r a b
 | _, _, _ => []
def joinX : List Lat → List Val → List Val → Option Val
 | [_, q], [x1, x2], [y1, y2] => if eqV x1 y1 then some (.mk 0 [] [x1, joinV q x2 y2] []) else none
 | _, _, _ => none
end
/-- the part of a join of maps under a name -/
def joinF (q : Lat) (a b : Val) (s : Nm) : Val := match partOf a s, partOf b s with
 | none, some y => y
 | some x, none => x
 | some x, some y => joinV q x y
 | none, none => Val.zero
theorem joinM_map (q : Lat) (r : List Lat) (u : List Nm) (a b : Val) : joinM (q :: r) u a b = u.map (joinF q a b) := by rw [joinM]; rfl
theorem joinV_eq (l : Lat) (a b : Val) : joinV l a b =
  if l.k == 4 then .mk 0 (uni a.nm b.nm) [] []
  else if l.k == 10 then .mk 0 (closeV l.nm l.rs (uni a.nm b.nm)) [] []
  else if l.k == 9 then .mk 0 [] [] (mergedE a.es b.es)
  else if l.k == 5 then .mk 0 (uni a.nm b.nm) (joinM l.ps (uni a.nm b.nm) a b) []
  else if l.k == 6 then .mk 0 [] (joinZ l.ps a.ps b.ps) []
  else match (if l.k == 7 then joinX l.ps a.ps b.ps else none) with
   | some v => v
   | none => if leqB l a b then b else if leqB l b a then a else .mk 2 [] [] [] := by
 cases l with
 | mk k lo hi nm ps rs => rw [joinV]; rfl
section
variable {a b : Val} {q : Lat} {s : Nm} {x y : Val}
theorem jf_b (h1 : partOf a s = none) (h2 : partOf b s = some y) : joinF q a b s = y := by unfold joinF; rw [h1, h2]
theorem jf_a (h1 : partOf a s = some x) (h2 : partOf b s = none) : joinF q a b s = x := by unfold joinF; rw [h1, h2]
theorem jf_2 (h1 : partOf a s = some x) (h2 : partOf b s = some y) : joinF q a b s = joinV q x y := by unfold joinF; rw [h1, h2]
end
theorem jm_step {u : List Nm} {f : Nm → Val} {k : Nat} {s : Nm} {y : Val} (h : u[k]? = some s) (hf : f s = y) : (((u.take k).map f).map valC) ++ chunkA 4 1 (valL y) = (((u.take (k + 1)).map f).map valC) := by
 have : chunkA 4 1 (valL y) = [valC y] := by rw [valC_eq]; rfl
 rw [this, List.take_add_one, h, ← hf]; simp
theorem jz_len : ∀ {ls : List Lat} {xs ys : List Val}, xs.length = ls.length → ys.length = ls.length → (joinZ ls xs ys).length = ls.length
 | [], [], [], _, _ => by simp [joinZ]
 | q :: r, x :: a, y :: b, h1, h2 => by rw [joinZ]; simp [jz_len (ls := r) (by simpa using h1) (by simpa using h2)]
 | [], _ :: _, _, h, _ => by simp at h
 | [], [], _ :: _, _, h => by simp at h
 | _ :: _, [], _, h, _ => by simp at h
 | _ :: _, _ :: _, [], _, h => by simp at h
theorem jz_get : ∀ {ls : List Lat} {xs ys : List Val} {k : Nat} {q : Lat} {x y : Val}, ls[k]? = some q → xs[k]? = some x → ys[k]? = some y → (joinZ ls xs ys)[k]? = some (joinV q x y)
 | q :: r, x :: a, y :: b, 0, q', x', y', h1, h2, h3 => by simp at h1 h2 h3; subst h1 h2 h3; rw [joinZ]; rfl
 | q :: r, x :: a, y :: b, k + 1, q', x', y', h1, h2, h3 => by rw [joinZ]; exact jz_get (ls := r) (by simpa using h1) (by simpa using h2) (by simpa using h3)
 | [], _, _, _, _, _, _, h, _, _ => by simp at h
 | _ :: _, [], _, _, _, _, _, _, h, _ => by simp at h
 | _ :: _, _ :: _, [], _, _, _, _, _, _, h => by simp at h
theorem jz_step {l : List Val} {k : Nat} {y : Val} (h : l[k]? = some y) : ((l.take k).map valC) ++ chunkA 4 1 (valL y) = ((l.take (k + 1)).map valC) := by
 have : chunkA 4 1 (valL y) = [valC y] := by rw [valC_eq]; rfl
 rw [this, List.take_add_one, h]; simp
end Go.Proofs.YtaecccdkjmipeaaGreat
