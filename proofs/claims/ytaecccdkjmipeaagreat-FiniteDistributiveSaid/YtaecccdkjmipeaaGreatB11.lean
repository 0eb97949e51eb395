/-
  Plain laws: values are compared by a total order; clocks, en
-/
import Derived.Test.YtaecccdkjmipeaaGreatB10
import Derived.Test.YtaecccdkjmipeaaGreatB4
namespace Go.Proofs.YtaecccdkjmipeaaGreat
open Go.RowKit
theorem QlI {α β : Type} (c : α → α → Int) (f : β → α) : ∀ a b : List β, Jp c (a.map f) (b.map f) = Jp (fun x y => c (f x) (f y)) a b
 | [], [] => rfl
 | [], _ :: _ => rfl
 | _ :: _, [] => rfl
 | x :: a, y :: b => by simp only [List.map, Jp]; rw [QlI c f a b]
abbrev VS (n : Nat) := {v : Qn // SizeOf.sizeOf v < n}
def VS.down {n : Nat} (v : VS (n + 1)) : List (VS n) := v.1.ps.attach.map fun p => ⟨p.1, by have := Qn.sizeOf_ps p.2; have := v.2; omega⟩
theorem VS.down_map {n : Nat} (v : VS (n + 1)) : v.down.map Subtype.val = v.1.ps := by
 unfold VS.down; rw [List.map_map]; exact List.attach_map_subtype_val _
theorem Qes : ∀ n, WK (fun x y : VS n => Jk x.1 y.1)
 | 0 => ⟨fun x => absurd x.2 (Nat.not_lt_zero _), fun x => absurd x.2 (Nat.not_lt_zero _), fun x => absurd x.2 (Nat.not_lt_zero _)⟩
 | n + 1 => by
  have ih := Qes n
  have h3 := QeD (α := List (VS n) × List En) Prod.fst Prod.snd (QeE ih) (QeE YR) (fun x y h1 h2 => Prod.ext h1 h2)
  have h2 := QeD (α := List Nm × (List (VS n) × List En)) Prod.fst Prod.snd (QeE Kl) h3 (fun x y h1 h2 => Prod.ext h1 h2)
  have h1 := QeD (α := VS (n + 1)) (fun v => v.1.N) (fun v => (v.1.nm, (v.down, v.1.es))) Kz h2 (fun x y e1 e2 => by
   have e3 := congrArg Prod.fst e2
   have e4 := congrArg (fun p => p.2.1) e2
   have e5 := congrArg (fun p => p.2.2) e2
   simp only at e3 e4 e5
   have e6 : x.1.ps = y.1.ps := by rw [← VS.down_map, ← VS.down_map, e4]
   apply Subtype.ext
   rw [← Qn.eta x.1, ← Qn.eta y.1, e1, e3, e6, e5])
  refine Eq.mpr (congrArg WK ?_) h1
  funext x y
  rw [Qb6, ← VS.down_map x, ← VS.down_map y, QlI, Qvs]
  simp only [QnG]
  by_cases c1 : Lib.compareInt x.1.N y.1.N = 0
  ·by_cases c2 : Jp Lib.compareBytes x.1.nm y.1.nm = 0
   ·by_cases c3 : Jp (fun x y : VS n => Jk x.1 y.1) x.down y.down = 0
    ·simp only [c1, c2, c3, ne_eq, not_true, if_true, if_false]
    simp only [c1, c2, c3, ne_eq, not_true, not_false_eq_true, if_true, if_false]
   simp only [c1, c2, ne_eq, not_true, not_false_eq_true, if_true, if_false]
  simp only [c1, ne_eq, not_false_eq_true, if_true, if_false]
theorem JN : WK Jk where
 anti x y := (Qes (SizeOf.sizeOf x + SizeOf.sizeOf y + 1)).anti ⟨x, by omega⟩ ⟨y, by omega⟩
 trans x y z := (Qes (SizeOf.sizeOf x + SizeOf.sizeOf y + SizeOf.sizeOf z + 1)).trans ⟨x, by omega⟩ ⟨y, by omega⟩ ⟨z, by omega⟩
 eq x y h := congrArg Subtype.val ((Qes (SizeOf.sizeOf x + SizeOf.sizeOf y + 1)).eq ⟨x, by omega⟩ ⟨y, by omega⟩ h)
theorem J8 (x y : Qn) : eqV x y = true ↔ x = y := by
 unfold eqV; rw [beq_iff_eq]
 exact ⟨JN.eq x y, fun h => h ▸ JN.refl x⟩
theorem Ks {last : Int} {t : Tk} : Qgg last t = true ↔ last < t.1 ∧ t.1 ≤ 63 ∧ 1 ≤ t.2 ∧ t.2 ≤ 1000000000000000 := by
 simp only [Qgg, Bool.not_eq_true', Bool.or_eq_false_iff, decide_eq_false_iff_not]; omega
theorem K8 {last : Int} {x : Tk} {r : List Tk} : Xw last (x :: r) = true ↔ Qgg last x = true ∧ Xw x.1 r = true := by
 rw [Xw, Bool.and_eq_true]
theorem X2 (x : Tk) (r : List Tk) (p : Int) : Qip (x :: r) p = if x.1 = p then x.2 else Qip r p := by
 unfold Qip
 rw [List.find?_cons]
 by_cases h : x.1 = p
 ·rw [if_pos h, show (x.1 == p) = true from beq_iff_eq.2 h]
 rw [if_neg h, show (x.1 == p) = false from beq_eq_false_iff_ne.2 h]
theorem Qbq : ∀ (l : List Tk) (last p : Int), Xw last l = true → p ≤ last → Qip l p = 0
 | [], _, _, _, _ => rfl
 | x :: r, last, p, h, hp => by
  obtain ⟨h1, h2⟩ := K8.1 h
  have := Ks.1 h1
  rw [X2, if_neg (by omega)]
  exact Qbq r x.1 p h2 (by omega)
theorem Qdg : ∀ (l : List Tk) (last p : Int), Xw last l = true → 0 ≤ Qip l p
 | [], _, _, _ => Int.le_refl _
 | x :: r, last, p, h => by
  obtain ⟨h1, h2⟩ := K8.1 h
  have := Ks.1 h1
  rw [X2]
  split
  ·omega
  exact Qdg r x.1 p h2
def cle (a b : List Tk) : Prop := ∀ p, Qip a p ≤ Qip b p
theorem Qib (a : List Tk) : cle a a := fun _ => Int.le_refl _
theorem Qi9 {a b c : List Tk} (h : cle a b) (k : cle b c) : cle a c := fun p => Int.le_trans (h p) (k p)
theorem Qkv {p k : Int} {l : List Tk} (h : k > 0) : QcI p k l ≠ [] := by unfold QcI; rw [if_pos h]; simp
theorem Qj3 {p k : Int} {l : List Tk} (h : ¬ k > 0) : QcI p k l = l := by unfold QcI; rw [if_neg h]
theorem Qn9 {l : List Tk} {a b : Int} (h : Xw a l = true) (hb : ∀ x r, l = x :: r → b < x.1) : Xw b l = true := by
 cases l with
 | nil => rfl
 | cons x r =>
  obtain ⟨h1, h2⟩ := K8.1 h
  have := Ks.1 h1
  have := hb x r rfl
  exact K8.2 ⟨Ks.2 ⟨by omega, by omega, by omega, by omega⟩, h2⟩
theorem QeJ : ∀ (n : Nat) (a b : List Tk) (l1 l2 : Int), a.length + b.length ≤ n → Xw l1 a = true → Xw l2 b = true → (K5 KS a b = [] ↔ cle a b)
 | _, [], [], _, _, _, _, _ => ⟨fun _ => Qib _, fun _ => rfl⟩
 | 0, _ :: _, _, _, _, h, _, _ => by simp at h
 | 0, [], _ :: _, _, _, h, _, _ => by simp at h
 | n + 1, x :: r, [], l1, l2, _, ha, _ => by
  obtain ⟨h1, h2⟩ := K8.1 ha
  have := Ks.1 h1
  rw [QvC]
  refine ⟨fun h => absurd h (Qkv ?_), fun h => ?_⟩
  ·unfold KS; split <;> omega
  have h3 := h x.1
  rw [X2, if_pos rfl] at h3
  have : Qip [] x.1 = 0 := rfl
  omega
 | n + 1, [], y :: s, l1, l2, hl, ha, hb => by
  obtain ⟨h1, h2⟩ := K8.1 hb
  have := Ks.1 h1
  rw [Qvr, Qj3 (by unfold KS; split <;> omega), QeJ n [] s l1 y.1 (by simp at hl ⊢; omega) ha h2]
  exact ⟨fun _ p => Qdg _ _ p hb, fun _ p => Qdg _ _ p h2⟩
 | n + 1, x :: r, y :: s, l1, l2, hl, ha, hb => by
  obtain ⟨h1, h2⟩ := K8.1 ha
  obtain ⟨k1, k2⟩ := K8.1 hb
  have o1 := Ks.1 h1
  have o2 := Ks.1 k1
  simp only [List.length_cons] at hl
  by_cases e1 : x.1 < y.1
  ·rw [Qsf e1]
   refine ⟨fun h => absurd h (Qkv (by unfold KS; split <;> omega)), fun h => ?_⟩
   have h3 := h x.1
   have hb' : Xw x.1 (y :: s) = true := Qn9 hb (fun z q e => by cases e; exact e1)
   rw [X2, if_pos rfl, Qbq _ _ _ hb' (Int.le_refl _)] at h3
   omega
  by_cases e2 : y.1 < x.1
  ·rw [Qq1 e1 e2, Qj3 (by unfold KS; split <;> omega), QeJ n (x :: r) s l1 y.1 (by simp; omega) ha k2]
   have ha' : Xw y.1 (x :: r) = true := Qn9 ha (fun z q e => by cases e; exact e2)
   constructor
   ·intro h p
    rw [X2 y]
    by_cases hp : y.1 = p
    ·rw [if_pos hp, ← hp, Qbq _ _ _ ha' (Int.le_refl _)]; omega
    rw [if_neg hp]; exact h p
   intro h p
   have := h p
   rw [X2 y] at this
   by_cases hp : y.1 = p
   ·rw [← hp, Qbq _ _ _ ha' (Int.le_refl _)]; exact Qdg _ _ _ k2
   rw [if_neg hp] at this; exact this
  have e : x.1 = y.1 := by omega
  rw [Qsa e1 e2]
  by_cases hg : x.2 > y.2
  ·refine ⟨fun h => absurd h (Qkv (by unfold KS; rw [if_pos hg]; omega)), fun h => ?_⟩
   have := h x.1
   rw [X2, if_pos rfl, X2, if_pos e.symm] at this
   omega
  rw [Qj3 (by unfold KS; rw [if_neg hg]; omega), QeJ n r s x.1 y.1 (by omega) h2 k2]
  constructor
  ·intro h p
   rw [X2, X2, ← e]
   by_cases hp : x.1 = p
   ·rw [if_pos hp, if_pos hp]; omega
   rw [if_neg hp, if_neg hp]; exact h p
  intro h p
  have := h p
  rw [X2, X2, ← e] at this
  by_cases hp : x.1 = p
  ·rw [← hp, Qbq _ _ _ h2 (Int.le_refl _)]; exact Qdg _ _ _ k2
  rw [if_neg hp, if_neg hp] at this; exact this
theorem Qon : ∀ (a b : List Tk) (l1 l2 : Int), Xw l1 a = true → Xw l2 b = true → cle a b → cle b a → a = b
 | [], [], _, _, _, _, _, _ => rfl
 | x :: r, [], _, _, ha, _, h, _ => by
  have := Ks.1 (K8.1 ha).1
  have := h x.1
  rw [X2, if_pos rfl] at this
  have : Qip [] x.1 = 0 := rfl
  omega
 | [], y :: s, _, _, _, hb, _, h => by
  have := Ks.1 (K8.1 hb).1
  have := h y.1
  rw [X2, if_pos rfl] at this
  have : Qip [] y.1 = 0 := rfl
  omega
 | x :: r, y :: s, l1, l2, ha, hb, h, k => by
  obtain ⟨h1, h2⟩ := K8.1 ha
  obtain ⟨k1, k2⟩ := K8.1 hb
  have o1 := Ks.1 h1
  have o2 := Ks.1 k1
  have e : x.1 = y.1 := by
   rcases Int.lt_trichotomy x.1 y.1 with e | e | e
   ·have h3 := h x.1
    rw [X2, if_pos rfl, Qbq _ _ _ (Qn9 hb (fun z q e' => by cases e'; exact e)) (Int.le_refl _)] at h3
    omega
   ·exact e
   have h3 := k y.1
   rw [X2, if_pos rfl, Qbq _ _ _ (Qn9 ha (fun z q e' => by cases e'; exact e)) (Int.le_refl _)] at h3
   omega
  have e2 : x.2 = y.2 := by
   have h3 := h x.1
   have h4 := k x.1
   rw [X2, if_pos rfl, X2, if_pos e.symm] at h3
   rw [X2, if_pos e.symm, X2, if_pos rfl] at h4
   omega
  have e3 : x = y := Prod.ext e e2
  subst e3
  have tl : ∀ (u v : List Tk), Xw x.1 u = true → Xw x.1 v = true → cle (x :: u) (x :: v) → cle u v := fun u v hu hv h p => by
   have := h p
   rw [X2, X2] at this
   by_cases hp : x.1 = p
   ·rw [← hp, Qbq _ _ _ hu (Int.le_refl _)]; exact Qdg _ _ _ hv
   rw [if_neg hp, if_neg hp] at this; exact this
  rw [Qon r s x.1 x.1 h2 k2 (tl _ _ h2 k2 h) (tl _ _ k2 h2 k)]
open Classical in
theorem Qkb {a b : List Tk} (ha : Xw (-1) a = true) (hb : Xw (-1) b = true) : Qet a b = if cle a b then (if cle b a then 0 else 1) else if cle b a then 2 else 3 := by
 have e : ∀ a b : List Tk, Xw (-1) a = true → Xw (-1) b = true → ((Qfh a b).length == 0) = decide (cle a b) := fun a b ha hb => by
  unfold Qfh Qjl
  rw [ha, hb, Bool.and_self, if_pos rfl]
  have := QeJ _ a b (-1) (-1) (Nat.le_refl _) ha hb
  by_cases h : cle a b
  ·rw [this.2 h]; simp [h]
  have h2 : K5 KS a b ≠ [] := fun e => h (this.1 e)
  have h3 : (K5 KS a b).length ≠ 0 := fun e => h2 (List.eq_nil_of_length_eq_zero e)
  simp [h, h3]
 unfold Qet
 rw [ha, hb, e a b ha hb, e b a hb ha]
 simp
def ltE (x y : En) : Prop := cle x.1 y.1 ∧ ¬ cle y.1 x.1
def leE (x y : En) : Prop := ltE x y ∨ x = y
theorem Qh2 (x : En) : ¬ ltE x x := fun h => h.2 h.1
theorem QdM {x y z : En} (h1 : ltE x y) (h2 : ltE y z) : ltE x z := ⟨Qi9 h1.1 h2.1, fun h => h2.2 (Qi9 h h1.1)⟩
theorem QeC (x : En) : leE x x := .inr rfl
theorem Qjc {x y z : En} (h1 : leE x y) (h2 : leE y z) : leE x z := by
 rcases h1 with h1 | rfl
 ·rcases h2 with h2 | rfl
  ·exact .inl (QdM h1 h2)
  exact .inl h1
 exact h2
theorem QtI {x y z : En} (h1 : ltE x y) (h2 : leE y z) : ltE x z := by
 rcases h2 with h2 | rfl
 ·exact QdM h1 h2
 exact h1
theorem Qul {x y z : En} (h1 : leE x y) (h2 : ltE y z) : ltE x z := by
 rcases h1 with h1 | rfl
 ·exact QdM h1 h2
 exact h2
theorem Qg7 {x y : En} (hx : Xw (-1) x.1 = true) (hy : Xw (-1) y.1 = true) : QcN x y = true ↔ leE x y := by
 unfold QcN
 rw [Qkb hx hy]
 by_cases h1 : cle x.1 y.1 <;> by_cases h2 : cle y.1 x.1
 ·have e := Qon _ _ _ _ hx hy h1 h2
  simp only [h1, h2, if_true]
  constructor
  ·intro h; exact .inr (Prod.ext e (by simpa using h))
  rintro (h | rfl)
  ·exact absurd h2 h.2
  simp
 ·simp only [h1, h2, if_true, if_false]
  exact ⟨fun _ => .inl ⟨h1, h2⟩, fun _ => by simp⟩
 ·simp only [h1, h2, if_true, if_false]
  exact ⟨fun h => by simp at h, fun h => by
   rcases h with h | rfl
   ·exact absurd h.1 h1
   exact absurd (Qib _) h1⟩
 simp only [h1, h2, if_false]
 exact ⟨fun h => by simp at h, fun h => by
  rcases h with h | rfl
  ·exact absurd h.1 h1
  exact absurd (Qib _) h1⟩
theorem QiC {x y : En} (hx : Xw (-1) x.1 = true) (hy : Xw (-1) y.1 = true) : QnR x y = true ↔ ltE x y := by
 unfold QnR ltE
 rw [Qkb hx hy]
 by_cases h1 : cle x.1 y.1 <;> by_cases h2 : cle y.1 x.1 <;> simp [h1, h2]
theorem Qig {x y : En} (hx : Xw (-1) x.1 = true) (hy : Xw (-1) y.1 = true) : Qew x y = true ↔ ¬ ltE x y ∧ ¬ ltE y x := by
 unfold Qew ltE
 rw [Qkb hx hy]
 by_cases h1 : cle x.1 y.1 <;> by_cases h2 : cle y.1 x.1 <;> simp [h1, h2]
structure Y3 (es : List En) : Prop where
 valid : ∀ x ∈ es, Xw (-1) x.1 = true
 ne : ∀ x ∈ es, x.1 ≠ []
 name : ∀ x ∈ es, XV x.2 = true
 sorted : es.Pairwise (fun x y => Ku x y < 0)
 anti : ∀ x ∈ es, ∀ y ∈ es, ¬ ltE x y
theorem QtL {x y z : En} (h1 : Ku x y < 0) (h2 : Ku y z < 0) : Ku x z < 0 := by
 have := (YR.swo (fun x : En => x)).trans x y z (decide_eq_true h1) (decide_eq_true h2)
 exact of_decide_eq_true this
theorem Qbf : ∀ (es : List En), (∀ j e d, es[j + 1]? = some e → es[j]? = some d → Ku d e < 0) → es.Pairwise (fun x y => Ku x y < 0)
 | [], _ => List.Pairwise.nil
 | [_], _ => List.pairwise_singleton _ _
 | a :: b :: r, h => by
  have ih := Qbf (b :: r) (fun j e d he hd => h (j + 1) e d (by simpa using he) (by simpa using hd))
  have hab := h 0 b a rfl rfl
  refine List.Pairwise.cons (fun y hy => ?_) ih
  rcases List.mem_cons.1 hy with rfl | hy
  ·exact hab
  exact QtL hab ((List.pairwise_cons.1 ih).1 y hy)
theorem Qop {l : List En} : QmT l = true ↔ ∀ k x, l[k]? = some x → Qep l x k = true := by
 unfold QmT
 rw [List.all_eq_true]
 constructor
 ·intro h k x hx
  exact h (x, k) (List.mem_of_getElem? (Km hx))
 rintro h ⟨x, k⟩ hm
 obtain ⟨i, hi⟩ := List.mem_iff_getElem?.1 hm
 have h2 := (List.getElem?_eq_some_iff.1 hi).1
 rw [QlF] at h2
 have h3 := Km (List.getElem?_eq_getElem h2)
 rw [hi] at h3
 cases h3
 exact h k _ (List.getElem?_eq_getElem h2)
theorem Qme {l : List En} {k : Nat} {x : En} (hx : l[k]? = some x) : Qep l x k = true ↔ x.1 ≠ [] ∧ Xw (-1) x.1 = true ∧ XV x.2 = true ∧ (∀ y, 0 < k → l[k - 1]? = some y → Ku y x < 0) ∧ ∀ y ∈ l.take k, Qew x y = true := by
 have hkl := (List.getElem?_eq_some_iff.1 hx).1
 unfold Qep
 simp only [Bool.and_eq_true, Bool.not_eq_true', List.all_eq_true, and_assoc]
 refine and_congr ?_ (and_congr Iff.rfl (and_congr Iff.rfl (and_congr ?_ Iff.rfl)))
 ·cases x.1 <;> simp; omega
 by_cases hk : 0 < k
 ·have h1 : l[k - 1]? = some l[k - 1] := List.getElem?_eq_getElem (by omega)
  have h0 : ((k : Int) > 0) := by omega
  rw [h1]
  simp [hk]
 have h0 : ¬ ((k : Int) > 0) := by omega
 simp only [h0, decide_false, Bool.false_and]
 exact ⟨fun _ y h => absurd h hk, fun _ => trivial⟩
theorem Y3.of {es : List En} (h : QmT es = true) : Y3 es := by
 have h' := fun k x hx => (Qme hx).1 (Qop.1 h k x hx)
 have hj : ∀ x ∈ es, ∃ j : Nat, es[j]? = some x := fun x hx => List.mem_iff_getElem?.1 hx
 have hv : ∀ x ∈ es, Xw (-1) x.1 = true := fun x hx => by obtain ⟨j, hj⟩ := hj x hx; exact (h' j x hj).2.1
 refine ⟨hv, fun x hx => ?_, fun x hx => ?_, ?_, fun x hx y hy hlt => ?_⟩
 ·obtain ⟨j, hj⟩ := hj x hx; exact (h' j x hj).1
 ·obtain ⟨j, hj⟩ := hj x hx; exact (h' j x hj).2.2.1
 ·exact Qbf es (fun j e d he hd => (h' (j + 1) e he).2.2.2.1 d (by omega) hd)
 obtain ⟨j, hj⟩ := hj x hx
 obtain ⟨k, hk⟩ := List.mem_iff_getElem?.1 hy
 rcases Nat.lt_trichotomy j k with e | e | e
 ·have hm : x ∈ es.take k := by rw [List.mem_take_iff_getElem]; obtain ⟨g1, g2⟩ := List.getElem?_eq_some_iff.1 hj; exact ⟨j, by omega, g2⟩
  exact ((Qig (hv y hy) (hv x hx)).1 ((h' k y hk).2.2.2.2 x hm)).2 hlt
 ·subst e
  rw [hj] at hk; cases hk
  exact Qh2 _ hlt
 have hm : y ∈ es.take j := by rw [List.mem_take_iff_getElem]; obtain ⟨g1, g2⟩ := List.getElem?_eq_some_iff.1 hk; exact ⟨k, by omega, g2⟩
 exact ((Qig (hv x hx) (hv y hy)).1 ((h' j x hj).2.2.2.2 y hm)).1 hlt
theorem Y3.regB_ {es : List En} (h : Y3 es) : QmT es = true := by
 refine Qop.2 fun k x hx => (Qme hx).2 ?_
 have hm := List.mem_of_getElem? hx
 refine ⟨h.ne x hm, h.valid x hm, h.name x hm, fun y hk hy => ?_, fun y hy => ?_⟩
 ·obtain ⟨h1, rfl⟩ := List.getElem?_eq_some_iff.1 hx
  obtain ⟨h2, rfl⟩ := List.getElem?_eq_some_iff.1 hy
  exact List.pairwise_iff_getElem.1 h.sorted (k - 1) k h2 h1 (by omega)
 have hy := List.mem_of_mem_take hy
 exact (Qig (h.valid x hm) (h.valid y hy)).2 ⟨h.anti x hm y hy, h.anti y hy x hm⟩
theorem Y3.nodup {es : List En} (h : Y3 es) : es.Nodup := h.sorted.imp (fun {a b} h e => by subst e; rw [YR.refl] at h; exact absurd h (by decide))
theorem Qim {a b : List En} (hp : a.Perm b) (ha : a.Pairwise (fun x y => Ku x y ≤ 0)) (hb : b.Pairwise (fun x y => Ku x y ≤ 0)) : a = b :=
 hp.eq_of_pairwise (fun x y _ _ h1 h2 => YR.eq x y (by have := YR.anti y x; omega)) ha hb
theorem Y3.ext_ {a b : List En} (ha : Y3 a) (hb : Y3 b) (h : ∀ x, x ∈ a ↔ x ∈ b) : a = b :=
 Qim ((List.perm_ext_iff_of_nodup ha.nodup hb.nodup).2 h) (ha.sorted.imp (fun h => by omega)) (hb.sorted.imp (fun h => by omega))
theorem Y3.le_eq {es : List En} (h : Y3 es) {x y : En} (hx : x ∈ es) (hy : y ∈ es) (hl : leE x y) : x = y := by
 rcases hl with hl | hl
 ·exact absurd hl (h.anti x hx y hy)
 exact hl
theorem Qbl {x : En} {es : List En} (hx : Xw (-1) x.1 = true) (hv : ∀ y ∈ es, Xw (-1) y.1 = true) : KN es x = true ↔ ∃ y ∈ es, leE x y := by
 unfold KN
 rw [List.any_eq_true]
 exact ⟨fun ⟨y, hy, h⟩ => ⟨y, hy, (Qg7 hx (hv y hy)).1 h⟩, fun ⟨y, hy, h⟩ => ⟨y, hy, (Qg7 hx (hv y hy)).2 h⟩⟩
theorem Qng {a b : List En} (ha : ∀ x ∈ a, Xw (-1) x.1 = true) (hb : ∀ x ∈ b, Xw (-1) x.1 = true) : a.all (KN b) = true ↔ ∀ x ∈ a, ∃ y ∈ b, leE x y := by
 rw [List.all_eq_true]
 exact ⟨fun h x hx => (Qbl (ha x hx) hb).1 (h x hx), fun h x hx => (Qbl (ha x hx) hb).2 (h x hx)⟩
theorem Jb {l : List Nm} {s : Nm} : Jn l s = true ↔ s ∈ l := by
 unfold Jn; rw [List.any_eq_true]
 exact ⟨fun ⟨x, hx, h⟩ => by rw [beq_iff_eq] at h; exact h ▸ hx, fun h => ⟨s, h, by simp⟩⟩
theorem Jf {a b : List Nm} : JR a b = true ↔ ∀ x ∈ a, x ∈ b := by
 unfold JR; rw [List.all_eq_true]
 exact ⟨fun h x hx => Jb.1 (h x hx), fun h x hx => Jb.2 (h x hx)⟩
theorem Qun {a b : Nm} (h : Op.bytesLess a b = true) (k : Op.bytesLess b a = true) : False := by
 have := Qa5 h k; rw [Qcx] at this; cases this
theorem QvK : ∀ {a b : List Nm}, a.Pairwise (fun a b => Op.bytesLess a b = true) → b.Pairwise (fun a b => Op.bytesLess a b = true) → (∀ x, x ∈ a ↔ x ∈ b) → a = b := fun {a b} ha hb h => by
 have na : a.Nodup := ha.imp (fun {x y} h e => by subst e; rw [Qcx] at h; cases h)
 have nb : b.Nodup := hb.imp (fun {x y} h e => by subst e; rw [Qcx] at h; cases h)
 exact ((List.perm_ext_iff_of_nodup na nb).2 h).eq_of_pairwise (fun x y _ _ h1 h2 => absurd h2 fun h2 => Qun h1 h2) ha hb
theorem W8 {a b : List Nm} (ha : Qo a = true) (hb : Qo b = true) (h : ∀ x, x ∈ a ↔ x ∈ b) : a = b := QvK (Jm ha) (Jm hb) h
theorem Kk : ∀ {l : List Nm}, l.Pairwise (fun a b => Op.bytesLess a b = true) → Qo l = true
 | [], _ => rfl
 | [_], _ => rfl
 | a :: b :: l, h => by
  show (Op.bytesLess a b && Qo (b :: l)) = true
  rw [List.pairwise_cons] at h
  rw [h.1 b (by simp), Kk h.2]; rfl
theorem Kp {l : List Nm} (h : Qo l = true) : l.Nodup := (Jm h).imp (fun {x y} h e => by subst e; rw [Qcx] at h; cases h)
theorem QiL {s : Nm} : ∀ (l : List Nm) (i k : Nat), l.Nodup → l[k]? = some s → X5 s l i = ((i + k : Nat) : Int)
 | [], _, _, _, h => by simp at h
 | x :: l, i, 0, _, h => by
  simp at h; subst h
  unfold X5; simp
 | x :: l, i, k + 1, hn, h => by
  rw [List.nodup_cons] at hn
  have h : l[k]? = some s := by simpa using h
  have hne : (s == x) = false := by
   rw [beq_eq_false_iff_ne]
   intro e; subst e
   exact hn.1 (List.mem_of_getElem? h)
  unfold X5
  rw [hne]
  simp only [Bool.false_eq_true, if_false]
  rw [QiL l (i + 1) k hn.2 h]
  congr 1; omega
theorem Qdr {v : Qn} {s : Nm} {k : Nat} (hs : Qo v.nm = true) (h : v.nm[k]? = some s) : JZ v s = v.ps[k]? := by
 unfold JZ
 rw [QiL v.nm 0 k (Kp hs) h, if_neg (by omega)]
 simp
theorem QfO {s : Nm} : ∀ (l : List Nm) (i : Nat), s ∉ l → X5 s l i = -1
 | [], _, _ => rfl
 | x :: l, i, h => by
  simp only [List.mem_cons, not_or] at h
  unfold X5
  rw [show (s == x) = false from beq_eq_false_iff_ne.2 h.1]
  simp only [Bool.false_eq_true, if_false]
  exact QfO l (i + 1) h.2
theorem Qdp {v : Qn} {s : Nm} (h : s ∉ v.nm) : JZ v s = none := by
 unfold JZ; rw [QfO _ _ h]; rfl
theorem Qbi {l : Qs} (h : Kv l) : l.k = 1 ∨ l.k = 2 ∨ l.k = 3 ∨ l.k = 4 ∨ l.k = 5 ∨ l.k = 6 ∨ l.k = 7 ∨ l.k = 8 ∨ l.k = 9 ∨ l.k = 10 := by
 have h := h.shape
 unfold Xq at h
 by_cases hk : Y5 l.k = true
 ·simp [Y5, Ja, Jr] at hk; omega
 rw [if_neg hk] at h; cases h
theorem Qn.ext_ {v w : Qn} (h1 : v.N = w.N) (h2 : v.nm = w.nm) (h3 : v.ps = w.ps) (h4 : v.es = w.es) : v = w := by
 rw [← v.eta, ← w.eta, h1, h2, h3, h4]
theorem JO {v : Qn} {n li pa en : Bool} : Jx v n li pa en = true ↔ (n = true ∨ v.N = 0) ∧ (li = true ∨ v.nm = []) ∧ (pa = true ∨ v.ps = []) ∧ (en = true ∨ v.es = []) := by
 unfold Jx
 simp [and_assoc]
section
variable {l : Qs} {v : Qn}
theorem Qno (h : Qr v l = true) (hk : l.k = 1 ∨ l.k = 2 ∨ l.k = 3) : v.nm = [] ∧ v.ps = [] ∧ v.es = [] := by
 rw [QI] at h
 rcases hk with hk | hk | hk <;> rw [hk] at h <;> simp [JO] at h <;> simp [h]
theorem Yq (h : Qr v l = true) (hk : l.k = 4 ∨ l.k = 10) : v.N = 0 ∧ v.ps = [] ∧ v.es = [] ∧ Qo v.nm = true ∧ (∀ s ∈ v.nm, Y7 l.nm s = true) ∧ (l.k = 10 → Xf l.rs v.nm = true) := by
 rw [QI] at h
 rcases hk with hk | hk
 ·rw [hk] at h; simp [JO, JE] at h
  exact ⟨h.1.1, h.1.2.1, h.1.2.2, h.2.1, h.2.2, fun e => by omega⟩
 rw [hk] at h; simp [JO, JE] at h
 exact ⟨h.1.1.1, h.1.1.2.1, h.1.1.2.2, h.1.2.1, h.1.2.2, fun _ => h.2⟩
theorem J6 (h : Qr v l = true) (hk : l.k = 5) {q : Qs} {r : List Qs} (hp : l.ps = q :: r) : v.N = 0 ∧ v.es = [] ∧ v.nm.length = v.ps.length ∧ Qo v.nm = true ∧ (∀ s ∈ v.nm, Y7 l.nm s = true) ∧ ∀ p ∈ v.ps, Qr p q = true ∧ p ≠ QL q := by
 rw [QI, hk, hp] at h
 simp only [show ((5 : Int) == 1) = false from rfl, show ((5 : Int) == 2) = false from rfl, show ((5 : Int) == 3) = false from rfl, show ((5 : Int) == 4) = false from rfl, show ((5 : Int) == 10) = false from rfl, show ((5 : Int) == 8) = false from rfl, show ((5 : Int) == 9) = false from rfl, show ((5 : Int) == 5) = true from rfl, Bool.or_self, Bool.false_eq_true, if_false, if_true, Bool.and_eq_true, JO, JE, QbH, List.all_eq_true, beq_iff_eq, QdT, false_or, true_or, true_and, Bool.not_eq_true'] at h
 obtain ⟨⟨⟨⟨h1, h2⟩, h3⟩, h4, h5⟩, h6⟩ := h
 refine ⟨h1, h2, by omega, h4, h5, fun p hp => ⟨(h6 p hp).1, fun e => ?_⟩⟩
 have := (h6 p hp).2
 rw [(J8 _ _).2 e] at this
 cases this
theorem JJ (h : Qr v l = true) (hk : l.k = 6 ∨ l.k = 7) : v.N = 0 ∧ v.nm = [] ∧ v.es = [] ∧ v.ps.length = l.ps.length ∧ KR v.ps l.ps = true := by
 obtain ⟨h1, h2⟩ := QtU h hk
 rw [QI] at h
 rcases hk with hk | hk <;> rw [hk] at h <;> simp [JO] at h <;> exact ⟨h.1.1.1, h.1.1.2.1, h.1.1.2.2, h1, h2⟩
theorem Qdw (h : Qr v l = true) (hk : l.k = 8) : (v.N = 0 ∨ v.N = 2) ∧ v = .mk v.N [] [] [] ∨ v.N = 1 ∧ ∃ s, v = .mk 1 [s] [] [] ∧ Y7 l.nm s = true := by
 rw [QI, hk] at h
 simp at h
 by_cases h0 : v.N = 0 ∨ v.N = 2
 ·rw [if_pos h0] at h
  simp [JO] at h
  exact .inl ⟨h0, Qn.ext_ rfl h.1 h.2.1 h.2.2⟩
 rw [if_neg h0] at h
 obtain ⟨h1, h⟩ := h
 simp [JO, JE] at h
 obtain ⟨⟨h2, h3⟩, h4, h5⟩ := h
 obtain ⟨s, hs⟩ := List.length_eq_one_iff.1 (show v.nm.length = 1 by omega)
 exact .inr ⟨h1, s, Qn.ext_ h1 hs h2.1 h2.2, h5 s (by rw [hs]; simp)⟩
theorem W6 (h : Qr v l = true) (hk : l.k = 9) : v.N = 0 ∧ v.nm = [] ∧ v.ps = [] ∧ Y3 v.es := by
 rw [QI, hk] at h
 simp [JO] at h
 exact ⟨h.1.1, h.1.2.1, h.1.2.2, .of h.2⟩
theorem YP (h : Kv l) (hk : l.k = 5) : ∃ q, l.ps = [q] := by
 have h := h.shape
 unfold Xq at h
 rw [if_pos (by rw [hk]; decide)] at h
 have hb : KE l = false := by
  cases hb : KE l
  ·rfl
  rw [hb] at h; simp [Yh] at h
 have h2 : l.ps.length = 1 := by
  simp only [KE, Yb, hk] at hb
  simp at hb
  omega
 obtain ⟨q, hq⟩ := List.length_eq_one_iff.1 h2
 exact ⟨q, hq⟩
end
section
variable {l : Qs} {a b : Qn}
theorem JS (hk : l.k = 1 ∨ l.k = 2) : QU l a b = true ↔ a.N ≤ b.N := by
 rw [Yp]; rcases hk with hk | hk <;> simp [hk]
theorem Wb (hk : l.k = 3) : QU l a b = true ↔ b.N ≤ a.N := by
 rw [Yp]; simp [hk]
theorem Ys (hk : l.k = 4 ∨ l.k = 10) : QU l a b = true ↔ ∀ x ∈ a.nm, x ∈ b.nm := by
 rw [Yp, ← Jf]; rcases hk with hk | hk <;> simp [hk]
theorem YM (hk : l.k = 5) {q : Qs} {r : List Qs} (hp : l.ps = q :: r) (ha : a.nm.length = a.ps.length) (hb : b.nm.length = b.ps.length) (hs : Qo b.nm = true) :
  QU l a b = true ↔ ∀ (i : Nat) (s : Nm) (p : Qn), a.nm[i]? = some s → a.ps[i]? = some p → ∃ (j : Nat) (y : Qn), b.nm[j]? = some s ∧ b.ps[j]? = some y ∧ QU q p y = true := by
 rw [Yp, hk, hp]
 simp only [show ((5 : Int) == 1) = false from rfl, show ((5 : Int) == 2) = false from rfl, show ((5 : Int) == 3) = false from rfl, show ((5 : Int) == 4) = false from rfl, show ((5 : Int) == 10) = false from rfl, show ((5 : Int) == 5) = true from rfl, Bool.or_self, Bool.false_eq_true, if_false, if_true, QkC, List.all_eq_true]
 constructor
 ·intro h i s p hs' hp'
  have h1 := h (s, p) (List.mem_of_getElem? (Qc9 hs' hp'))
  unfold Qkr at h1
  by_cases hm : s ∈ b.nm
  ·obtain ⟨j, hj⟩ := List.mem_iff_getElem?.1 hm
   simp only [Qdr hs hj] at h1
   cases hy : b.ps[j]? with
   | none => rw [hy] at h1; cases h1
   | some y => rw [hy] at h1; exact ⟨j, y, hj, hy, h1⟩
  simp only [Qdp hm] at h1; cases h1
 rintro h ⟨s, p⟩ hm
 obtain ⟨i, hi⟩ := List.mem_iff_getElem?.1 hm
 rw [List.getElem?_zip_eq_some] at hi
 obtain ⟨j, y, hj, hy, hle⟩ := h i s p hi.1 hi.2
 unfold Qkr
 simp only [Qdr hs hj, hy]
 exact hle
theorem Y6 : ∀ {ls : List Qs} {xs ys : List Qn}, xs.length = ls.length → ys.length = ls.length →
  (QdP ls xs ys = true ↔ ∀ (k : Nat) (q : Qs) (x y : Qn), ls[k]? = some q → xs[k]? = some x → ys[k]? = some y → QU q x y = true)
 | [], [], [], _, _ => by simp [QdP]
 | q :: r, x :: a, y :: b, h1, h2 => by
  rw [QdP, Bool.and_eq_true, Y6 (by simpa using h1) (by simpa using h2)]
  constructor
  ·rintro ⟨h3, h4⟩ k q' x' y' e1 e2 e3
   cases k with
   | zero => simp at e1 e2 e3; subst e1 e2 e3; exact h3
   | succ k => exact h4 k q' x' y' (by simpa using e1) (by simpa using e2) (by simpa using e3)
  intro h
  exact ⟨h 0 q x y rfl rfl rfl, fun k q' x' y' e1 e2 e3 => h (k + 1) q' x' y' (by simpa using e1) (by simpa using e2) (by simpa using e3)⟩
 | [], _ :: _, _, h, _ => by simp at h
 | [], [], _ :: _, _, h => by simp at h
 | _ :: _, [], _, h, _ => by simp at h
 | _ :: _, _ :: _, [], _, h => by simp at h
theorem YI (hk : l.k = 6) : QU l a b = QdP l.ps a.ps b.ps := by
 rw [Yp]; simp [hk]
theorem Yc (hk : l.k = 7) {p q : Qs} (hp : l.ps = [p, q]) {x1 x2 y1 y2 : Qn} (ha : a.ps = [x1, x2]) (hb : b.ps = [y1, y2]) : QU l a b = true ↔ (x1 = y1 ∧ QU q x2 y2 = true) ∨ (x1 ≠ y1 ∧ QU p x1 y1 = true) := by
 rw [Yp, hk, hp, ha, hb]
 simp only [show ((7 : Int) == 1) = false from rfl, show ((7 : Int) == 2) = false from rfl, show ((7 : Int) == 3) = false from rfl, show ((7 : Int) == 4) = false from rfl, show ((7 : Int) == 10) = false from rfl, show ((7 : Int) == 5) = false from rfl, show ((7 : Int) == 6) = false from rfl, show ((7 : Int) == 7) = true from rfl, Bool.or_self, Bool.false_eq_true, if_false, if_true, Qt7]
 by_cases e : x1 = y1
 ·rw [if_pos ((J8 _ _).2 e)]; simp [e]
 rw [if_neg (fun h => e ((J8 _ _).1 h))]; simp [e]
theorem Yx (hk : l.k = 8) : QU l a b = true ↔ a.N = 0 ∨ b.N = 2 ∨ a = b := by
 rw [Yp, hk]
 simp [J8, or_assoc]
theorem Qap (hk : l.k = 9) (ha : Y3 a.es) (hb : Y3 b.es) : QU l a b = true ↔ ∀ x ∈ a.es, ∃ y ∈ b.es, leE x y := by
 rw [← Qng ha.valid hb.valid, Yp, hk]
 simp
end
theorem Qrv {x y : En} (h1 : leE x y) (h2 : leE y x) : x = y := by
 rcases h1 with h1 | h1
 ·rcases h2 with h2 | h2
  ·exact absurd (QdM h1 h2) (Qh2 _)
  exact h2.symm
 exact h1
theorem QhD {l : List Nm} (h : l.Nodup) {i j : Nat} {s : Nm} (hi : l[i]? = some s) (hj : l[j]? = some s) : i = j := by
 obtain ⟨h1, h2⟩ := List.getElem?_eq_some_iff.1 hi
 obtain ⟨h3, h4⟩ := List.getElem?_eq_some_iff.1 hj
 rcases Nat.lt_trichotomy i j with e | e | e
 ·exact absurd (h2.trans h4.symm) (List.pairwise_iff_getElem.1 h i j h1 h3 e)
 ·exact e
 ·exact absurd (h4.trans h2.symm) (List.pairwise_iff_getElem.1 h j i h3 h1 e)
theorem QvJ (l : Qs) (hO : Kv l) (ih : ∀ q ∈ l.ps, ∀ x, Qr x q = true → QU q x x = true) (a : Qn) (ha : Qr a l = true) : QU l a a = true := by
 rcases Qbi hO with hk | hk | hk | hk | hk | hk | hk | hk | hk | hk
 ·exact (JS (.inl hk)).2 (Int.le_refl _)
 ·exact (JS (.inr hk)).2 (Int.le_refl _)
 ·exact (Wb hk).2 (Int.le_refl _)
 ·exact (Ys (.inl hk)).2 fun _ h => h
 ·obtain ⟨q, hp⟩ := YP hO hk
  obtain ⟨-, -, h3, h4, -, h6⟩ := J6 ha hk hp
  exact (YM hk hp h3 h3 h4).2 fun i s p hs hpp => ⟨i, p, hs, hpp, ih q (by rw [hp]; simp) p (h6 p (List.mem_of_getElem? hpp)).1⟩
 ·obtain ⟨-, -, -, h4, h5⟩ := JJ ha (.inl hk)
  rw [YI hk, Y6 h4 h4]
  intro k q x y e1 e2 e3
  rw [e2] at e3; cases e3
  exact ih q (List.mem_of_getElem? e1) x (XP h5 e2 e1)
 ·obtain ⟨p, q, hp⟩ := Kt hO.shape hk
  obtain ⟨x, y, e, h1, h2⟩ := Yw ha hk hp
  exact (Yc hk hp e e).2 (.inl ⟨rfl, ih q (by rw [hp]; simp) y h2⟩)
 ·exact (Yx hk).2 (.inr (.inr rfl))
 ·obtain ⟨-, -, -, h⟩ := W6 ha hk
  exact (Qap hk h h).2 fun x hx => ⟨x, hx, QeC x⟩
 exact (Ys (.inr hk)).2 fun _ h => h
theorem Yk (l : Qs) (hO : Kv l) (a : Qn) (ha : Qr a l = true) : QU l a a = true := QvJ l hO (fun q hq x hx => Yk q (hO.part q hq) x hx) a ha
termination_by l
decreasing_by exact Qs.sizeOf_ps ‹_›
theorem QvN (l : Qs) (hO : Kv l) (ih : ∀ q ∈ l.ps, ∀ x y, Qr x q = true → Qr y q = true → QU q x y = true → QU q y x = true → x = y) (a b : Qn) (ha : Qr a l = true) (hb : Qr b l = true) (h1 : QU l a b = true) (h2 : QU l b a = true) : a = b := by
 have num : l.k = 1 ∨ l.k = 2 ∨ l.k = 3 → a.N = b.N → a = b := fun hk e => by
  obtain ⟨p1, p2, p3⟩ := Qno ha hk
  obtain ⟨q1, q2, q3⟩ := Qno hb hk
  exact Qn.ext_ e (by rw [p1, q1]) (by rw [p2, q2]) (by rw [p3, q3])
 have set : l.k = 4 ∨ l.k = 10 → a = b := fun hk => by
  obtain ⟨p1, p2, p3, p4, -⟩ := Yq ha hk
  obtain ⟨q1, q2, q3, q4, -⟩ := Yq hb hk
  exact Qn.ext_ (by rw [p1, q1]) (W8 p4 q4 fun x => ⟨(Ys hk).1 h1 x, (Ys hk).1 h2 x⟩) (by rw [p2, q2]) (by rw [p3, q3])
 rcases Qbi hO with hk | hk | hk | hk | hk | hk | hk | hk | hk | hk
 ·exact num (.inl hk) (Int.le_antisymm ((JS (.inl hk)).1 h1) ((JS (.inl hk)).1 h2))
 ·exact num (.inr (.inl hk)) (Int.le_antisymm ((JS (.inr hk)).1 h1) ((JS (.inr hk)).1 h2))
 ·exact num (.inr (.inr hk)) (Int.le_antisymm ((Wb hk).1 h2) ((Wb hk).1 h1))
 ·exact set (.inl hk)
 ·obtain ⟨q, hp⟩ := YP hO hk
  obtain ⟨p1, p2, p3, p4, -, p6⟩ := J6 ha hk hp
  obtain ⟨q1, q2, q3, q4, -, q6⟩ := J6 hb hk hp
  have l1 := (YM hk hp p3 q3 q4).1 h1
  have l2 := (YM hk hp q3 p3 p4).1 h2
  have sub : ∀ {u v : Qn}, u.nm.length = u.ps.length → (∀ (i : Nat) (s : Nm) (p : Qn), u.nm[i]? = some s → u.ps[i]? = some p → ∃ (j : Nat) (y : Qn), v.nm[j]? = some s ∧ v.ps[j]? = some y ∧ QU q p y = true) → ∀ x ∈ u.nm, x ∈ v.nm := fun {u v} hl h x hx => by
   obtain ⟨i, hi⟩ := List.mem_iff_getElem?.1 hx
   have hlt := (List.getElem?_eq_some_iff.1 hi).1
   obtain ⟨j, y, hj, -, -⟩ := h i x _ hi (List.getElem?_eq_getElem (by omega))
   exact List.mem_of_getElem? hj
  have en : a.nm = b.nm := W8 p4 q4 fun x => ⟨sub p3 l1 x, sub q3 l2 x⟩
  refine Qn.ext_ (by rw [p1, q1]) en (List.ext_getElem (by rw [← p3, ← q3, en]) fun i g1 g2 => ?_) (by rw [p2, q2])
  have e1 : a.ps[i]? = some a.ps[i] := List.getElem?_eq_getElem g1
  have e2 : b.ps[i]? = some b.ps[i] := List.getElem?_eq_getElem g2
  have hs : a.nm[i]? = some (a.nm[i]'(by omega)) := List.getElem?_eq_getElem (by omega)
  have hs2 : b.nm[i]? = some (a.nm[i]'(by omega)) := by rw [← en]; exact hs
  obtain ⟨j, y, hj, hy, hle⟩ := l1 i _ _ hs e1
  obtain ⟨j', y', hj', hy', hle'⟩ := l2 i _ _ hs2 e2
  have := QhD (Kp q4) hj hs2
  subst this
  have := QhD (Kp p4) hj' hs
  subst this
  rw [e2] at hy; cases hy
  rw [e1] at hy'; cases hy'
  exact ih q (by rw [hp]; simp) _ _ (p6 _ (List.getElem_mem g1)).1 (q6 _ (List.getElem_mem g2)).1 hle hle'
 ·obtain ⟨p1, p2, p3, p4, p5⟩ := JJ ha (.inl hk)
  obtain ⟨q1, q2, q3, q4, q5⟩ := JJ hb (.inl hk)
  rw [YI hk, Y6 p4 q4] at h1
  rw [YI hk, Y6 q4 p4] at h2
  refine Qn.ext_ (by rw [p1, q1]) (by rw [p2, q2]) (List.ext_getElem (by rw [p4, q4]) fun i g1 g2 => ?_) (by rw [p3, q3])
  have e1 : a.ps[i]? = some a.ps[i] := List.getElem?_eq_getElem g1
  have e2 : b.ps[i]? = some b.ps[i] := List.getElem?_eq_getElem g2
  have e3 : l.ps[i]? = some (l.ps[i]'(by omega)) := List.getElem?_eq_getElem (by omega)
  exact ih _ (List.mem_of_getElem? e3) _ _ (XP p5 e1 e3) (XP q5 e2 e3) (h1 i _ _ _ e3 e1 e2) (h2 i _ _ _ e3 e2 e1)
 ·obtain ⟨p, q, hp⟩ := Kt hO.shape hk
  obtain ⟨p1, p2, p3, -, -⟩ := JJ ha (.inr hk)
  obtain ⟨q1, q2, q3, -, -⟩ := JJ hb (.inr hk)
  obtain ⟨x1, x2, ea, u1, u2⟩ := Yw ha hk hp
  obtain ⟨y1, y2, eb, v1, v2⟩ := Yw hb hk hp
  have ep : x1 = y1 ∧ x2 = y2 := by
   rcases (Yc hk hp ea eb).1 h1 with ⟨e, g1⟩ | ⟨e, g1⟩
   ·rcases (Yc hk hp eb ea).1 h2 with ⟨e', g2⟩ | ⟨e', g2⟩
    ·exact ⟨e, ih q (by rw [hp]; simp) _ _ u2 v2 g1 g2⟩
    exact absurd e.symm e'
   rcases (Yc hk hp eb ea).1 h2 with ⟨e', g2⟩ | ⟨e', g2⟩
   ·exact absurd e'.symm e
   exact absurd (ih p (by rw [hp]; simp) _ _ u1 v1 g1 g2) e
  refine Qn.ext_ (by rw [p1, q1]) (by rw [p2, q2]) (by rw [ea, eb, ep.1, ep.2]) (by rw [p3, q3])
 ·have h1 := (Yx hk).1 h1
  have h2 := (Yx hk).1 h2
  rcases h1 with h1 | h1 | h1
  ·rcases h2 with h2 | h2 | h2
   ·rcases Qdw ha hk with ⟨-, e⟩ | ⟨e, -⟩
    ·rcases Qdw hb hk with ⟨-, e'⟩ | ⟨e', -⟩
     ·rw [e, e', h1, h2]
     omega
    omega
   ·omega
   exact h2.symm
  ·rcases h2 with h2 | h2 | h2
   ·omega
   ·rcases Qdw ha hk with ⟨-, e⟩ | ⟨e, -⟩
    ·rcases Qdw hb hk with ⟨-, e'⟩ | ⟨e', -⟩
     ·rw [e, e', h1, h2]
     omega
    omega
   exact h2.symm
  exact h1
 ·obtain ⟨p1, p2, p3, ra⟩ := W6 ha hk
  obtain ⟨q1, q2, q3, rb⟩ := W6 hb hk
  have h1 := (Qap hk ra rb).1 h1
  have h2 := (Qap hk rb ra).1 h2
  have one : ∀ {u v : List En}, Y3 u → (∀ x ∈ u, ∃ y ∈ v, leE x y) → (∀ x ∈ v, ∃ y ∈ u, leE x y) → ∀ x ∈ u, x ∈ v := fun {u v} ru k1 k2 x hx => by
   obtain ⟨y, hy, g1⟩ := k1 x hx
   obtain ⟨z, hz, g2⟩ := k2 y hy
   have := ru.le_eq hx hz (Qjc g1 g2)
   subst this
   rw [Qrv g1 g2]; exact hy
  exact Qn.ext_ (by rw [p1, q1]) (by rw [p2, q2]) (by rw [p3, q3]) (ra.ext_ rb fun x => ⟨one ra h1 h2 x, one rb h2 h1 x⟩)
 exact set (.inr hk)
theorem Ko (l : Qs) (hO : Kv l) (a b : Qn) (ha : Qr a l = true) (hb : Qr b l = true) (h1 : QU l a b = true) (h2 : QU l b a = true) : a = b := QvN l hO (fun q hq x y hx hy => Ko q (hO.part q hq) x y hx hy) a b ha hb h1 h2
termination_by l
decreasing_by exact Qs.sizeOf_ps ‹_›
theorem Qtg (l : Qs) (hO : Kv l) (ih : ∀ q ∈ l.ps, ∀ x y z, Qr x q = true → Qr y q = true → Qr z q = true → QU q x y = true → QU q y z = true → QU q x z = true) (a b c : Qn) (ha : Qr a l = true) (hb : Qr b l = true) (hc : Qr c l = true) (h1 : QU l a b = true) (h2 : QU l b c = true) : QU l a c = true := by
 have set : l.k = 4 ∨ l.k = 10 → QU l a c = true := fun hk => (Ys hk).2 fun x hx => (Ys hk).1 h2 x ((Ys hk).1 h1 x hx)
 rcases Qbi hO with hk | hk | hk | hk | hk | hk | hk | hk | hk | hk
 ·exact (JS (.inl hk)).2 (Int.le_trans ((JS (.inl hk)).1 h1) ((JS (.inl hk)).1 h2))
 ·exact (JS (.inr hk)).2 (Int.le_trans ((JS (.inr hk)).1 h1) ((JS (.inr hk)).1 h2))
 ·exact (Wb hk).2 (Int.le_trans ((Wb hk).1 h2) ((Wb hk).1 h1))
 ·exact set (.inl hk)
 ·obtain ⟨q, hp⟩ := YP hO hk
  obtain ⟨-, -, p3, p4, -, p6⟩ := J6 ha hk hp
  obtain ⟨-, -, q3, q4, -, q6⟩ := J6 hb hk hp
  obtain ⟨-, -, r3, r4, -, r6⟩ := J6 hc hk hp
  have l1 := (YM hk hp p3 q3 q4).1 h1
  have l2 := (YM hk hp q3 r3 r4).1 h2
  refine (YM hk hp p3 r3 r4).2 fun i s p hs hpp => ?_
  obtain ⟨j, y, hj, hy, g1⟩ := l1 i s p hs hpp
  obtain ⟨k, z, hk', hz, g2⟩ := l2 j s y hj hy
  exact ⟨k, z, hk', hz, ih q (by rw [hp]; simp) p y z (p6 p (List.mem_of_getElem? hpp)).1 (q6 y (List.mem_of_getElem? hy)).1 (r6 z (List.mem_of_getElem? hz)).1 g1 g2⟩
 ·obtain ⟨-, -, -, p4, p5⟩ := JJ ha (.inl hk)
  obtain ⟨-, -, -, q4, q5⟩ := JJ hb (.inl hk)
  obtain ⟨-, -, -, r4, r5⟩ := JJ hc (.inl hk)
  rw [YI hk, Y6 p4 q4] at h1
  rw [YI hk, Y6 q4 r4] at h2
  rw [YI hk, Y6 p4 r4]
  intro k q x z e1 e2 e3
  have hlt := (List.getElem?_eq_some_iff.1 e1).1
  have ey : b.ps[k]? = some (b.ps[k]'(by omega)) := List.getElem?_eq_getElem (by omega)
  exact ih q (List.mem_of_getElem? e1) x _ z (XP p5 e2 e1) (XP q5 ey e1) (XP r5 e3 e1) (h1 k q x _ e1 e2 ey) (h2 k q _ z e1 ey e3)
 ·obtain ⟨p, q, hp⟩ := Kt hO.shape hk
  obtain ⟨x1, x2, ea, u1, u2⟩ := Yw ha hk hp
  obtain ⟨y1, y2, eb, v1, v2⟩ := Yw hb hk hp
  obtain ⟨z1, z2, ec, w1, w2⟩ := Yw hc hk hp
  have mp : p ∈ l.ps := by rw [hp]; simp
  have mq : q ∈ l.ps := by rw [hp]; simp
  refine (Yc hk hp ea ec).2 ?_
  rcases (Yc hk hp ea eb).1 h1 with ⟨e, g1⟩ | ⟨e, g1⟩ <;> rcases (Yc hk hp eb ec).1 h2 with ⟨e', g2⟩ | ⟨e', g2⟩
  ·exact .inl ⟨e.trans e', ih q mq _ _ _ u2 v2 w2 g1 g2⟩
  ·subst e; exact .inr ⟨e', g2⟩
  ·subst e'; exact .inr ⟨e, g1⟩
  refine .inr ⟨fun e2 => ?_, ih p mp _ _ _ u1 v1 w1 g1 g2⟩
  subst e2
  exact e (Ko p (hO.part p mp) _ _ u1 v1 g1 g2)
 ·have h1 := (Yx hk).1 h1
  have h2 := (Yx hk).1 h2
  refine (Yx hk).2 ?_
  rcases h1 with h1 | h1 | h1
  ·exact .inl h1
  ·rcases h2 with h2 | h2 | h2
   ·omega
   ·exact .inr (.inl h2)
   subst h2; exact .inr (.inl h1)
  subst h1; exact h2
 ·obtain ⟨-, -, -, ra⟩ := W6 ha hk
  obtain ⟨-, -, -, rb⟩ := W6 hb hk
  obtain ⟨-, -, -, rc⟩ := W6 hc hk
  have h1 := (Qap hk ra rb).1 h1
  have h2 := (Qap hk rb rc).1 h2
  refine (Qap hk ra rc).2 fun x hx => ?_
  obtain ⟨y, hy, g1⟩ := h1 x hx
  obtain ⟨z, hz, g2⟩ := h2 y hy
  exact ⟨z, hz, Qjc g1 g2⟩
 exact set (.inr hk)
theorem Qaz (l : Qs) (hO : Kv l) (a b c : Qn) (ha : Qr a l = true) (hb : Qr b l = true) (hc : Qr c l = true) (h1 : QU l a b = true) (h2 : QU l b c = true) : QU l a c = true := Qtg l hO (fun q hq x y z hx hy hz => Qaz q (hO.part q hq) x y z hx hy hz) a b c ha hb hc h1 h2
termination_by l
decreasing_by exact Qs.sizeOf_ps ‹_›
theorem Qdy {l : Qs} {a b : Qn} (hc : Q0 l = 0) (ha : Qr a l = true) (hb : Qr b l = true) : Qlf l a b = QU l a b := by
 unfold Qlf KL Qdq
 simp [hc, Qbt, ha, hb]
theorem Qu2 {x y : Nm} (h : Op.bytesLess x y = false) (k : Op.bytesLess y x = false) : x = y := by
 have h1 := Ky x y
 have h2 := Ky y x
 rw [h] at h1
 rw [k] at h2
 have h3 := Kl.anti x y
 have h4 := Kl.anti y x
 refine Kl.eq x y ?_
 simp only [Bool.false_eq_true, if_false] at h1 h2
 split at h1 <;> split at h2 <;> omega
abbrev pw (l : List Nm) : Prop := l.Pairwise (fun a b => Op.bytesLess a b = true)
theorem Qhi {b : Bool} {x z : Nm} {l : List Nm} : z ∈ QaS b x l ↔ (b = true ∧ z = x) ∨ z ∈ l := by
 unfold QaS; cases b <;> simp
theorem Qk4 {b : Bool} {x : Nm} {l : List Nm} (h : pw l) (hx : ∀ z ∈ l, Op.bytesLess x z = true) : pw (QaS b x l) := by
 unfold QaS; cases b
 ·exact h
 exact List.Pairwise.cons hx h
theorem Qda {a b : Nm} (h : Op.bytesLess a b = true) : a ≠ b := fun e => by subst e; rw [Qcx] at h; cases h
theorem K1 (lf bo ri : Bool) : ∀ (n : Nat) (a b : List Nm), a.length + b.length ≤ n → pw a → pw b →
  pw (Wv lf bo ri a b) ∧ (∀ z, z ∈ Wv lf bo ri a b ↔ (z ∈ a ∧ z ∉ b ∧ lf = true) ∨ (z ∈ a ∧ z ∈ b ∧ bo = true) ∨ (z ∉ a ∧ z ∈ b ∧ ri = true)) ∧ (Wv lf bo ri a b).length ≤ a.length + b.length
 | _, [], [], _, _, _ => ⟨List.Pairwise.nil, fun z => by simp [Wv, QcK], by simp [Wv, QcK]⟩
 | 0, _ :: _, _, h, _, _ => by simp at h
 | 0, [], _ :: _, h, _, _ => by simp at h
 | n + 1, x :: r, [], hl, ha, hb => by
  rw [Qvu]
  have ha' := List.pairwise_cons.1 ha
  obtain ⟨i1, i2, i3⟩ := K1 lf bo ri n r [] (by simp at hl ⊢; omega) ha'.2 hb
  have sub : ∀ z ∈ Wv lf bo ri r [], z ∈ r := fun z hz => by
   rcases (i2 z).1 hz with h | h | h
   ·exact h.1
   ·exact h.1
   simp at h
  refine ⟨Qk4 i1 fun z hz => ha'.1 z (sub z hz), fun z => ?_, ?_⟩
  ·rw [Qhi, i2]
   simp only [List.mem_cons, List.not_mem_nil, not_false_eq_true, true_and, false_and, and_false, or_false]
   constructor
   ·rintro (⟨h1, h2⟩ | ⟨h1, h2⟩)
    ·exact ⟨.inl h2, h1⟩
    exact ⟨.inr h1, h2⟩
   rintro ⟨h1 | h1, h2⟩
   ·exact .inl ⟨h2, h1⟩
   exact .inr ⟨h1, h2⟩
  unfold QaS; split <;> simp at i3 ⊢ <;> omega
 | n + 1, [], y :: s, hl, ha, hb => by
  rw [QvG]
  have hb' := List.pairwise_cons.1 hb
  obtain ⟨i1, i2, i3⟩ := K1 lf bo ri n [] s (by simp at hl ⊢; omega) ha hb'.2
  have sub : ∀ z ∈ Wv lf bo ri [] s, z ∈ s := fun z hz => by
   rcases (i2 z).1 hz with h | h | h
   ·simp at h
   ·simp at h
   exact h.2.1
  refine ⟨Qk4 i1 fun z hz => hb'.1 z (sub z hz), fun z => ?_, ?_⟩
  ·rw [Qhi, i2]
   simp only [List.mem_cons, List.not_mem_nil, not_false_eq_true, true_and, false_and, false_or]
   constructor
   ·rintro (⟨h1, h2⟩ | ⟨h1, h2⟩)
    ·exact ⟨.inl h2, h1⟩
    exact ⟨.inr h1, h2⟩
   rintro ⟨h1 | h1, h2⟩
   ·exact .inl ⟨h2, h1⟩
   exact .inr ⟨h1, h2⟩
  unfold QaS; split <;> simp at i3 ⊢ <;> omega
 | n + 1, x :: r, y :: s, hl, ha, hb => by
  have ha' := List.pairwise_cons.1 ha
  have hb' := List.pairwise_cons.1 hb
  simp only [List.length_cons] at hl
  by_cases c1 : Op.bytesLess x y = true
  ·rw [QrJ c1]
   obtain ⟨i1, i2, i3⟩ := K1 lf bo ri n r (y :: s) (by simp; omega) ha'.2 hb
   have xs : ∀ z ∈ y :: s, Op.bytesLess x z = true := fun z hz => by
    rcases List.mem_cons.1 hz with rfl | hz
    ·exact c1
    exact Qa5 c1 (hb'.1 z hz)
   refine ⟨Qk4 i1 fun z hz => ?_, fun z => ?_, ?_⟩
   ·rcases (i2 z).1 hz with h | h | h
    ·exact ha'.1 z h.1
    ·exact ha'.1 z h.1
    exact xs z h.2.1
   ·rw [Qhi, i2]
    by_cases e : z = x
    ·subst e
     have n1 : z ∉ r := fun h => Qda (ha'.1 z h) rfl
     have n2 : z ∉ y :: s := fun h => Qda (xs z h) rfl
     simp [n1]
     simp only [List.mem_cons, not_or] at n2
     simp [n2]
    simp [e]
   unfold QaS; split <;> simp at i3 ⊢ <;> omega
  rw [Bool.not_eq_true] at c1
  by_cases c2 : Op.bytesLess y x = true
  ·rw [QqZ c1 c2]
   obtain ⟨i1, i2, i3⟩ := K1 lf bo ri n (x :: r) s (by simp; omega) ha hb'.2
   have ys : ∀ z ∈ x :: r, Op.bytesLess y z = true := fun z hz => by
    rcases List.mem_cons.1 hz with rfl | hz
    ·exact c2
    exact Qa5 c2 (ha'.1 z hz)
   refine ⟨Qk4 i1 fun z hz => ?_, fun z => ?_, ?_⟩
   ·rcases (i2 z).1 hz with h | h | h
    ·exact ys z h.1
    ·exact ys z h.1
    exact hb'.1 z h.2.1
   ·rw [Qhi, i2]
    by_cases e : z = y
    ·subst e
     have n1 : z ∉ s := fun h => Qda (hb'.1 z h) rfl
     have n2 : z ∉ x :: r := fun h => Qda (ys z h) rfl
     simp only [List.mem_cons, not_or] at n2
     simp [n1, n2]
    simp [e]
   unfold QaS; split <;> simp at i3 ⊢ <;> omega
  rw [Bool.not_eq_true] at c2
  have e0 := Qu2 c1 c2
  subst e0
  rw [Qsx c1 c2]
  obtain ⟨i1, i2, i3⟩ := K1 lf bo ri n r s (by omega) ha'.2 hb'.2
  refine ⟨Qk4 i1 fun z hz => ?_, fun z => ?_, ?_⟩
  ·rcases (i2 z).1 hz with h | h | h
   ·exact ha'.1 z h.1
   ·exact ha'.1 z h.1
   exact hb'.1 z h.2.1
  ·rw [Qhi, i2]
   by_cases e : z = x
   ·subst e
    have n1 : z ∉ r := fun h => Qda (ha'.1 z h) rfl
    have n2 : z ∉ s := fun h => Qda (hb'.1 z h) rfl
    simp [n1, n2]
   simp [e]
  unfold QaS; split <;> simp at i3 ⊢ <;> omega
abbrev uni (a b : List Nm) : List Nm := Wv true true true a b
theorem Qag {a b : List Nm} (ha : Qo a = true) (hb : Qo b = true) {z : Nm} : z ∈ uni a b ↔ z ∈ a ∨ z ∈ b := by
 rw [(K1 true true true _ a b (Nat.le_refl _) (Jm ha) (Jm hb)).2.1 z]
 by_cases h1 : z ∈ a <;> by_cases h2 : z ∈ b <;> simp [h1, h2]
theorem QaV {a b : List Nm} (ha : Qo a = true) (hb : Qo b = true) : Qo (uni a b) = true := Kk (K1 true true true _ a b (Nat.le_refl _) (Jm ha) (Jm hb)).1
theorem QjG {a b : List Nm} (ha : Qo a = true) (hb : Qo b = true) : (uni a b).length ≤ a.length + b.length := (K1 true true true _ a b (Nat.le_refl _) (Jm ha) (Jm hb)).2.2
abbrev itr (a b : List Nm) : List Nm := Wv false true false a b
theorem QgA {a b : List Nm} (ha : Qo a = true) (hb : Qo b = true) {z : Nm} : z ∈ itr a b ↔ z ∈ a ∧ z ∈ b := by
 rw [(K1 false true false _ a b (Nat.le_refl _) (Jm ha) (Jm hb)).2.1 z]
 simp
theorem Qef {a b : List Nm} (ha : Qo a = true) (hb : Qo b = true) : Qo (itr a b) = true := Kk (K1 false true false _ a b (Nat.le_refl _) (Jm ha) (Jm hb)).1
inductive SmV (n : Nat) : Qn → Prop
 | mk (v : Qn) (h1 : v.nm.length ≤ n) (h2 : v.ps.length ≤ n) (h3 : v.es.length ≤ n) (h4 : ∀ e ∈ v.es, e.1.length ≤ 64) (h5 : ∀ p ∈ v.ps, SmV n p) : SmV n v
section
variable {n : Nat} {v : Qn}
theorem SmV.nm (h : SmV n v) : v.nm.length ≤ n := by cases h; assumption
theorem SmV.ps (h : SmV n v) : v.ps.length ≤ n := by cases h; assumption
theorem SmV.es (h : SmV n v) : v.es.length ≤ n := by cases h; assumption
theorem SmV.en (h : SmV n v) : ∀ e ∈ v.es, e.1.length ≤ 64 := by cases h; assumption
theorem SmV.part (h : SmV n v) : ∀ p ∈ v.ps, SmV n p := by cases h; assumption
theorem SmV.up {m : Nat} (hm : n ≤ m) (h : SmV n v) : SmV m v := by
 induction h with
 | mk v h1 h2 h3 h4 _ ih => exact .mk v (by omega) (by omega) (by omega) h4 ih
end
def WL (rs : List Ru) (s : List Nm) : List Nm := match rs.find? (fun r => JR r.i s && !Jn s r.t) with | some r => s ++ [r.t] | none => s
def Yt (rs : List Ru) : Nat → List Nm → List Nm
 | 0, s => s
 | n + 1, s => Yt rs n (WL rs s)
def WR (u : List Nm) (rs : List Ru) (s : List Nm) : List Nm := u.filter (Jn (Yt rs rs.length s))
mutual
def QK : Qs → Qn → Qn → Qn
 | .mk k lo hi nm ps rs, a, b =>
  if k == 4 then .mk 0 (uni a.nm b.nm) [] []
  else if k == 10 then .mk 0 (WR nm rs (uni a.nm b.nm)) [] []
  else if k == 9 then .mk 0 [] [] (Yo a.es b.es)
  else if k == 5 then .mk 0 (uni a.nm b.nm) (Qn1 ps (uni a.nm b.nm) a b) []
  else if k == 6 then .mk 0 [] (Wo ps a.ps b.ps) []
  else match (if k == 7 then Qar ps a.ps b.ps else none) with
   | some v => v
   | none => if QU (.mk k lo hi nm ps rs) a b then b else if QU (.mk k lo hi nm ps rs) b a then a else .mk 2 [] [] []
def Qn1 : List Qs → List Nm → Qn → Qn → List Qn
 | [], _, _, _ => []
 | q :: _, u, a, b => u.map fun s => match JZ a s, JZ b s with
  | none, some y => y
  | some x, none => x
  | some x, some y => QK q x y
  | none, none => Qn.zero
def Wo : List Qs → List Qn → List Qn → List Qn
 | q :: r, x :: a, y :: b => QK q x y :: Wo r a b
 | _, _, _ => []
def Qar : List Qs → List Qn → List Qn → Option Qn
 | [_, q], [x1, x2], [y1, y2] => if eqV x1 y1 then some (.mk 0 [] [x1, QK q x2 y2] []) else none
 | _, _, _ => none
end
def Yy (q : Qs) (a b : Qn) (s : Nm) : Qn := match JZ a s, JZ b s with
 | none, some y => y
 | some x, none => x
 | some x, some y => QK q x y
 | none, none => Qn.zero
theorem Qdx (q : Qs) (r : List Qs) (u : List Nm) (a b : Qn) : Qn1 (q :: r) u a b = u.map (Yy q a b) := by rw [Qn1]; rfl
theorem Jh (l : Qs) (a b : Qn) : QK l a b =
  if l.k == 4 then .mk 0 (uni a.nm b.nm) [] []
  else if l.k == 10 then .mk 0 (WR l.nm l.rs (uni a.nm b.nm)) [] []
  else if l.k == 9 then .mk 0 [] [] (Yo a.es b.es)
  else if l.k == 5 then .mk 0 (uni a.nm b.nm) (Qn1 l.ps (uni a.nm b.nm) a b) []
  else if l.k == 6 then .mk 0 [] (Wo l.ps a.ps b.ps) []
  else match (if l.k == 7 then Qar l.ps a.ps b.ps else none) with
   | some v => v
   | none => if QU l a b then b else if QU l b a then a else .mk 2 [] [] [] := by
 cases l with
 | mk k lo hi nm ps rs => rw [QK]; rfl
section
variable {a b : Qn} {q : Qs} {s : Nm} {x y : Qn}
theorem QwM (h1 : JZ a s = none) (h2 : JZ b s = some y) : Yy q a b s = y := by unfold Yy; rw [h1, h2]
theorem QwG (h1 : JZ a s = some x) (h2 : JZ b s = none) : Yy q a b s = x := by unfold Yy; rw [h1, h2]
theorem Qwr (h1 : JZ a s = some x) (h2 : JZ b s = some y) : Yy q a b s = QK q x y := by unfold Yy; rw [h1, h2]
end
theorem QjR {u : List Nm} {f : Nm → Qn} {k : Nat} {s : Nm} {y : Qn} (h : u[k]? = some s) (hf : f s = y) : (((u.take k).map f).map Xx) ++ Qg 4 1 (Xm y) = (((u.take (k + 1)).map f).map Xx) := by
 have : Qg 4 1 (Xm y) = [Xx y] := by rw [X3]; rfl
 rw [this, List.take_add_one, h, ← hf]; simp
theorem Qfr : ∀ {ls : List Qs} {xs ys : List Qn}, xs.length = ls.length → ys.length = ls.length → (Wo ls xs ys).length = ls.length
 | [], [], [], _, _ => by simp [Wo]
 | q :: r, x :: a, y :: b, h1, h2 => by rw [Wo]; simp [Qfr (ls := r) (by simpa using h1) (by simpa using h2)]
 | [], _ :: _, _, h, _ => by simp at h
 | [], [], _ :: _, _, h => by simp at h
 | _ :: _, [], _, h, _ => by simp at h
 | _ :: _, _ :: _, [], _, h => by simp at h
theorem Qfy : ∀ {ls : List Qs} {xs ys : List Qn} {k : Nat} {q : Qs} {x y : Qn}, ls[k]? = some q → xs[k]? = some x → ys[k]? = some y → (Wo ls xs ys)[k]? = some (QK q x y)
 | q :: r, x :: a, y :: b, 0, q', x', y', h1, h2, h3 => by simp at h1 h2 h3; subst h1 h2 h3; rw [Wo]; rfl
 | q :: r, x :: a, y :: b, k + 1, q', x', y', h1, h2, h3 => by rw [Wo]; exact Qfy (ls := r) (by simpa using h1) (by simpa using h2) (by simpa using h3)
 | [], _, _, _, _, _, _, h, _, _ => by simp at h
 | _ :: _, [], _, _, _, _, _, _, h, _ => by simp at h
 | _ :: _, _ :: _, [], _, _, _, _, _, _, h => by simp at h
theorem QoO {l : List Qn} {k : Nat} {y : Qn} (h : l[k]? = some y) : ((l.take k).map Xx) ++ Qg 4 1 (Xm y) = ((l.take (k + 1)).map Xx) := by
 have : Qg 4 1 (Xm y) = [Xx y] := by rw [X3]; rfl
 rw [this, List.take_add_one, h]; simp
end Go.Proofs.YtaecccdkjmipeaaGreat
