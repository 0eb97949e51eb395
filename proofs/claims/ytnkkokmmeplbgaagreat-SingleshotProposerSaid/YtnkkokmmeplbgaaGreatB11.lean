/-
  Plain laws: values are compared by a total order; clocks, en
-/
import Derived.Test.YtnkkokmmeplbgaaGreatB10
import Derived.Test.YtnkkokmmeplbgaaGreatB4
namespace Go.Proofs.YtnkkokmmeplbgaaGreat
open Go.RowKit
theorem Qks {α β : Type} (c : α → α → Int) (f : β → α) : ∀ a b : List β, Xt c (a.map f) (b.map f) = Xt (fun x y => c (f x) (f y)) a b
 | [], [] => rfl
 | [], _ :: _ => rfl
 | _ :: _, [] => rfl
 | x :: a, y :: b => by simp only [List.map, Xt]; rw [Qks c f a b]
abbrev VS (n : Nat) := {v : Qw // SizeOf.sizeOf v < n}
def VS.down {n : Nat} (v : VS (n + 1)) : List (VS n) := v.1.ps.attach.map fun p => ⟨p.1, by have := Qw.sizeOf_ps p.2; have := v.2; omega⟩
theorem VS.down_map {n : Nat} (v : VS (n + 1)) : v.down.map Subtype.val = v.1.ps := by
 unfold VS.down; rw [List.map_map]; exact List.attach_map_subtype_val _
theorem Qep : ∀ n, K6 (fun x y : VS n => Jz x.1 y.1)
 | 0 => ⟨fun x => absurd x.2 (Nat.not_lt_zero _), fun x => absurd x.2 (Nat.not_lt_zero _), fun x => absurd x.2 (Nat.not_lt_zero _)⟩
 | n + 1 => by
  have ih := Qep n
  have h3 := Qd2 (α := List (VS n) × List En) Prod.fst Prod.snd (Qet ih) (Qet Jg) (fun x y h1 h2 => Prod.ext h1 h2)
  have h2 := Qd2 (α := List Nm × (List (VS n) × List En)) Prod.fst Prod.snd (Qet JU) h3 (fun x y h1 h2 => Prod.ext h1 h2)
  have h1 := Qd2 (α := VS (n + 1)) (fun v => v.1.N) (fun v => (v.1.nm, (v.down, v.1.es))) YZ h2 (fun x y e1 e2 => by
   have e3 := congrArg Prod.fst e2
   have e4 := congrArg (fun p => p.2.1) e2
   have e5 := congrArg (fun p => p.2.2) e2
   simp only at e3 e4 e5
   have e6 : x.1.ps = y.1.ps := by rw [← VS.down_map, ← VS.down_map, e4]
   apply Subtype.ext
   rw [← Qw.eta x.1, ← Qw.eta y.1, e1, e3, e6, e5])
  refine Eq.mpr (congrArg K6 ?_) h1
  funext x y
  rw [Ko, ← VS.down_map x, ← VS.down_map y, Qks, Qft]
  simp only [Qlt]
  by_cases c1 : Lib.compareInt x.1.N y.1.N = 0
  ·by_cases c2 : Xt Lib.compareBytes x.1.nm y.1.nm = 0
   ·by_cases c3 : Xt (fun x y : VS n => Jz x.1 y.1) x.down y.down = 0
    ·simp only [c1, c2, c3, ne_eq, not_true, if_true, if_false]
    simp only [c1, c2, c3, ne_eq, not_true, not_false_eq_true, if_true, if_false]
   simp only [c1, c2, ne_eq, not_true, not_false_eq_true, if_true, if_false]
  simp only [c1, ne_eq, not_false_eq_true, if_true, if_false]
theorem Qh4 : K6 Jz where
 anti x y := (Qep (SizeOf.sizeOf x + SizeOf.sizeOf y + 1)).anti ⟨x, by omega⟩ ⟨y, by omega⟩
 trans x y z := (Qep (SizeOf.sizeOf x + SizeOf.sizeOf y + SizeOf.sizeOf z + 1)).trans ⟨x, by omega⟩ ⟨y, by omega⟩ ⟨z, by omega⟩
 eq x y h := congrArg Subtype.val ((Qep (SizeOf.sizeOf x + SizeOf.sizeOf y + 1)).eq ⟨x, by omega⟩ ⟨y, by omega⟩ h)
theorem Yk (x y : Qw) : eqV x y = true ↔ x = y := by
 unfold eqV; rw [beq_iff_eq]
 exact ⟨Qh4.eq x y, fun h => h ▸ Qh4.refl x⟩
theorem YE {last : Int} {t : Tk} : Qcv last t = true ↔ last < t.1 ∧ t.1 ≤ 63 ∧ 1 ≤ t.2 ∧ t.2 ≤ 1000000000000000 := by
 simp only [Qcv, Bool.not_eq_true', Bool.or_eq_false_iff, decide_eq_false_iff_not]; omega
theorem Kl {last : Int} {x : Tk} {r : List Tk} : QP last (x :: r) = true ↔ Qcv last x = true ∧ QP x.1 r = true := by
 rw [QP, Bool.and_eq_true]
theorem XR (x : Tk) (r : List Tk) (p : Int) : Qc9 (x :: r) p = if x.1 = p then x.2 else Qc9 r p := by
 unfold Qc9
 rw [List.find?_cons]
 by_cases h : x.1 = p
 ·rw [if_pos h, show (x.1 == p) = true from beq_iff_eq.2 h]
 rw [if_neg h, show (x.1 == p) = false from beq_eq_false_iff_ne.2 h]
theorem WE : ∀ (l : List Tk) (last p : Int), QP last l = true → p ≤ last → Qc9 l p = 0
 | [], _, _, _, _ => rfl
 | x :: r, last, p, h, hp => by
  obtain ⟨h1, h2⟩ := Kl.1 h
  have := YE.1 h1
  rw [XR, if_neg (by omega)]
  exact WE r x.1 p h2 (by omega)
theorem Qc0 : ∀ (l : List Tk) (last p : Int), QP last l = true → 0 ≤ Qc9 l p
 | [], _, _, _ => Int.le_refl _
 | x :: r, last, p, h => by
  obtain ⟨h1, h2⟩ := Kl.1 h
  have := YE.1 h1
  rw [XR]
  split
  ·omega
  exact Qc0 r x.1 p h2
def cle (a b : List Tk) : Prop := ∀ p, Qc9 a p ≤ Qc9 b p
theorem Qg1 (a : List Tk) : cle a a := fun _ => Int.le_refl _
theorem Qh1 {a b c : List Tk} (h : cle a b) (k : cle b c) : cle a c := fun p => Int.le_trans (h p) (k p)
theorem Qi2 {p k : Int} {l : List Tk} (h : k > 0) : Qb7 p k l ≠ [] := by unfold Qb7; rw [if_pos h]; simp
theorem Qja {p k : Int} {l : List Tk} (h : ¬ k > 0) : Qb7 p k l = l := by unfold Qb7; rw [if_neg h]
theorem QmS {l : List Tk} {a b : Int} (h : QP a l = true) (hb : ∀ x r, l = x :: r → b < x.1) : QP b l = true := by
 cases l with
 | nil => rfl
 | cons x r =>
  obtain ⟨h1, h2⟩ := Kl.1 h
  have := YE.1 h1
  have := hb x r rfl
  exact Kl.2 ⟨YE.2 ⟨by omega, by omega, by omega, by omega⟩, h2⟩
theorem Qel : ∀ (n : Nat) (a b : List Tk) (l1 l2 : Int), a.length + b.length ≤ n → QP l1 a = true → QP l2 b = true → (KC Kr a b = [] ↔ cle a b)
 | _, [], [], _, _, _, _, _ => ⟨fun _ => Qg1 _, fun _ => rfl⟩
 | 0, _ :: _, _, _, _, h, _, _ => by simp at h
 | 0, [], _ :: _, _, _, h, _, _ => by simp at h
 | n + 1, x :: r, [], l1, l2, _, ha, _ => by
  obtain ⟨h1, h2⟩ := Kl.1 ha
  have := YE.1 h1
  rw [QsV]
  refine ⟨fun h => absurd h (Qi2 ?_), fun h => ?_⟩
  ·unfold Kr; split <;> omega
  have h3 := h x.1
  rw [XR, if_pos rfl] at h3
  have : Qc9 [] x.1 = 0 := rfl
  omega
 | n + 1, [], y :: s, l1, l2, hl, ha, hb => by
  obtain ⟨h1, h2⟩ := Kl.1 hb
  have := YE.1 h1
  rw [Qsn, Qja (by unfold Kr; split <;> omega), Qel n [] s l1 y.1 (by simp at hl ⊢; omega) ha h2]
  exact ⟨fun _ p => Qc0 _ _ p hb, fun _ p => Qc0 _ _ p h2⟩
 | n + 1, x :: r, y :: s, l1, l2, hl, ha, hb => by
  obtain ⟨h1, h2⟩ := Kl.1 ha
  obtain ⟨k1, k2⟩ := Kl.1 hb
  have o1 := YE.1 h1
  have o2 := YE.1 k1
  simp only [List.length_cons] at hl
  by_cases e1 : x.1 < y.1
  ·rw [Qoi e1]
   refine ⟨fun h => absurd h (Qi2 (by unfold Kr; split <;> omega)), fun h => ?_⟩
   have h3 := h x.1
   have hb' : QP x.1 (y :: s) = true := QmS hb (fun z q e => by cases e; exact e1)
   rw [XR, if_pos rfl, WE _ _ _ hb' (Int.le_refl _)] at h3
   omega
  by_cases e2 : y.1 < x.1
  ·rw [Qph e1 e2, Qja (by unfold Kr; split <;> omega), Qel n (x :: r) s l1 y.1 (by simp; omega) ha k2]
   have ha' : QP y.1 (x :: r) = true := QmS ha (fun z q e => by cases e; exact e2)
   constructor
   ·intro h p
    rw [XR y]
    by_cases hp : y.1 = p
    ·rw [if_pos hp, ← hp, WE _ _ _ ha' (Int.le_refl _)]; omega
    rw [if_neg hp]; exact h p
   intro h p
   have := h p
   rw [XR y] at this
   by_cases hp : y.1 = p
   ·rw [← hp, WE _ _ _ ha' (Int.le_refl _)]; exact Qc0 _ _ _ k2
   rw [if_neg hp] at this; exact this
  have e : x.1 = y.1 := by omega
  rw [Qpz e1 e2]
  by_cases hg : x.2 > y.2
  ·refine ⟨fun h => absurd h (Qi2 (by unfold Kr; rw [if_pos hg]; omega)), fun h => ?_⟩
   have := h x.1
   rw [XR, if_pos rfl, XR, if_pos e.symm] at this
   omega
  rw [Qja (by unfold Kr; rw [if_neg hg]; omega), Qel n r s x.1 y.1 (by omega) h2 k2]
  constructor
  ·intro h p
   rw [XR, XR, ← e]
   by_cases hp : x.1 = p
   ·rw [if_pos hp, if_pos hp]; omega
   rw [if_neg hp, if_neg hp]; exact h p
  intro h p
  have := h p
  rw [XR, XR, ← e] at this
  by_cases hp : x.1 = p
  ·rw [← hp, WE _ _ _ h2 (Int.le_refl _)]; exact Qc0 _ _ _ k2
  rw [if_neg hp, if_neg hp] at this; exact this
theorem Qmp : ∀ (a b : List Tk) (l1 l2 : Int), QP l1 a = true → QP l2 b = true → cle a b → cle b a → a = b
 | [], [], _, _, _, _, _, _ => rfl
 | x :: r, [], _, _, ha, _, h, _ => by
  have := YE.1 (Kl.1 ha).1
  have := h x.1
  rw [XR, if_pos rfl] at this
  have : Qc9 [] x.1 = 0 := rfl
  omega
 | [], y :: s, _, _, _, hb, _, h => by
  have := YE.1 (Kl.1 hb).1
  have := h y.1
  rw [XR, if_pos rfl] at this
  have : Qc9 [] y.1 = 0 := rfl
  omega
 | x :: r, y :: s, l1, l2, ha, hb, h, k => by
  obtain ⟨h1, h2⟩ := Kl.1 ha
  obtain ⟨k1, k2⟩ := Kl.1 hb
  have o1 := YE.1 h1
  have o2 := YE.1 k1
  have e : x.1 = y.1 := by
   rcases Int.lt_trichotomy x.1 y.1 with e | e | e
   ·have h3 := h x.1
    rw [XR, if_pos rfl, WE _ _ _ (QmS hb (fun z q e' => by cases e'; exact e)) (Int.le_refl _)] at h3
    omega
   ·exact e
   have h3 := k y.1
   rw [XR, if_pos rfl, WE _ _ _ (QmS ha (fun z q e' => by cases e'; exact e)) (Int.le_refl _)] at h3
   omega
  have e2 : x.2 = y.2 := by
   have h3 := h x.1
   have h4 := k x.1
   rw [XR, if_pos rfl, XR, if_pos e.symm] at h3
   rw [XR, if_pos e.symm, XR, if_pos rfl] at h4
   omega
  have e3 : x = y := Prod.ext e e2
  subst e3
  have tl : ∀ (u v : List Tk), QP x.1 u = true → QP x.1 v = true → cle (x :: u) (x :: v) → cle u v := fun u v hu hv h p => by
   have := h p
   rw [XR, XR] at this
   by_cases hp : x.1 = p
   ·rw [← hp, WE _ _ _ hu (Int.le_refl _)]; exact Qc0 _ _ _ hv
   rw [if_neg hp, if_neg hp] at this; exact this
  rw [Qmp r s x.1 x.1 h2 k2 (tl _ _ h2 k2 h) (tl _ _ k2 h2 k)]
open Classical in
theorem QiH {a b : List Tk} (ha : QP (-1) a = true) (hb : QP (-1) b = true) : Qev a b = if cle a b then (if cle b a then 0 else 1) else if cle b a then 2 else 3 := by
 have e : ∀ a b : List Tk, QP (-1) a = true → QP (-1) b = true → ((QeI a b).length == 0) = decide (cle a b) := fun a b ha hb => by
  unfold QeI QhJ
  rw [ha, hb, Bool.and_self, if_pos rfl]
  have := Qel _ a b (-1) (-1) (Nat.le_refl _) ha hb
  by_cases h : cle a b
  ·rw [this.2 h]; simp [h]
  have h2 : KC Kr a b ≠ [] := fun e => h (this.1 e)
  have h3 : (KC Kr a b).length ≠ 0 := fun e => h2 (List.eq_nil_of_length_eq_zero e)
  simp [h, h3]
 unfold Qev
 rw [ha, hb, e a b ha hb, e b a hb ha]
 simp
def ltE (x y : En) : Prop := cle x.1 y.1 ∧ ¬ cle y.1 x.1
def leE (x y : En) : Prop := ltE x y ∨ x = y
theorem QdI (x : En) : ¬ ltE x x := fun h => h.2 h.1
theorem QcJ {x y z : En} (h1 : ltE x y) (h2 : ltE y z) : ltE x z := ⟨Qh1 h1.1 h2.1, fun h => h2.2 (Qh1 h h1.1)⟩
theorem Qd0 (x : En) : leE x x := .inr rfl
theorem QhH {x y z : En} (h1 : leE x y) (h2 : leE y z) : leE x z := by
 rcases h1 with h1 | rfl
 ·rcases h2 with h2 | rfl
  ·exact .inl (QcJ h1 h2)
  exact .inl h1
 exact h2
theorem Qq2 {x y z : En} (h1 : ltE x y) (h2 : leE y z) : ltE x z := by
 rcases h2 with h2 | rfl
 ·exact QcJ h1 h2
 exact h1
theorem Qp9 {x y z : En} (h1 : leE x y) (h2 : ltE y z) : ltE x z := by
 rcases h1 with h1 | rfl
 ·exact QcJ h1 h2
 exact h2
theorem Qav {x y : En} (hx : QP (-1) x.1 = true) (hy : QP (-1) y.1 = true) : QbL x y = true ↔ leE x y := by
 unfold QbL
 rw [QiH hx hy]
 by_cases h1 : cle x.1 y.1 <;> by_cases h2 : cle y.1 x.1
 ·have e := Qmp _ _ _ _ hx hy h1 h2
  simp only [h1, h2, if_true]
  constructor
  ·intro h; exact .inr (Prod.ext e (by simpa using h))
  rintro (h | rfl)
  ·exact absurd h2 h.2
  simp
 ·simp only [h1, h2, if_true, if_false]
  exact ⟨fun _ => .inl ⟨h1, h2⟩, fun _ => by simp⟩
 ·simp only [h1, h2, if_true, if_false]
  exact ⟨fun h => by simp at h, fun h => by
   rcases h with h | rfl
   ·exact absurd h.1 h1
   exact absurd (Qg1 _) h1⟩
 simp only [h1, h2, if_false]
 exact ⟨fun h => by simp at h, fun h => by
  rcases h with h | rfl
  ·exact absurd h.1 h1
  exact absurd (Qg1 _) h1⟩
theorem Qho {x y : En} (hx : QP (-1) x.1 = true) (hy : QP (-1) y.1 = true) : Qmv x y = true ↔ ltE x y := by
 unfold Qmv ltE
 rw [QiH hx hy]
 by_cases h1 : cle x.1 y.1 <;> by_cases h2 : cle y.1 x.1 <;> simp [h1, h2]
theorem QgN {x y : En} (hx : QP (-1) x.1 = true) (hy : QP (-1) y.1 = true) : QdS x y = true ↔ ¬ ltE x y ∧ ¬ ltE y x := by
 unfold QdS ltE
 rw [QiH hx hy]
 by_cases h1 : cle x.1 y.1 <;> by_cases h2 : cle y.1 x.1 <;> simp [h1, h2]
structure JP (es : List En) : Prop where
 valid : ∀ x ∈ es, QP (-1) x.1 = true
 ne : ∀ x ∈ es, x.1 ≠ []
 name : ∀ x ∈ es, XM x.2 = true
 sorted : es.Pairwise (fun x y => Jb x y < 0)
 anti : ∀ x ∈ es, ∀ y ∈ es, ¬ ltE x y
theorem Qru {x y z : En} (h1 : Jb x y < 0) (h2 : Jb y z < 0) : Jb x z < 0 := by
 have := (Jg.swo (fun x : En => x)).trans x y z (decide_eq_true h1) (decide_eq_true h2)
 exact of_decide_eq_true this
theorem Wh : ∀ (es : List En), (∀ j e d, es[j + 1]? = some e → es[j]? = some d → Jb d e < 0) → es.Pairwise (fun x y => Jb x y < 0)
 | [], _ => List.Pairwise.nil
 | [_], _ => List.pairwise_singleton _ _
 | a :: b :: r, h => by
  have ih := Wh (b :: r) (fun j e d he hd => h (j + 1) e d (by simpa using he) (by simpa using hd))
  have hab := h 0 b a rfl rfl
  refine List.Pairwise.cons (fun y hy => ?_) ih
  rcases List.mem_cons.1 hy with rfl | hy
  ·exact hab
  exact Qru hab ((List.pairwise_cons.1 ih).1 y hy)
theorem Qie {l : List En} : Qiv l = true ↔ ∀ k x, l[k]? = some x → QdZ l x k = true := by
 unfold Qiv
 rw [List.all_eq_true]
 constructor
 ·intro h k x hx
  exact h (x, k) (List.mem_of_getElem? (XF hx))
 rintro h ⟨x, k⟩ hm
 obtain ⟨i, hi⟩ := List.mem_iff_getElem?.1 hm
 have h2 := (List.getElem?_eq_some_iff.1 hi).1
 rw [Qaz] at h2
 have h3 := XF (List.getElem?_eq_getElem h2)
 rw [hi] at h3
 cases h3
 exact h k _ (List.getElem?_eq_getElem h2)
theorem Qgy {l : List En} {k : Nat} {x : En} (hx : l[k]? = some x) : QdZ l x k = true ↔ x.1 ≠ [] ∧ QP (-1) x.1 = true ∧ XM x.2 = true ∧ (∀ y, 0 < k → l[k - 1]? = some y → Jb y x < 0) ∧ ∀ y ∈ l.take k, QdS x y = true := by
 have hkl := (List.getElem?_eq_some_iff.1 hx).1
 unfold QdZ
 simp only [Bool.and_eq_true, Bool.not_eq_true', List.all_eq_true, and_assoc]
 refine and_congr ?_ (and_congr Iff.rfl (and_congr Iff.rfl (and_congr ?_ Iff.rfl)))
 ·cases x.1 <;> simp; omega
 by_cases hk : 0 < k
 ·have h1 : l[k - 1]? = some l[k - 1] := List.getElem?_eq_getElem (by omega)
  have h0 : ((k : Int) > 0) := by omega
  rw [h1]
  simp [hk]
 have h0 : ¬ ((k : Int) > 0) := by omega
 simp only [h0, decide_false, Bool.false_and]
 exact ⟨fun _ y h => absurd h hk, fun _ => trivial⟩
theorem JP.of {es : List En} (h : Qiv es = true) : JP es := by
 have h' := fun k x hx => (Qgy hx).1 (Qie.1 h k x hx)
 have hj : ∀ x ∈ es, ∃ j : Nat, es[j]? = some x := fun x hx => List.mem_iff_getElem?.1 hx
 have hv : ∀ x ∈ es, QP (-1) x.1 = true := fun x hx => by obtain ⟨j, hj⟩ := hj x hx; exact (h' j x hj).2.1
 refine ⟨hv, fun x hx => ?_, fun x hx => ?_, ?_, fun x hx y hy hlt => ?_⟩
 ·obtain ⟨j, hj⟩ := hj x hx; exact (h' j x hj).1
 ·obtain ⟨j, hj⟩ := hj x hx; exact (h' j x hj).2.2.1
 ·exact Wh es (fun j e d he hd => (h' (j + 1) e he).2.2.2.1 d (by omega) hd)
 obtain ⟨j, hj⟩ := hj x hx
 obtain ⟨k, hk⟩ := List.mem_iff_getElem?.1 hy
 rcases Nat.lt_trichotomy j k with e | e | e
 ·have hm : x ∈ es.take k := by rw [List.mem_take_iff_getElem]; obtain ⟨g1, g2⟩ := List.getElem?_eq_some_iff.1 hj; exact ⟨j, by omega, g2⟩
  exact ((QgN (hv y hy) (hv x hx)).1 ((h' k y hk).2.2.2.2 x hm)).2 hlt
 ·subst e
  rw [hj] at hk; cases hk
  exact QdI _ hlt
 have hm : y ∈ es.take j := by rw [List.mem_take_iff_getElem]; obtain ⟨g1, g2⟩ := List.getElem?_eq_some_iff.1 hk; exact ⟨k, by omega, g2⟩
 exact ((QgN (hv x hx) (hv y hy)).1 ((h' j x hj).2.2.2.2 y hm)).1 hlt
theorem JP.regB_ {es : List En} (h : JP es) : Qiv es = true := by
 refine Qie.2 fun k x hx => (Qgy hx).2 ?_
 have hm := List.mem_of_getElem? hx
 refine ⟨h.ne x hm, h.valid x hm, h.name x hm, fun y hk hy => ?_, fun y hy => ?_⟩
 ·obtain ⟨h1, rfl⟩ := List.getElem?_eq_some_iff.1 hx
  obtain ⟨h2, rfl⟩ := List.getElem?_eq_some_iff.1 hy
  exact List.pairwise_iff_getElem.1 h.sorted (k - 1) k h2 h1 (by omega)
 have hy := List.mem_of_mem_take hy
 exact (QgN (h.valid x hm) (h.valid y hy)).2 ⟨h.anti x hm y hy, h.anti y hy x hm⟩
theorem JP.nodup {es : List En} (h : JP es) : es.Nodup := h.sorted.imp (fun {a b} h e => by subst e; rw [Jg.refl] at h; exact absurd h (by decide))
theorem Qdd {a b : List En} (hp : a.Perm b) (ha : a.Pairwise (fun x y => Jb x y ≤ 0)) (hb : b.Pairwise (fun x y => Jb x y ≤ 0)) : a = b :=
 hp.eq_of_pairwise (fun x y _ _ h1 h2 => Jg.eq x y (by have := Jg.anti y x; omega)) ha hb
theorem JP.ext_ {a b : List En} (ha : JP a) (hb : JP b) (h : ∀ x, x ∈ a ↔ x ∈ b) : a = b :=
 Qdd ((List.perm_ext_iff_of_nodup ha.nodup hb.nodup).2 h) (ha.sorted.imp (fun h => by omega)) (hb.sorted.imp (fun h => by omega))
theorem JP.le_eq {es : List En} (h : JP es) {x y : En} (hx : x ∈ es) (hy : y ∈ es) (hl : leE x y) : x = y := by
 rcases hl with hl | hl
 ·exact absurd hl (h.anti x hx y hy)
 exact hl
theorem QaV {x : En} {es : List En} (hx : QP (-1) x.1 = true) (hv : ∀ y ∈ es, QP (-1) y.1 = true) : JK es x = true ↔ ∃ y ∈ es, leE x y := by
 unfold JK
 rw [List.any_eq_true]
 exact ⟨fun ⟨y, hy, h⟩ => ⟨y, hy, (Qav hx (hv y hy)).1 h⟩, fun ⟨y, hy, h⟩ => ⟨y, hy, (Qav hx (hv y hy)).2 h⟩⟩
theorem QkZ {a b : List En} (ha : ∀ x ∈ a, QP (-1) x.1 = true) (hb : ∀ x ∈ b, QP (-1) x.1 = true) : a.all (JK b) = true ↔ ∀ x ∈ a, ∃ y ∈ b, leE x y := by
 rw [List.all_eq_true]
 exact ⟨fun h x hx => (QaV (ha x hx) hb).1 (h x hx), fun h x hx => (QaV (ha x hx) hb).2 (h x hx)⟩
theorem Yb {l : List Nm} {s : Nm} : X2 l s = true ↔ s ∈ l := by
 unfold X2; rw [List.any_eq_true]
 exact ⟨fun ⟨x, hx, h⟩ => by rw [beq_iff_eq] at h; exact h ▸ hx, fun h => ⟨s, h, by simp⟩⟩
theorem YL {a b : List Nm} : JT a b = true ↔ ∀ x ∈ a, x ∈ b := by
 unfold JT; rw [List.all_eq_true]
 exact ⟨fun h x hx => Yb.1 (h x hx), fun h x hx => Yb.2 (h x hx)⟩
theorem QqL {a b : Nm} (h : Op.bytesLess a b = true) (k : Op.bytesLess b a = true) : False := by
 have := Qap h k; rw [QbV] at this; cases this
theorem Qp0 : ∀ {a b : List Nm}, a.Pairwise (fun a b => Op.bytesLess a b = true) → b.Pairwise (fun a b => Op.bytesLess a b = true) → (∀ x, x ∈ a ↔ x ∈ b) → a = b := fun {a b} ha hb h => by
 have na : a.Nodup := ha.imp (fun {x y} h e => by subst e; rw [QbV] at h; cases h)
 have nb : b.Nodup := hb.imp (fun {x y} h e => by subst e; rw [QbV] at h; cases h)
 exact ((List.perm_ext_iff_of_nodup na nb).2 h).eq_of_pairwise (fun x y _ _ h1 h2 => absurd h2 fun h2 => QqL h1 h2) ha hb
theorem QdG {a b : List Nm} (ha : Qq a = true) (hb : Qq b = true) (h : ∀ x, x ∈ a ↔ x ∈ b) : a = b := Qp0 (XP ha) (XP hb) h
theorem Wj : ∀ {l : List Nm}, l.Pairwise (fun a b => Op.bytesLess a b = true) → Qq l = true
 | [], _ => rfl
 | [_], _ => rfl
 | a :: b :: l, h => by
  show (Op.bytesLess a b && Qq (b :: l)) = true
  rw [List.pairwise_cons] at h
  rw [h.1 b (by simp), Wj h.2]; rfl
theorem Qbb {l : List Nm} (h : Qq l = true) : l.Nodup := (XP h).imp (fun {x y} h e => by subst e; rw [QbV] at h; cases h)
theorem QeD {s : Nm} : ∀ (l : List Nm) (i k : Nat), l.Nodup → l[k]? = some s → Xs s l i = ((i + k : Nat) : Int)
 | [], _, _, _, h => by simp at h
 | x :: l, i, 0, _, h => by
  simp at h; subst h
  unfold Xs; simp
 | x :: l, i, k + 1, hn, h => by
  rw [List.nodup_cons] at hn
  have h : l[k]? = some s := by simpa using h
  have hne : (s == x) = false := by
   rw [beq_eq_false_iff_ne]
   intro e; subst e
   exact hn.1 (List.mem_of_getElem? h)
  unfold Xs
  rw [hne]
  simp only [Bool.false_eq_true, if_false]
  rw [QeD l (i + 1) k hn.2 h]
  congr 1; omega
theorem Qam {v : Qw} {s : Nm} {k : Nat} (hs : Qq v.nm = true) (h : v.nm[k]? = some s) : Xy v s = v.ps[k]? := by
 unfold Xy
 rw [QeD v.nm 0 k (Qbb hs) h, if_neg (by omega)]
 simp
theorem Qfo {s : Nm} : ∀ (l : List Nm) (i : Nat), s ∉ l → Xs s l i = -1
 | [], _, _ => rfl
 | x :: l, i, h => by
  simp only [List.mem_cons, not_or] at h
  unfold Xs
  rw [show (s == x) = false from beq_eq_false_iff_ne.2 h.1]
  simp only [Bool.false_eq_true, if_false]
  exact Qfo l (i + 1) h.2
theorem KZ {v : Qw} {s : Nm} (h : s ∉ v.nm) : Xy v s = none := by
 unfold Xy; rw [Qfo _ _ h]; rfl
theorem kinds {l : QD} (h : YK l) : l.k = 1 ∨ l.k = 2 ∨ l.k = 3 ∨ l.k = 4 ∨ l.k = 5 ∨ l.k = 6 ∨ l.k = 7 ∨ l.k = 8 ∨ l.k = 9 ∨ l.k = 10 := by
 have h := h.shape
 unfold Xo at h
 by_cases hk : Yz l.k = true
 ·simp [Yz, X8, Ji] at hk; omega
 rw [if_neg hk] at h; cases h
theorem Qw.ext_ {v w : Qw} (h1 : v.N = w.N) (h2 : v.nm = w.nm) (h3 : v.ps = w.ps) (h4 : v.es = w.es) : v = w := by
 rw [← v.eta, ← w.eta, h1, h2, h3, h4]
theorem JG {v : Qw} {n li pa en : Bool} : Q5 v n li pa en = true ↔ (n = true ∨ v.N = 0) ∧ (li = true ∨ v.nm = []) ∧ (pa = true ∨ v.ps = []) ∧ (en = true ∨ v.es = []) := by
 unfold Q5
 simp [and_assoc]
section
variable {l : QD} {v : Qw}
theorem QiF (h : Qt v l = true) (hk : l.k = 1 ∨ l.k = 2 ∨ l.k = 3) : v.nm = [] ∧ v.ps = [] ∧ v.es = [] := by
 rw [Qr] at h
 rcases hk with hk | hk | hk <;> rw [hk] at h <;> simp [JG] at h <;> simp [h]
theorem Y2 (h : Qt v l = true) (hk : l.k = 4 ∨ l.k = 10) : v.N = 0 ∧ v.ps = [] ∧ v.es = [] ∧ Qq v.nm = true ∧ (∀ s ∈ v.nm, Yq l.nm s = true) ∧ (l.k = 10 → Wk l.rs v.nm = true) := by
 rw [Qr] at h
 rcases hk with hk | hk
 ·rw [hk] at h; simp [JG, Jc] at h
  exact ⟨h.1.1, h.1.2.1, h.1.2.2, h.2.1, h.2.2, fun e => by omega⟩
 rw [hk] at h; simp [JG, Jc] at h
 exact ⟨h.1.1.1, h.1.1.2.1, h.1.1.2.2, h.1.2.1, h.1.2.2, fun _ => h.2⟩
theorem YO (h : Qt v l = true) (hk : l.k = 5) {q : QD} {r : List QD} (hp : l.ps = q :: r) : v.N = 0 ∧ v.es = [] ∧ v.nm.length = v.ps.length ∧ Qq v.nm = true ∧ (∀ s ∈ v.nm, Yq l.nm s = true) ∧ ∀ p ∈ v.ps, Qt p q = true ∧ p ≠ QU q := by
 rw [Qr, hk, hp] at h
 simp only [show ((5 : Int) == 1) = false from rfl, show ((5 : Int) == 2) = false from rfl, show ((5 : Int) == 3) = false from rfl, show ((5 : Int) == 4) = false from rfl, show ((5 : Int) == 10) = false from rfl, show ((5 : Int) == 8) = false from rfl, show ((5 : Int) == 9) = false from rfl, show ((5 : Int) == 5) = true from rfl, Bool.or_self, Bool.false_eq_true, if_false, if_true, Bool.and_eq_true, JG, Jc, Qah, List.all_eq_true, beq_iff_eq, W5, false_or, true_or, true_and, Bool.not_eq_true'] at h
 obtain ⟨⟨⟨⟨h1, h2⟩, h3⟩, h4, h5⟩, h6⟩ := h
 refine ⟨h1, h2, by omega, h4, h5, fun p hp => ⟨(h6 p hp).1, fun e => ?_⟩⟩
 have := (h6 p hp).2
 rw [(Yk _ _).2 e] at this
 cases this
theorem J5 (h : Qt v l = true) (hk : l.k = 6 ∨ l.k = 7) : v.N = 0 ∧ v.nm = [] ∧ v.es = [] ∧ v.ps.length = l.ps.length ∧ YU v.ps l.ps = true := by
 obtain ⟨h1, h2⟩ := Qm6 h hk
 rw [Qr] at h
 rcases hk with hk | hk <;> rw [hk] at h <;> simp [JG] at h <;> exact ⟨h.1.1.1, h.1.1.2.1, h.1.1.2.2, h1, h2⟩
theorem QcU (h : Qt v l = true) (hk : l.k = 8) : (v.N = 0 ∨ v.N = 2) ∧ v = .mk v.N [] [] [] ∨ v.N = 1 ∧ ∃ s, v = .mk 1 [s] [] [] ∧ Yq l.nm s = true := by
 rw [Qr, hk] at h
 simp at h
 by_cases h0 : v.N = 0 ∨ v.N = 2
 ·rw [if_pos h0] at h
  simp [JG] at h
  exact .inl ⟨h0, Qw.ext_ rfl h.1 h.2.1 h.2.2⟩
 rw [if_neg h0] at h
 obtain ⟨h1, h⟩ := h
 simp [JG, Jc] at h
 obtain ⟨⟨h2, h3⟩, h4, h5⟩ := h
 obtain ⟨s, hs⟩ := List.length_eq_one_iff.1 (show v.nm.length = 1 by omega)
 exact .inr ⟨h1, s, Qw.ext_ h1 hs h2.1 h2.2, h5 s (by rw [hs]; simp)⟩
theorem Kc (h : Qt v l = true) (hk : l.k = 9) : v.N = 0 ∧ v.nm = [] ∧ v.ps = [] ∧ JP v.es := by
 rw [Qr, hk] at h
 simp [JG] at h
 exact ⟨h.1.1, h.1.2.1, h.1.2.2, .of h.2⟩
theorem WU (h : YK l) (hk : l.k = 5) : ∃ q, l.ps = [q] := by
 have h := h.shape
 unfold Xo at h
 rw [if_pos (by rw [hk]; decide)] at h
 have hb : Kj l = false := by
  cases hb : Kj l
  ·rfl
  rw [hb] at h; simp [J1] at h
 have h2 : l.ps.length = 1 := by
  simp only [Kj, JL, hk] at hb
  simp at hb
  omega
 obtain ⟨q, hq⟩ := List.length_eq_one_iff.1 h2
 exact ⟨q, hq⟩
end
section
variable {l : QD} {a b : Qw}
theorem J3 (hk : l.k = 1 ∨ l.k = 2) : Xl l a b = true ↔ a.N ≤ b.N := by
 rw [XI]; rcases hk with hk | hk <;> simp [hk]
theorem Wz (hk : l.k = 3) : Xl l a b = true ↔ b.N ≤ a.N := by
 rw [XI]; simp [hk]
theorem YM (hk : l.k = 4 ∨ l.k = 10) : Xl l a b = true ↔ ∀ x ∈ a.nm, x ∈ b.nm := by
 rw [XI, ← YL]; rcases hk with hk | hk <;> simp [hk]
theorem W4 (hk : l.k = 5) {q : QD} {r : List QD} (hp : l.ps = q :: r) (ha : a.nm.length = a.ps.length) (hb : b.nm.length = b.ps.length) (hs : Qq b.nm = true) :
  Xl l a b = true ↔ ∀ (i : Nat) (s : Nm) (p : Qw), a.nm[i]? = some s → a.ps[i]? = some p → ∃ (j : Nat) (y : Qw), b.nm[j]? = some s ∧ b.ps[j]? = some y ∧ Xl q p y = true := by
 rw [XI, hk, hp]
 simp only [show ((5 : Int) == 1) = false from rfl, show ((5 : Int) == 2) = false from rfl, show ((5 : Int) == 3) = false from rfl, show ((5 : Int) == 4) = false from rfl, show ((5 : Int) == 10) = false from rfl, show ((5 : Int) == 5) = true from rfl, Bool.or_self, Bool.false_eq_true, if_false, if_true, Qgr, List.all_eq_true]
 constructor
 ·intro h i s p hs' hp'
  have h1 := h (s, p) (List.mem_of_getElem? (WO hs' hp'))
  unfold QdJ at h1
  by_cases hm : s ∈ b.nm
  ·obtain ⟨j, hj⟩ := List.mem_iff_getElem?.1 hm
   simp only [Qam hs hj] at h1
   cases hy : b.ps[j]? with
   | none => rw [hy] at h1; cases h1
   | some y => rw [hy] at h1; exact ⟨j, y, hj, hy, h1⟩
  simp only [KZ hm] at h1; cases h1
 rintro h ⟨s, p⟩ hm
 obtain ⟨i, hi⟩ := List.mem_iff_getElem?.1 hm
 rw [List.getElem?_zip_eq_some] at hi
 obtain ⟨j, y, hj, hy, hle⟩ := h i s p hi.1 hi.2
 unfold QdJ
 simp only [Qam hs hj, hy]
 exact hle
theorem Kh : ∀ {ls : List QD} {xs ys : List Qw}, xs.length = ls.length → ys.length = ls.length →
  (QbZ ls xs ys = true ↔ ∀ (k : Nat) (q : QD) (x y : Qw), ls[k]? = some q → xs[k]? = some x → ys[k]? = some y → Xl q x y = true)
 | [], [], [], _, _ => by simp [QbZ]
 | q :: r, x :: a, y :: b, h1, h2 => by
  rw [QbZ, Bool.and_eq_true, Kh (by simpa using h1) (by simpa using h2)]
  constructor
  ·rintro ⟨h3, h4⟩ k q' x' y' e1 e2 e3
   cases k with
   | zero => simp at e1 e2 e3; subst e1 e2 e3; exact h3
   | succ k => exact h4 k q' x' y' (by simpa using e1) (by simpa using e2) (by simpa using e3)
  intro h
  exact ⟨h 0 q x y rfl rfl rfl, fun k q' x' y' e1 e2 e3 => h (k + 1) q' x' y' (by simpa using e1) (by simpa using e2) (by simpa using e3)⟩
 | [], _ :: _, _, h, _ => by simp at h
 | [], [], _ :: _, _, h => by simp at h
 | _ :: _, [], _, h, _ => by simp at h
 | _ :: _, _ :: _, [], _, h => by simp at h
theorem KG (hk : l.k = 6) : Xl l a b = QbZ l.ps a.ps b.ps := by
 rw [XI]; simp [hk]
theorem YI (hk : l.k = 7) {p q : QD} (hp : l.ps = [p, q]) {x1 x2 y1 y2 : Qw} (ha : a.ps = [x1, x2]) (hb : b.ps = [y1, y2]) : Xl l a b = true ↔ (x1 = y1 ∧ Xl q x2 y2 = true) ∨ (x1 ≠ y1 ∧ Xl p x1 y1 = true) := by
 rw [XI, hk, hp, ha, hb]
 simp only [show ((7 : Int) == 1) = false from rfl, show ((7 : Int) == 2) = false from rfl, show ((7 : Int) == 3) = false from rfl, show ((7 : Int) == 4) = false from rfl, show ((7 : Int) == 10) = false from rfl, show ((7 : Int) == 5) = false from rfl, show ((7 : Int) == 6) = false from rfl, show ((7 : Int) == 7) = true from rfl, Bool.or_self, Bool.false_eq_true, if_false, if_true, Qpa]
 by_cases e : x1 = y1
 ·rw [if_pos ((Yk _ _).2 e)]; simp [e]
 rw [if_neg (fun h => e ((Yk _ _).1 h))]; simp [e]
theorem Km (hk : l.k = 8) : Xl l a b = true ↔ a.N = 0 ∨ b.N = 2 ∨ a = b := by
 rw [XI, hk]
 simp [Yk, or_assoc]
theorem W3 (hk : l.k = 9) (ha : JP a.es) (hb : JP b.es) : Xl l a b = true ↔ ∀ x ∈ a.es, ∃ y ∈ b.es, leE x y := by
 rw [← QkZ ha.valid hb.valid, XI, hk]
 simp
end
theorem Qor {x y : En} (h1 : leE x y) (h2 : leE y x) : x = y := by
 rcases h1 with h1 | h1
 ·rcases h2 with h2 | h2
  ·exact absurd (QcJ h1 h2) (QdI _)
  exact h2.symm
 exact h1
theorem QgF {l : List Nm} (h : l.Nodup) {i j : Nat} {s : Nm} (hi : l[i]? = some s) (hj : l[j]? = some s) : i = j := by
 obtain ⟨h1, h2⟩ := List.getElem?_eq_some_iff.1 hi
 obtain ⟨h3, h4⟩ := List.getElem?_eq_some_iff.1 hj
 rcases Nat.lt_trichotomy i j with e | e | e
 ·exact absurd (h2.trans h4.symm) (List.pairwise_iff_getElem.1 h i j h1 h3 e)
 ·exact e
 ·exact absurd (h4.trans h2.symm) (List.pairwise_iff_getElem.1 h j i h3 h1 e)
theorem QsD (l : QD) (hO : YK l) (ih : ∀ q ∈ l.ps, ∀ x, Qt x q = true → Xl q x x = true) (a : Qw) (ha : Qt a l = true) : Xl l a a = true := by
 rcases kinds hO with hk | hk | hk | hk | hk | hk | hk | hk | hk | hk
 ·exact (J3 (.inl hk)).2 (Int.le_refl _)
 ·exact (J3 (.inr hk)).2 (Int.le_refl _)
 ·exact (Wz hk).2 (Int.le_refl _)
 ·exact (YM (.inl hk)).2 fun _ h => h
 ·obtain ⟨q, hp⟩ := WU hO hk
  obtain ⟨-, -, h3, h4, -, h6⟩ := YO ha hk hp
  exact (W4 hk hp h3 h3 h4).2 fun i s p hs hpp => ⟨i, p, hs, hpp, ih q (by rw [hp]; simp) p (h6 p (List.mem_of_getElem? hpp)).1⟩
 ·obtain ⟨-, -, -, h4, h5⟩ := J5 ha (.inl hk)
  rw [KG hk, Kh h4 h4]
  intro k q x y e1 e2 e3
  rw [e2] at e3; cases e3
  exact ih q (List.mem_of_getElem? e1) x (Ja h5 e2 e1)
 ·obtain ⟨p, q, hp⟩ := Kd hO.shape hk
  obtain ⟨x, y, e, h1, h2⟩ := Ye ha hk hp
  exact (YI hk hp e e).2 (.inl ⟨rfl, ih q (by rw [hp]; simp) y h2⟩)
 ·exact (Km hk).2 (.inr (.inr rfl))
 ·obtain ⟨-, -, -, h⟩ := Kc ha hk
  exact (W3 hk h h).2 fun x hx => ⟨x, hx, Qd0 x⟩
 exact (YM (.inr hk)).2 fun _ h => h
theorem Wc (l : QD) (hO : YK l) (a : Qw) (ha : Qt a l = true) : Xl l a a = true := QsD l hO (fun q hq x hx => Wc q (hO.part q hq) x hx) a ha
termination_by l
decreasing_by exact QD.sizeOf_ps ‹_›
theorem QsE (l : QD) (hO : YK l) (ih : ∀ q ∈ l.ps, ∀ x y, Qt x q = true → Qt y q = true → Xl q x y = true → Xl q y x = true → x = y) (a b : Qw) (ha : Qt a l = true) (hb : Qt b l = true) (h1 : Xl l a b = true) (h2 : Xl l b a = true) : a = b := by
 have num : l.k = 1 ∨ l.k = 2 ∨ l.k = 3 → a.N = b.N → a = b := fun hk e => by
  obtain ⟨p1, p2, p3⟩ := QiF ha hk
  obtain ⟨q1, q2, q3⟩ := QiF hb hk
  exact Qw.ext_ e (by rw [p1, q1]) (by rw [p2, q2]) (by rw [p3, q3])
 have set : l.k = 4 ∨ l.k = 10 → a = b := fun hk => by
  obtain ⟨p1, p2, p3, p4, -⟩ := Y2 ha hk
  obtain ⟨q1, q2, q3, q4, -⟩ := Y2 hb hk
  exact Qw.ext_ (by rw [p1, q1]) (QdG p4 q4 fun x => ⟨(YM hk).1 h1 x, (YM hk).1 h2 x⟩) (by rw [p2, q2]) (by rw [p3, q3])
 rcases kinds hO with hk | hk | hk | hk | hk | hk | hk | hk | hk | hk
 ·exact num (.inl hk) (Int.le_antisymm ((J3 (.inl hk)).1 h1) ((J3 (.inl hk)).1 h2))
 ·exact num (.inr (.inl hk)) (Int.le_antisymm ((J3 (.inr hk)).1 h1) ((J3 (.inr hk)).1 h2))
 ·exact num (.inr (.inr hk)) (Int.le_antisymm ((Wz hk).1 h2) ((Wz hk).1 h1))
 ·exact set (.inl hk)
 ·obtain ⟨q, hp⟩ := WU hO hk
  obtain ⟨p1, p2, p3, p4, -, p6⟩ := YO ha hk hp
  obtain ⟨q1, q2, q3, q4, -, q6⟩ := YO hb hk hp
  have l1 := (W4 hk hp p3 q3 q4).1 h1
  have l2 := (W4 hk hp q3 p3 p4).1 h2
  have sub : ∀ {u v : Qw}, u.nm.length = u.ps.length → (∀ (i : Nat) (s : Nm) (p : Qw), u.nm[i]? = some s → u.ps[i]? = some p → ∃ (j : Nat) (y : Qw), v.nm[j]? = some s ∧ v.ps[j]? = some y ∧ Xl q p y = true) → ∀ x ∈ u.nm, x ∈ v.nm := fun {u v} hl h x hx => by
   obtain ⟨i, hi⟩ := List.mem_iff_getElem?.1 hx
   have hlt := (List.getElem?_eq_some_iff.1 hi).1
   obtain ⟨j, y, hj, -, -⟩ := h i x _ hi (List.getElem?_eq_getElem (by omega))
   exact List.mem_of_getElem? hj
  have en : a.nm = b.nm := QdG p4 q4 fun x => ⟨sub p3 l1 x, sub q3 l2 x⟩
  refine Qw.ext_ (by rw [p1, q1]) en (List.ext_getElem (by rw [← p3, ← q3, en]) fun i g1 g2 => ?_) (by rw [p2, q2])
  have e1 : a.ps[i]? = some a.ps[i] := List.getElem?_eq_getElem g1
  have e2 : b.ps[i]? = some b.ps[i] := List.getElem?_eq_getElem g2
  have hs : a.nm[i]? = some (a.nm[i]'(by omega)) := List.getElem?_eq_getElem (by omega)
  have hs2 : b.nm[i]? = some (a.nm[i]'(by omega)) := by rw [← en]; exact hs
  obtain ⟨j, y, hj, hy, hle⟩ := l1 i _ _ hs e1
  obtain ⟨j', y', hj', hy', hle'⟩ := l2 i _ _ hs2 e2
  have := QgF (Qbb q4) hj hs2
  subst this
  have := QgF (Qbb p4) hj' hs
  subst this
  rw [e2] at hy; cases hy
  rw [e1] at hy'; cases hy'
  exact ih q (by rw [hp]; simp) _ _ (p6 _ (List.getElem_mem g1)).1 (q6 _ (List.getElem_mem g2)).1 hle hle'
 ·obtain ⟨p1, p2, p3, p4, p5⟩ := J5 ha (.inl hk)
  obtain ⟨q1, q2, q3, q4, q5⟩ := J5 hb (.inl hk)
  rw [KG hk, Kh p4 q4] at h1
  rw [KG hk, Kh q4 p4] at h2
  refine Qw.ext_ (by rw [p1, q1]) (by rw [p2, q2]) (List.ext_getElem (by rw [p4, q4]) fun i g1 g2 => ?_) (by rw [p3, q3])
  have e1 : a.ps[i]? = some a.ps[i] := List.getElem?_eq_getElem g1
  have e2 : b.ps[i]? = some b.ps[i] := List.getElem?_eq_getElem g2
  have e3 : l.ps[i]? = some (l.ps[i]'(by omega)) := List.getElem?_eq_getElem (by omega)
  exact ih _ (List.mem_of_getElem? e3) _ _ (Ja p5 e1 e3) (Ja q5 e2 e3) (h1 i _ _ _ e3 e1 e2) (h2 i _ _ _ e3 e2 e1)
 ·obtain ⟨p, q, hp⟩ := Kd hO.shape hk
  obtain ⟨p1, p2, p3, -, -⟩ := J5 ha (.inr hk)
  obtain ⟨q1, q2, q3, -, -⟩ := J5 hb (.inr hk)
  obtain ⟨x1, x2, ea, u1, u2⟩ := Ye ha hk hp
  obtain ⟨y1, y2, eb, v1, v2⟩ := Ye hb hk hp
  have ep : x1 = y1 ∧ x2 = y2 := by
   rcases (YI hk hp ea eb).1 h1 with ⟨e, g1⟩ | ⟨e, g1⟩
   ·rcases (YI hk hp eb ea).1 h2 with ⟨e', g2⟩ | ⟨e', g2⟩
    ·exact ⟨e, ih q (by rw [hp]; simp) _ _ u2 v2 g1 g2⟩
    exact absurd e.symm e'
   rcases (YI hk hp eb ea).1 h2 with ⟨e', g2⟩ | ⟨e', g2⟩
   ·exact absurd e'.symm e
   exact absurd (ih p (by rw [hp]; simp) _ _ u1 v1 g1 g2) e
  refine Qw.ext_ (by rw [p1, q1]) (by rw [p2, q2]) (by rw [ea, eb, ep.1, ep.2]) (by rw [p3, q3])
 ·have h1 := (Km hk).1 h1
  have h2 := (Km hk).1 h2
  rcases h1 with h1 | h1 | h1
  ·rcases h2 with h2 | h2 | h2
   ·rcases QcU ha hk with ⟨-, e⟩ | ⟨e, -⟩
    ·rcases QcU hb hk with ⟨-, e'⟩ | ⟨e', -⟩
     ·rw [e, e', h1, h2]
     omega
    omega
   ·omega
   exact h2.symm
  ·rcases h2 with h2 | h2 | h2
   ·omega
   ·rcases QcU ha hk with ⟨-, e⟩ | ⟨e, -⟩
    ·rcases QcU hb hk with ⟨-, e'⟩ | ⟨e', -⟩
     ·rw [e, e', h1, h2]
     omega
    omega
   exact h2.symm
  exact h1
 ·obtain ⟨p1, p2, p3, ra⟩ := Kc ha hk
  obtain ⟨q1, q2, q3, rb⟩ := Kc hb hk
  have h1 := (W3 hk ra rb).1 h1
  have h2 := (W3 hk rb ra).1 h2
  have one : ∀ {u v : List En}, JP u → (∀ x ∈ u, ∃ y ∈ v, leE x y) → (∀ x ∈ v, ∃ y ∈ u, leE x y) → ∀ x ∈ u, x ∈ v := fun {u v} ru k1 k2 x hx => by
   obtain ⟨y, hy, g1⟩ := k1 x hx
   obtain ⟨z, hz, g2⟩ := k2 y hy
   have := ru.le_eq hx hz (QhH g1 g2)
   subst this
   rw [Qor g1 g2]; exact hy
  exact Qw.ext_ (by rw [p1, q1]) (by rw [p2, q2]) (by rw [p3, q3]) (ra.ext_ rb fun x => ⟨one ra h1 h2 x, one rb h2 h1 x⟩)
 exact set (.inr hk)
theorem Qat (l : QD) (hO : YK l) (a b : Qw) (ha : Qt a l = true) (hb : Qt b l = true) (h1 : Xl l a b = true) (h2 : Xl l b a = true) : a = b := QsE l hO (fun q hq x y hx hy => Qat q (hO.part q hq) x y hx hy) a b ha hb h1 h2
termination_by l
decreasing_by exact QD.sizeOf_ps ‹_›
theorem Qqn (l : QD) (hO : YK l) (ih : ∀ q ∈ l.ps, ∀ x y z, Qt x q = true → Qt y q = true → Qt z q = true → Xl q x y = true → Xl q y z = true → Xl q x z = true) (a b c : Qw) (ha : Qt a l = true) (hb : Qt b l = true) (hc : Qt c l = true) (h1 : Xl l a b = true) (h2 : Xl l b c = true) : Xl l a c = true := by
 have set : l.k = 4 ∨ l.k = 10 → Xl l a c = true := fun hk => (YM hk).2 fun x hx => (YM hk).1 h2 x ((YM hk).1 h1 x hx)
 rcases kinds hO with hk | hk | hk | hk | hk | hk | hk | hk | hk | hk
 ·exact (J3 (.inl hk)).2 (Int.le_trans ((J3 (.inl hk)).1 h1) ((J3 (.inl hk)).1 h2))
 ·exact (J3 (.inr hk)).2 (Int.le_trans ((J3 (.inr hk)).1 h1) ((J3 (.inr hk)).1 h2))
 ·exact (Wz hk).2 (Int.le_trans ((Wz hk).1 h2) ((Wz hk).1 h1))
 ·exact set (.inl hk)
 ·obtain ⟨q, hp⟩ := WU hO hk
  obtain ⟨-, -, p3, p4, -, p6⟩ := YO ha hk hp
  obtain ⟨-, -, q3, q4, -, q6⟩ := YO hb hk hp
  obtain ⟨-, -, r3, r4, -, r6⟩ := YO hc hk hp
  have l1 := (W4 hk hp p3 q3 q4).1 h1
  have l2 := (W4 hk hp q3 r3 r4).1 h2
  refine (W4 hk hp p3 r3 r4).2 fun i s p hs hpp => ?_
  obtain ⟨j, y, hj, hy, g1⟩ := l1 i s p hs hpp
  obtain ⟨k, z, hk', hz, g2⟩ := l2 j s y hj hy
  exact ⟨k, z, hk', hz, ih q (by rw [hp]; simp) p y z (p6 p (List.mem_of_getElem? hpp)).1 (q6 y (List.mem_of_getElem? hy)).1 (r6 z (List.mem_of_getElem? hz)).1 g1 g2⟩
 ·obtain ⟨-, -, -, p4, p5⟩ := J5 ha (.inl hk)
  obtain ⟨-, -, -, q4, q5⟩ := J5 hb (.inl hk)
  obtain ⟨-, -, -, r4, r5⟩ := J5 hc (.inl hk)
  rw [KG hk, Kh p4 q4] at h1
  rw [KG hk, Kh q4 r4] at h2
  rw [KG hk, Kh p4 r4]
  intro k q x z e1 e2 e3
  have hlt := (List.getElem?_eq_some_iff.1 e1).1
  have ey : b.ps[k]? = some (b.ps[k]'(by omega)) := List.getElem?_eq_getElem (by omega)
  exact ih q (List.mem_of_getElem? e1) x _ z (Ja p5 e2 e1) (Ja q5 ey e1) (Ja r5 e3 e1) (h1 k q x _ e1 e2 ey) (h2 k q _ z e1 ey e3)
 ·obtain ⟨p, q, hp⟩ := Kd hO.shape hk
  obtain ⟨x1, x2, ea, u1, u2⟩ := Ye ha hk hp
  obtain ⟨y1, y2, eb, v1, v2⟩ := Ye hb hk hp
  obtain ⟨z1, z2, ec, w1, w2⟩ := Ye hc hk hp
  have mp : p ∈ l.ps := by rw [hp]; simp
  have mq : q ∈ l.ps := by rw [hp]; simp
  refine (YI hk hp ea ec).2 ?_
  rcases (YI hk hp ea eb).1 h1 with ⟨e, g1⟩ | ⟨e, g1⟩ <;> rcases (YI hk hp eb ec).1 h2 with ⟨e', g2⟩ | ⟨e', g2⟩
  ·exact .inl ⟨e.trans e', ih q mq _ _ _ u2 v2 w2 g1 g2⟩
  ·subst e; exact .inr ⟨e', g2⟩
  ·subst e'; exact .inr ⟨e, g1⟩
  refine .inr ⟨fun e2 => ?_, ih p mp _ _ _ u1 v1 w1 g1 g2⟩
  subst e2
  exact e (Qat p (hO.part p mp) _ _ u1 v1 g1 g2)
 ·have h1 := (Km hk).1 h1
  have h2 := (Km hk).1 h2
  refine (Km hk).2 ?_
  rcases h1 with h1 | h1 | h1
  ·exact .inl h1
  ·rcases h2 with h2 | h2 | h2
   ·omega
   ·exact .inr (.inl h2)
   subst h2; exact .inr (.inl h1)
  subst h1; exact h2
 ·obtain ⟨-, -, -, ra⟩ := Kc ha hk
  obtain ⟨-, -, -, rb⟩ := Kc hb hk
  obtain ⟨-, -, -, rc⟩ := Kc hc hk
  have h1 := (W3 hk ra rb).1 h1
  have h2 := (W3 hk rb rc).1 h2
  refine (W3 hk ra rc).2 fun x hx => ?_
  obtain ⟨y, hy, g1⟩ := h1 x hx
  obtain ⟨z, hz, g2⟩ := h2 y hy
  exact ⟨z, hz, QhH g1 g2⟩
 exact set (.inr hk)
theorem QhA (l : QD) (hO : YK l) (a b c : Qw) (ha : Qt a l = true) (hb : Qt b l = true) (hc : Qt c l = true) (h1 : Xl l a b = true) (h2 : Xl l b c = true) : Xl l a c = true := Qqn l hO (fun q hq x y z hx hy hz => QhA q (hO.part q hq) x y z hx hy hz) a b c ha hb hc h1 h2
termination_by l
decreasing_by exact QD.sizeOf_ps ‹_›
theorem QcM {l : QD} {a b : Qw} (hc : Xp l = 0) (ha : Qt a l = true) (hb : Qt b l = true) : Qef l a b = Xl l a b := by
 unfold Qef JZ Qag
 simp [hc, XZ, ha, hb]
theorem QrS {x y : Nm} (h : Op.bytesLess x y = false) (k : Op.bytesLess y x = false) : x = y := by
 have h1 := Ym x y
 have h2 := Ym y x
 rw [h] at h1
 rw [k] at h2
 have h3 := JU.anti x y
 have h4 := JU.anti y x
 refine JU.eq x y ?_
 simp only [Bool.false_eq_true, if_false] at h1 h2
 split at h1 <;> split at h2 <;> omega
abbrev pw (l : List Nm) : Prop := l.Pairwise (fun a b => Op.bytesLess a b = true)
theorem QgM {b : Bool} {x z : Nm} {l : List Nm} : z ∈ Qao b x l ↔ (b = true ∧ z = x) ∨ z ∈ l := by
 unfold Qao; cases b <;> simp
theorem Qjo {b : Bool} {x : Nm} {l : List Nm} (h : pw l) (hx : ∀ z ∈ l, Op.bytesLess x z = true) : pw (Qao b x l) := by
 unfold Qao; cases b
 ·exact h
 exact List.Pairwise.cons hx h
theorem Qcr {a b : Nm} (h : Op.bytesLess a b = true) : a ≠ b := fun e => by subst e; rw [QbV] at h; cases h
theorem KA (lf bo ri : Bool) : ∀ (n : Nat) (a b : List Nm), a.length + b.length ≤ n → pw a → pw b →
  pw (Wl lf bo ri a b) ∧ (∀ z, z ∈ Wl lf bo ri a b ↔ (z ∈ a ∧ z ∉ b ∧ lf = true) ∨ (z ∈ a ∧ z ∈ b ∧ bo = true) ∨ (z ∉ a ∧ z ∈ b ∧ ri = true)) ∧ (Wl lf bo ri a b).length ≤ a.length + b.length
 | _, [], [], _, _, _ => ⟨List.Pairwise.nil, fun z => by simp [Wl, Qb6], by simp [Wl, Qb6]⟩
 | 0, _ :: _, _, h, _, _ => by simp at h
 | 0, [], _ :: _, h, _, _ => by simp at h
 | n + 1, x :: r, [], hl, ha, hb => by
  rw [QsJ]
  have ha' := List.pairwise_cons.1 ha
  obtain ⟨i1, i2, i3⟩ := KA lf bo ri n r [] (by simp at hl ⊢; omega) ha'.2 hb
  have sub : ∀ z ∈ Wl lf bo ri r [], z ∈ r := fun z hz => by
   rcases (i2 z).1 hz with h | h | h
   ·exact h.1
   ·exact h.1
   simp at h
  refine ⟨Qjo i1 fun z hz => ha'.1 z (sub z hz), fun z => ?_, ?_⟩
  ·rw [QgM, i2]
   simp only [List.mem_cons, List.not_mem_nil, not_false_eq_true, true_and, false_and, and_false, or_false]
   constructor
   ·rintro (⟨h1, h2⟩ | ⟨h1, h2⟩)
    ·exact ⟨.inl h2, h1⟩
    exact ⟨.inr h1, h2⟩
   rintro ⟨h1 | h1, h2⟩
   ·exact .inl ⟨h2, h1⟩
   exact .inr ⟨h1, h2⟩
  unfold Qao; split <;> simp at i3 ⊢ <;> omega
 | n + 1, [], y :: s, hl, ha, hb => by
  rw [QsF]
  have hb' := List.pairwise_cons.1 hb
  obtain ⟨i1, i2, i3⟩ := KA lf bo ri n [] s (by simp at hl ⊢; omega) ha hb'.2
  have sub : ∀ z ∈ Wl lf bo ri [] s, z ∈ s := fun z hz => by
   rcases (i2 z).1 hz with h | h | h
   ·simp at h
   ·simp at h
   exact h.2.1
  refine ⟨Qjo i1 fun z hz => hb'.1 z (sub z hz), fun z => ?_, ?_⟩
  ·rw [QgM, i2]
   simp only [List.mem_cons, List.not_mem_nil, not_false_eq_true, true_and, false_and, false_or]
   constructor
   ·rintro (⟨h1, h2⟩ | ⟨h1, h2⟩)
    ·exact ⟨.inl h2, h1⟩
    exact ⟨.inr h1, h2⟩
   rintro ⟨h1 | h1, h2⟩
   ·exact .inl ⟨h2, h1⟩
   exact .inr ⟨h1, h2⟩
  unfold Qao; split <;> simp at i3 ⊢ <;> omega
 | n + 1, x :: r, y :: s, hl, ha, hb => by
  have ha' := List.pairwise_cons.1 ha
  have hb' := List.pairwise_cons.1 hb
  simp only [List.length_cons] at hl
  by_cases c1 : Op.bytesLess x y = true
  ·rw [Qos c1]
   obtain ⟨i1, i2, i3⟩ := KA lf bo ri n r (y :: s) (by simp; omega) ha'.2 hb
   have xs : ∀ z ∈ y :: s, Op.bytesLess x z = true := fun z hz => by
    rcases List.mem_cons.1 hz with rfl | hz
    ·exact c1
    exact Qap c1 (hb'.1 z hz)
   refine ⟨Qjo i1 fun z hz => ?_, fun z => ?_, ?_⟩
   ·rcases (i2 z).1 hz with h | h | h
    ·exact ha'.1 z h.1
    ·exact ha'.1 z h.1
    exact xs z h.2.1
   ·rw [QgM, i2]
    by_cases e : z = x
    ·subst e
     have n1 : z ∉ r := fun h => Qcr (ha'.1 z h) rfl
     have n2 : z ∉ y :: s := fun h => Qcr (xs z h) rfl
     simp [n1]
     simp only [List.mem_cons, not_or] at n2
     simp [n2]
    simp [e]
   unfold Qao; split <;> simp at i3 ⊢ <;> omega
  rw [Bool.not_eq_true] at c1
  by_cases c2 : Op.bytesLess y x = true
  ·rw [Qob c1 c2]
   obtain ⟨i1, i2, i3⟩ := KA lf bo ri n (x :: r) s (by simp; omega) ha hb'.2
   have ys : ∀ z ∈ x :: r, Op.bytesLess y z = true := fun z hz => by
    rcases List.mem_cons.1 hz with rfl | hz
    ·exact c2
    exact Qap c2 (ha'.1 z hz)
   refine ⟨Qjo i1 fun z hz => ?_, fun z => ?_, ?_⟩
   ·rcases (i2 z).1 hz with h | h | h
    ·exact ys z h.1
    ·exact ys z h.1
    exact hb'.1 z h.2.1
   ·rw [QgM, i2]
    by_cases e : z = y
    ·subst e
     have n1 : z ∉ s := fun h => Qcr (hb'.1 z h) rfl
     have n2 : z ∉ x :: r := fun h => Qcr (ys z h) rfl
     simp only [List.mem_cons, not_or] at n2
     simp [n1, n2]
    simp [e]
   unfold Qao; split <;> simp at i3 ⊢ <;> omega
  rw [Bool.not_eq_true] at c2
  have e0 := QrS c1 c2
  subst e0
  rw [QpZ c1 c2]
  obtain ⟨i1, i2, i3⟩ := KA lf bo ri n r s (by omega) ha'.2 hb'.2
  refine ⟨Qjo i1 fun z hz => ?_, fun z => ?_, ?_⟩
  ·rcases (i2 z).1 hz with h | h | h
   ·exact ha'.1 z h.1
   ·exact ha'.1 z h.1
   exact hb'.1 z h.2.1
  ·rw [QgM, i2]
   by_cases e : z = x
   ·subst e
    have n1 : z ∉ r := fun h => Qcr (ha'.1 z h) rfl
    have n2 : z ∉ s := fun h => Qcr (hb'.1 z h) rfl
    simp [n1, n2]
   simp [e]
  unfold Qao; split <;> simp at i3 ⊢ <;> omega
abbrev Ku (a b : List Nm) : List Nm := Wl true true true a b
theorem K9 {a b : List Nm} (ha : Qq a = true) (hb : Qq b = true) {z : Nm} : z ∈ Ku a b ↔ z ∈ a ∨ z ∈ b := by
 rw [(KA true true true _ a b (Nat.le_refl _) (XP ha) (XP hb)).2.1 z]
 by_cases h1 : z ∈ a <;> by_cases h2 : z ∈ b <;> simp [h1, h2]
theorem WB {a b : List Nm} (ha : Qq a = true) (hb : Qq b = true) : Qq (Ku a b) = true := Wj (KA true true true _ a b (Nat.le_refl _) (XP ha) (XP hb)).1
theorem QdN {a b : List Nm} (ha : Qq a = true) (hb : Qq b = true) : (Ku a b).length ≤ a.length + b.length := (KA true true true _ a b (Nat.le_refl _) (XP ha) (XP hb)).2.2
abbrev itr (a b : List Nm) : List Nm := Wl false true false a b
theorem QqB {a b : List Nm} (ha : Qq a = true) (hb : Qq b = true) {z : Nm} : z ∈ itr a b ↔ z ∈ a ∧ z ∈ b := by
 rw [(KA false true false _ a b (Nat.le_refl _) (XP ha) (XP hb)).2.1 z]
 simp
theorem Qlx {a b : List Nm} (ha : Qq a = true) (hb : Qq b = true) : Qq (itr a b) = true := Wj (KA false true false _ a b (Nat.le_refl _) (XP ha) (XP hb)).1
inductive J6 (n : Nat) : Qw → Prop
 | mk (v : Qw) (h1 : v.nm.length ≤ n) (h2 : v.ps.length ≤ n) (h3 : v.es.length ≤ n) (h4 : ∀ e ∈ v.es, e.1.length ≤ 64) (h5 : ∀ p ∈ v.ps, J6 n p) : J6 n v
section
variable {n : Nat} {v : Qw}
theorem J6.nm (h : J6 n v) : v.nm.length ≤ n := by cases h; assumption
theorem J6.ps (h : J6 n v) : v.ps.length ≤ n := by cases h; assumption
theorem J6.es (h : J6 n v) : v.es.length ≤ n := by cases h; assumption
theorem J6.en (h : J6 n v) : ∀ e ∈ v.es, e.1.length ≤ 64 := by cases h; assumption
theorem J6.part (h : J6 n v) : ∀ p ∈ v.ps, J6 n p := by cases h; assumption
theorem J6.up {m : Nat} (hm : n ≤ m) (h : J6 n v) : J6 m v := by
 induction h with
 | mk v h1 h2 h3 h4 _ ih => exact .mk v (by omega) (by omega) (by omega) h4 ih
end
def Wb (rs : List Ru) (s : List Nm) : List Nm := match rs.find? (fun r => JT r.i s && !X2 s r.t) with | some r => s ++ [r.t] | none => s
def J9 (rs : List Ru) : Nat → List Nm → List Nm
 | 0, s => s
 | n + 1, s => J9 rs n (Wb rs s)
def Ka (u : List Nm) (rs : List Ru) (s : List Nm) : List Nm := u.filter (X2 (J9 rs rs.length s))
mutual
def QR : QD → Qw → Qw → Qw
 | .mk k lo hi nm ps rs, a, b =>
  if k == 4 then .mk 0 (Ku a.nm b.nm) [] []
  else if k == 10 then .mk 0 (Ka nm rs (Ku a.nm b.nm)) [] []
  else if k == 9 then .mk 0 [] [] (Jw a.es b.es)
  else if k == 5 then .mk 0 (Ku a.nm b.nm) (QmU ps (Ku a.nm b.nm) a b) []
  else if k == 6 then .mk 0 [] (Ws ps a.ps b.ps) []
  else match (if k == 7 then Wn ps a.ps b.ps else none) with
   | some v => v
   | none => if Xl (.mk k lo hi nm ps rs) a b then b else if Xl (.mk k lo hi nm ps rs) b a then a else .mk 2 [] [] []
def QmU : List QD → List Nm → Qw → Qw → List Qw
 | [], _, _, _ => []
 | q :: _, u, a, b => u.map fun s => match Xy a s, Xy b s with
  | none, some y => y
  | some x, none => x
  | some x, some y => QR q x y
  | none, none => Qw.zero
def Ws : List QD → List Qw → List Qw → List Qw
 | q :: r, x :: a, y :: b => QR q x y :: Ws r a b
 | _, _, _ => []
def Wn : List QD → List Qw → List Qw → Option Qw
 | [_, q], [x1, x2], [y1, y2] => if eqV x1 y1 then some (.mk 0 [] [x1, QR q x2 y2] []) else none
 | _, _, _ => none
end
def J0 (q : QD) (a b : Qw) (s : Nm) : Qw := match Xy a s, Xy b s with
 | none, some y => y
 | some x, none => x
 | some x, some y => QR q x y
 | none, none => Qw.zero
theorem QcL (q : QD) (r : List QD) (u : List Nm) (a b : Qw) : QmU (q :: r) u a b = u.map (J0 q a b) := by rw [QmU]; rfl
theorem X3 (l : QD) (a b : Qw) : QR l a b =
  if l.k == 4 then .mk 0 (Ku a.nm b.nm) [] []
  else if l.k == 10 then .mk 0 (Ka l.nm l.rs (Ku a.nm b.nm)) [] []
  else if l.k == 9 then .mk 0 [] [] (Jw a.es b.es)
  else if l.k == 5 then .mk 0 (Ku a.nm b.nm) (QmU l.ps (Ku a.nm b.nm) a b) []
  else if l.k == 6 then .mk 0 [] (Ws l.ps a.ps b.ps) []
  else match (if l.k == 7 then Wn l.ps a.ps b.ps else none) with
   | some v => v
   | none => if Xl l a b then b else if Xl l b a then a else .mk 2 [] [] [] := by
 cases l with
 | mk k lo hi nm ps rs => rw [QR]; rfl
section
variable {a b : Qw} {q : QD} {s : Nm} {x y : Qw}
theorem QtC (h1 : Xy a s = none) (h2 : Xy b s = some y) : J0 q a b s = y := by unfold J0; rw [h1, h2]
theorem QtJ (h1 : Xy a s = some x) (h2 : Xy b s = none) : J0 q a b s = x := by unfold J0; rw [h1, h2]
theorem QtF (h1 : Xy a s = some x) (h2 : Xy b s = some y) : J0 q a b s = QR q x y := by unfold J0; rw [h1, h2]
end
theorem QiA {u : List Nm} {f : Nm → Qw} {k : Nat} {s : Nm} {y : Qw} (h : u[k]? = some s) (hf : f s = y) : (((u.take k).map f).map JV) ++ Qo 4 1 (Qz y) = (((u.take (k + 1)).map f).map JV) := by
 have : Qo 4 1 (Qz y) = [JV y] := by rw [Kn]; rfl
 rw [this, List.take_add_one, h, ← hf]; simp
theorem Qgc : ∀ {ls : List QD} {xs ys : List Qw}, xs.length = ls.length → ys.length = ls.length → (Ws ls xs ys).length = ls.length
 | [], [], [], _, _ => by simp [Ws]
 | q :: r, x :: a, y :: b, h1, h2 => by rw [Ws]; simp [Qgc (ls := r) (by simpa using h1) (by simpa using h2)]
 | [], _ :: _, _, h, _ => by simp at h
 | [], [], _ :: _, _, h => by simp at h
 | _ :: _, [], _, h, _ => by simp at h
 | _ :: _, _ :: _, [], _, h => by simp at h
theorem Qf3 : ∀ {ls : List QD} {xs ys : List Qw} {k : Nat} {q : QD} {x y : Qw}, ls[k]? = some q → xs[k]? = some x → ys[k]? = some y → (Ws ls xs ys)[k]? = some (QR q x y)
 | q :: r, x :: a, y :: b, 0, q', x', y', h1, h2, h3 => by simp at h1 h2 h3; subst h1 h2 h3; rw [Ws]; rfl
 | q :: r, x :: a, y :: b, k + 1, q', x', y', h1, h2, h3 => by rw [Ws]; exact Qf3 (ls := r) (by simpa using h1) (by simpa using h2) (by simpa using h3)
 | [], _, _, _, _, _, _, h, _, _ => by simp at h
 | _ :: _, [], _, _, _, _, _, _, h, _ => by simp at h
 | _ :: _, _ :: _, [], _, _, _, _, _, _, h => by simp at h
theorem Qiu {l : List Qw} {k : Nat} {y : Qw} (h : l[k]? = some y) : ((l.take k).map JV) ++ Qo 4 1 (Qz y) = ((l.take (k + 1)).map JV) := by
 have : Qo 4 1 (Qz y) = [JV y] := by rw [Kn]; rfl
 rw [this, List.take_add_one, h]; simp
end Go.Proofs.YtnkkokmmeplbgaaGreat
