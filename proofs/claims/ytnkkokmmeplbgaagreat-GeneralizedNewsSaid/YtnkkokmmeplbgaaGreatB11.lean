/-
  Plain laws: values are compared by a total order; clocks, en
-/
import Derived.Test.YtnkkokmmeplbgaaGreatB10
import Derived.Test.YtnkkokmmeplbgaaGreatB4
namespace Go.Proofs.YtnkkokmmeplbgaaGreat
open Go.RowKit
theorem Qgh {α β : Type} (c : α → α → Int) (f : β → α) : ∀ a b : List β, QV c (a.map f) (b.map f) = QV (fun x y => c (f x) (f y)) a b
 | [], [] => rfl
 | [], _ :: _ => rfl
 | _ :: _, [] => rfl
 | x :: a, y :: b => by simp only [List.map, QV]; rw [Qgh c f a b]
abbrev VS (n : Nat) := {v : Qt // SizeOf.sizeOf v < n}
def VS.down {n : Nat} (v : VS (n + 1)) : List (VS n) := v.1.ps.attach.map fun p => ⟨p.1, by have := Qt.sizeOf_ps p.2; have := v.2; omega⟩
theorem VS.down_map {n : Nat} (v : VS (n + 1)) : v.down.map Subtype.val = v.1.ps := by
 unfold VS.down; rw [List.map_map]; exact List.attach_map_subtype_val _
theorem Qbj : ∀ n, YC (fun x y : VS n => Xw x.1 y.1)
 | 0 => ⟨fun x => absurd x.2 (Nat.not_lt_zero _), fun x => absurd x.2 (Nat.not_lt_zero _), fun x => absurd x.2 (Nat.not_lt_zero _)⟩
 | n + 1 => by
  have ih := Qbj n
  have h3 := Qbv (α := List (VS n) × List En) Prod.fst Prod.snd (Qby ih) (Qby Jl) (fun x y h1 h2 => Prod.ext h1 h2)
  have h2 := Qbv (α := List Nm × (List (VS n) × List En)) Prod.fst Prod.snd (Qby XU) h3 (fun x y h1 h2 => Prod.ext h1 h2)
  have h1 := Qbv (α := VS (n + 1)) (fun v => v.1.N) (fun v => (v.1.nm, (v.down, v.1.es))) JI h2 (fun x y e1 e2 => by
   have e3 := congrArg Prod.fst e2
   have e4 := congrArg (fun p => p.2.1) e2
   have e5 := congrArg (fun p => p.2.2) e2
   simp only at e3 e4 e5
   have e6 : x.1.ps = y.1.ps := by rw [← VS.down_map, ← VS.down_map, e4]
   apply Subtype.ext
   rw [← Qt.eta x.1, ← Qt.eta y.1, e1, e3, e6, e5])
  refine Eq.mpr (congrArg YC ?_) h1
  funext x y
  rw [J0, ← VS.down_map x, ← VS.down_map y, Qgh, Qcv]
  simp only [QhR]
  by_cases c1 : Lib.compareInt x.1.N y.1.N = 0
  ·by_cases c2 : QV Lib.compareBytes x.1.nm y.1.nm = 0
   ·by_cases c3 : QV (fun x y : VS n => Xw x.1 y.1) x.down y.down = 0
    ·simp only [c1, c2, c3, ne_eq, not_true, if_true, if_false]
    simp only [c1, c2, c3, ne_eq, not_true, not_false_eq_true, if_true, if_false]
   simp only [c1, c2, ne_eq, not_true, not_false_eq_true, if_true, if_false]
  simp only [c1, ne_eq, not_false_eq_true, if_true, if_false]
theorem Qes : YC Xw where
 anti x y := (Qbj (SizeOf.sizeOf x + SizeOf.sizeOf y + 1)).anti ⟨x, by omega⟩ ⟨y, by omega⟩
 trans x y z := (Qbj (SizeOf.sizeOf x + SizeOf.sizeOf y + SizeOf.sizeOf z + 1)).trans ⟨x, by omega⟩ ⟨y, by omega⟩ ⟨z, by omega⟩
 eq x y h := congrArg Subtype.val ((Qbj (SizeOf.sizeOf x + SizeOf.sizeOf y + 1)).eq ⟨x, by omega⟩ ⟨y, by omega⟩ h)
theorem Jm (x y : Qt) : eqV x y = true ↔ x = y := by
 unfold eqV; rw [beq_iff_eq]
 exact ⟨Qes.eq x y, fun h => h ▸ Qes.refl x⟩
theorem JF {last : Int} {t : Tk} : Qcy last t = true ↔ last < t.1 ∧ t.1 ≤ 63 ∧ 1 ≤ t.2 ∧ t.2 ≤ 1000000000000000 := by
 simp only [Qcy, Bool.not_eq_true', Bool.or_eq_false_iff, decide_eq_false_iff_not]; omega
theorem Yi {last : Int} {x : Tk} {r : List Tk} : QT last (x :: r) = true ↔ Qcy last x = true ∧ QT x.1 r = true := by
 rw [QT, Bool.and_eq_true]
theorem Q5 (x : Tk) (r : List Tk) (p : Int) : QdK (x :: r) p = if x.1 = p then x.2 else QdK r p := by
 unfold QdK
 rw [List.find?_cons]
 by_cases h : x.1 = p
 ·rw [if_pos h, show (x.1 == p) = true from beq_iff_eq.2 h]
 rw [if_neg h, show (x.1 == p) = false from beq_eq_false_iff_ne.2 h]
theorem KT : ∀ (l : List Tk) (last p : Int), QT last l = true → p ≤ last → QdK l p = 0
 | [], _, _, _, _ => rfl
 | x :: r, last, p, h, hp => by
  obtain ⟨h1, h2⟩ := Yi.1 h
  have := JF.1 h1
  rw [Q5, if_neg (by omega)]
  exact KT r x.1 p h2 (by omega)
theorem Qao : ∀ (l : List Tk) (last p : Int), QT last l = true → 0 ≤ QdK l p
 | [], _, _, _ => Int.le_refl _
 | x :: r, last, p, h => by
  obtain ⟨h1, h2⟩ := Yi.1 h
  have := JF.1 h1
  rw [Q5]
  split
  ·omega
  exact Qao r x.1 p h2
def cle (a b : List Tk) : Prop := ∀ p, QdK a p ≤ QdK b p
theorem Qdp (a : List Tk) : cle a a := fun _ => Int.le_refl _
theorem Qer {a b c : List Tk} (h : cle a b) (k : cle b c) : cle a c := fun p => Int.le_trans (h p) (k p)
theorem Qe4 {p k : Int} {l : List Tk} (h : k > 0) : WL p k l ≠ [] := by unfold WL; rw [if_pos h]; simp
theorem QeK {p k : Int} {l : List Tk} (h : ¬ k > 0) : WL p k l = l := by unfold WL; rw [if_neg h]
theorem Qif {l : List Tk} {a b : Int} (h : QT a l = true) (hb : ∀ x r, l = x :: r → b < x.1) : QT b l = true := by
 cases l with
 | nil => rfl
 | cons x r =>
  obtain ⟨h1, h2⟩ := Yi.1 h
  have := JF.1 h1
  have := hb x r rfl
  exact Yi.2 ⟨JF.2 ⟨by omega, by omega, by omega, by omega⟩, h2⟩
theorem Qbs : ∀ (n : Nat) (a b : List Tk) (l1 l2 : Int), a.length + b.length ≤ n → QT l1 a = true → QT l2 b = true → (J9 JZ a b = [] ↔ cle a b)
 | _, [], [], _, _, _, _, _ => ⟨fun _ => Qdp _, fun _ => rfl⟩
 | 0, _ :: _, _, _, _, h, _, _ => by simp at h
 | 0, [], _ :: _, _, _, h, _, _ => by simp at h
 | n + 1, x :: r, [], l1, l2, _, ha, _ => by
  obtain ⟨h1, h2⟩ := Yi.1 ha
  have := JF.1 h1
  rw [Qnx]
  refine ⟨fun h => absurd h (Qe4 ?_), fun h => ?_⟩
  ·unfold JZ; split <;> omega
  have h3 := h x.1
  rw [Q5, if_pos rfl] at h3
  have : QdK [] x.1 = 0 := rfl
  omega
 | n + 1, [], y :: s, l1, l2, hl, ha, hb => by
  obtain ⟨h1, h2⟩ := Yi.1 hb
  have := JF.1 h1
  rw [Qoe, QeK (by unfold JZ; split <;> omega), Qbs n [] s l1 y.1 (by simp at hl ⊢; omega) ha h2]
  exact ⟨fun _ p => Qao _ _ p hb, fun _ p => Qao _ _ p h2⟩
 | n + 1, x :: r, y :: s, l1, l2, hl, ha, hb => by
  obtain ⟨h1, h2⟩ := Yi.1 ha
  obtain ⟨k1, k2⟩ := Yi.1 hb
  have o1 := JF.1 h1
  have o2 := JF.1 k1
  simp only [List.length_cons] at hl
  by_cases e1 : x.1 < y.1
  ·rw [Qln e1]
   refine ⟨fun h => absurd h (Qe4 (by unfold JZ; split <;> omega)), fun h => ?_⟩
   have h3 := h x.1
   have hb' : QT x.1 (y :: s) = true := Qif hb (fun z q e => by cases e; exact e1)
   rw [Q5, if_pos rfl, KT _ _ _ hb' (Int.le_refl _)] at h3
   omega
  by_cases e2 : y.1 < x.1
  ·rw [Qlq e1 e2, QeK (by unfold JZ; split <;> omega), Qbs n (x :: r) s l1 y.1 (by simp; omega) ha k2]
   have ha' : QT y.1 (x :: r) = true := Qif ha (fun z q e => by cases e; exact e2)
   constructor
   ·intro h p
    rw [Q5 y]
    by_cases hp : y.1 = p
    ·rw [if_pos hp, ← hp, KT _ _ _ ha' (Int.le_refl _)]; omega
    rw [if_neg hp]; exact h p
   intro h p
   have := h p
   rw [Q5 y] at this
   by_cases hp : y.1 = p
   ·rw [← hp, KT _ _ _ ha' (Int.le_refl _)]; exact Qao _ _ _ k2
   rw [if_neg hp] at this; exact this
  have e : x.1 = y.1 := by omega
  rw [QkZ e1 e2]
  by_cases hg : x.2 > y.2
  ·refine ⟨fun h => absurd h (Qe4 (by unfold JZ; rw [if_pos hg]; omega)), fun h => ?_⟩
   have := h x.1
   rw [Q5, if_pos rfl, Q5, if_pos e.symm] at this
   omega
  rw [QeK (by unfold JZ; rw [if_neg hg]; omega), Qbs n r s x.1 y.1 (by omega) h2 k2]
  constructor
  ·intro h p
   rw [Q5, Q5, ← e]
   by_cases hp : x.1 = p
   ·rw [if_pos hp, if_pos hp]; omega
   rw [if_neg hp, if_neg hp]; exact h p
  intro h p
  have := h p
  rw [Q5, Q5, ← e] at this
  by_cases hp : x.1 = p
  ·rw [← hp, KT _ _ _ h2 (Int.le_refl _)]; exact Qao _ _ _ k2
  rw [if_neg hp, if_neg hp] at this; exact this
theorem Qin : ∀ (a b : List Tk) (l1 l2 : Int), QT l1 a = true → QT l2 b = true → cle a b → cle b a → a = b
 | [], [], _, _, _, _, _, _ => rfl
 | x :: r, [], _, _, ha, _, h, _ => by
  have := JF.1 (Yi.1 ha).1
  have := h x.1
  rw [Q5, if_pos rfl] at this
  have : QdK [] x.1 = 0 := rfl
  omega
 | [], y :: s, _, _, _, hb, _, h => by
  have := JF.1 (Yi.1 hb).1
  have := h y.1
  rw [Q5, if_pos rfl] at this
  have : QdK [] y.1 = 0 := rfl
  omega
 | x :: r, y :: s, l1, l2, ha, hb, h, k => by
  obtain ⟨h1, h2⟩ := Yi.1 ha
  obtain ⟨k1, k2⟩ := Yi.1 hb
  have o1 := JF.1 h1
  have o2 := JF.1 k1
  have e : x.1 = y.1 := by
   rcases Int.lt_trichotomy x.1 y.1 with e | e | e
   ·have h3 := h x.1
    rw [Q5, if_pos rfl, KT _ _ _ (Qif hb (fun z q e' => by cases e'; exact e)) (Int.le_refl _)] at h3
    omega
   ·exact e
   have h3 := k y.1
   rw [Q5, if_pos rfl, KT _ _ _ (Qif ha (fun z q e' => by cases e'; exact e)) (Int.le_refl _)] at h3
   omega
  have e2 : x.2 = y.2 := by
   have h3 := h x.1
   have h4 := k x.1
   rw [Q5, if_pos rfl, Q5, if_pos e.symm] at h3
   rw [Q5, if_pos e.symm, Q5, if_pos rfl] at h4
   omega
  have e3 : x = y := Prod.ext e e2
  subst e3
  have tl : ∀ (u v : List Tk), QT x.1 u = true → QT x.1 v = true → cle (x :: u) (x :: v) → cle u v := fun u v hu hv h p => by
   have := h p
   rw [Q5, Q5] at this
   by_cases hp : x.1 = p
   ·rw [← hp, KT _ _ _ hu (Int.le_refl _)]; exact Qao _ _ _ hv
   rw [if_neg hp, if_neg hp] at this; exact this
  rw [Qin r s x.1 x.1 h2 k2 (tl _ _ h2 k2 h) (tl _ _ k2 h2 k)]
open Classical in
theorem Qfv {a b : List Tk} (ha : QT (-1) a = true) (hb : QT (-1) b = true) : Qbh a b = if cle a b then (if cle b a then 0 else 1) else if cle b a then 2 else 3 := by
 have e : ∀ a b : List Tk, QT (-1) a = true → QT (-1) b = true → ((QbV a b).length == 0) = decide (cle a b) := fun a b ha hb => by
  unfold QbV QeG
  rw [ha, hb, Bool.and_self, if_pos rfl]
  have := Qbs _ a b (-1) (-1) (Nat.le_refl _) ha hb
  by_cases h : cle a b
  ·rw [this.2 h]; simp [h]
  have h2 : J9 JZ a b ≠ [] := fun e => h (this.1 e)
  have h3 : (J9 JZ a b).length ≠ 0 := fun e => h2 (List.eq_nil_of_length_eq_zero e)
  simp [h, h3]
 unfold Qbh
 rw [ha, hb, e a b ha hb, e b a hb ha]
 simp
def ltE (x y : En) : Prop := cle x.1 y.1 ∧ ¬ cle y.1 x.1
def leE (x y : En) : Prop := ltE x y ∨ x = y
theorem Qdw (x : En) : ¬ ltE x x := fun h => h.2 h.1
theorem Qax {x y z : En} (h1 : ltE x y) (h2 : ltE y z) : ltE x z := ⟨Qer h1.1 h2.1, fun h => h2.2 (Qer h h1.1)⟩
theorem Qbc (x : En) : leE x x := .inr rfl
theorem QeH {x y z : En} (h1 : leE x y) (h2 : leE y z) : leE x z := by
 rcases h1 with h1 | rfl
 ·rcases h2 with h2 | rfl
  ·exact .inl (Qax h1 h2)
  exact .inl h1
 exact h2
theorem QmP {x y z : En} (h1 : ltE x y) (h2 : leE y z) : ltE x z := by
 rcases h2 with h2 | rfl
 ·exact Qax h1 h2
 exact h1
theorem QmD {x y z : En} (h1 : leE x y) (h2 : ltE y z) : ltE x z := by
 rcases h1 with h1 | rfl
 ·exact Qax h1 h2
 exact h2
theorem QcL {x y : En} (hx : QT (-1) x.1 = true) (hy : QT (-1) y.1 = true) : W2 x y = true ↔ leE x y := by
 unfold W2
 rw [Qfv hx hy]
 by_cases h1 : cle x.1 y.1 <;> by_cases h2 : cle y.1 x.1
 ·have e := Qin _ _ _ _ hx hy h1 h2
  simp only [h1, h2, if_true]
  constructor
  ·intro h; exact .inr (Prod.ext e (by simpa using h))
  rintro (h | rfl)
  ·exact absurd h2 h.2
  simp
 ·simp only [h1, h2, if_true, if_false]
  exact ⟨fun _ => .inl ⟨h1, h2⟩, fun _ => by simp⟩
 ·simp only [h1, h2, if_true, if_false]
  exact ⟨fun h => by simp at h, fun h => by
   rcases h with h | rfl
   ·exact absurd h.1 h1
   exact absurd (Qdp _) h1⟩
 simp only [h1, h2, if_false]
 exact ⟨fun h => by simp at h, fun h => by
  rcases h with h | rfl
  ·exact absurd h.1 h1
  exact absurd (Qdp _) h1⟩
theorem Qej {x y : En} (hx : QT (-1) x.1 = true) (hy : QT (-1) y.1 = true) : Qix x y = true ↔ ltE x y := by
 unfold Qix ltE
 rw [Qfv hx hy]
 by_cases h1 : cle x.1 y.1 <;> by_cases h2 : cle y.1 x.1 <;> simp [h1, h2]
theorem QcO {x y : En} (hx : QT (-1) x.1 = true) (hy : QT (-1) y.1 = true) : Qbq x y = true ↔ ¬ ltE x y ∧ ¬ ltE y x := by
 unfold Qbq ltE
 rw [Qfv hx hy]
 by_cases h1 : cle x.1 y.1 <;> by_cases h2 : cle y.1 x.1 <;> simp [h1, h2]
structure Jv (es : List En) : Prop where
 valid : ∀ x ∈ es, QT (-1) x.1 = true
 ne : ∀ x ∈ es, x.1 ≠ []
 name : ∀ x ∈ es, Xb x.2 = true
 sorted : es.Pairwise (fun x y => XK x y < 0)
 anti : ∀ x ∈ es, ∀ y ∈ es, ¬ ltE x y
theorem QmC {x y z : En} (h1 : XK x y < 0) (h2 : XK y z < 0) : XK x z < 0 := by
 have := (Jl.swo (fun x : En => x)).trans x y z (decide_eq_true h1) (decide_eq_true h2)
 exact of_decide_eq_true this
theorem KR : ∀ (es : List En), (∀ j e d, es[j + 1]? = some e → es[j]? = some d → XK d e < 0) → es.Pairwise (fun x y => XK x y < 0)
 | [], _ => List.Pairwise.nil
 | [_], _ => List.pairwise_singleton _ _
 | a :: b :: r, h => by
  have ih := KR (b :: r) (fun j e d he hd => h (j + 1) e d (by simpa using he) (by simpa using hd))
  have hab := h 0 b a rfl rfl
  refine List.Pairwise.cons (fun y hy => ?_) ih
  rcases List.mem_cons.1 hy with rfl | hy
  ·exact hab
  exact QmC hab ((List.pairwise_cons.1 ih).1 y hy)
theorem Qik {l : List En} : Qhv l = true ↔ ∀ k x, l[k]? = some x → Qa9 l x k = true := by
 unfold Qhv
 rw [List.all_eq_true]
 constructor
 ·intro h k x hx
  exact h (x, k) (List.mem_of_getElem? (JE hx))
 rintro h ⟨x, k⟩ hm
 obtain ⟨i, hi⟩ := List.mem_iff_getElem?.1 hm
 have h2 := (List.getElem?_eq_some_iff.1 hi).1
 rw [QfV] at h2
 have h3 := JE (List.getElem?_eq_getElem h2)
 rw [hi] at h3
 cases h3
 exact h k _ (List.getElem?_eq_getElem h2)
theorem QfM {l : List En} {k : Nat} {x : En} (hx : l[k]? = some x) : Qa9 l x k = true ↔ x.1 ≠ [] ∧ QT (-1) x.1 = true ∧ Xb x.2 = true ∧ (∀ y, 0 < k → l[k - 1]? = some y → XK y x < 0) ∧ ∀ y ∈ l.take k, Qbq x y = true := by
 have hkl := (List.getElem?_eq_some_iff.1 hx).1
 unfold Qa9
 simp only [Bool.and_eq_true, Bool.not_eq_true', List.all_eq_true, and_assoc]
 refine and_congr ?_ (and_congr Iff.rfl (and_congr Iff.rfl (and_congr ?_ Iff.rfl)))
 ·cases x.1 <;> simp; omega
 by_cases hk : 0 < k
 ·have h1 : l[k - 1]? = some l[k - 1] := List.getElem?_eq_getElem (by omega)
  have h0 : ((k : Int) > 0) := by omega
  rw [h1]
  simp [hk]
 have h0 : ¬ ((k : Int) > 0) := by omega
 simp only [h0, decide_false, Bool.false_and]
 exact ⟨fun _ y h => absurd h hk, fun _ => trivial⟩
theorem Jv.of {es : List En} (h : Qhv es = true) : Jv es := by
 have h' := fun k x hx => (QfM hx).1 (Qik.1 h k x hx)
 have hj : ∀ x ∈ es, ∃ j : Nat, es[j]? = some x := fun x hx => List.mem_iff_getElem?.1 hx
 have hv : ∀ x ∈ es, QT (-1) x.1 = true := fun x hx => by obtain ⟨j, hj⟩ := hj x hx; exact (h' j x hj).2.1
 refine ⟨hv, fun x hx => ?_, fun x hx => ?_, ?_, fun x hx y hy hlt => ?_⟩
 ·obtain ⟨j, hj⟩ := hj x hx; exact (h' j x hj).1
 ·obtain ⟨j, hj⟩ := hj x hx; exact (h' j x hj).2.2.1
 ·exact KR es (fun j e d he hd => (h' (j + 1) e he).2.2.2.1 d (by omega) hd)
 obtain ⟨j, hj⟩ := hj x hx
 obtain ⟨k, hk⟩ := List.mem_iff_getElem?.1 hy
 rcases Nat.lt_trichotomy j k with e | e | e
 ·have hm : x ∈ es.take k := by rw [List.mem_take_iff_getElem]; obtain ⟨g1, g2⟩ := List.getElem?_eq_some_iff.1 hj; exact ⟨j, by omega, g2⟩
  exact ((QcO (hv y hy) (hv x hx)).1 ((h' k y hk).2.2.2.2 x hm)).2 hlt
 ·subst e
  rw [hj] at hk; cases hk
  exact Qdw _ hlt
 have hm : y ∈ es.take j := by rw [List.mem_take_iff_getElem]; obtain ⟨g1, g2⟩ := List.getElem?_eq_some_iff.1 hk; exact ⟨k, by omega, g2⟩
 exact ((QcO (hv x hx) (hv y hy)).1 ((h' j x hj).2.2.2.2 y hm)).1 hlt
theorem Jv.regB_ {es : List En} (h : Jv es) : Qhv es = true := by
 refine Qik.2 fun k x hx => (QfM hx).2 ?_
 have hm := List.mem_of_getElem? hx
 refine ⟨h.ne x hm, h.valid x hm, h.name x hm, fun y hk hy => ?_, fun y hy => ?_⟩
 ·obtain ⟨h1, rfl⟩ := List.getElem?_eq_some_iff.1 hx
  obtain ⟨h2, rfl⟩ := List.getElem?_eq_some_iff.1 hy
  exact List.pairwise_iff_getElem.1 h.sorted (k - 1) k h2 h1 (by omega)
 have hy := List.mem_of_mem_take hy
 exact (QcO (h.valid x hm) (h.valid y hy)).2 ⟨h.anti x hm y hy, h.anti y hy x hm⟩
theorem Jv.nodup {es : List En} (h : Jv es) : es.Nodup := h.sorted.imp (fun {a b} h e => by subst e; rw [Jl.refl] at h; exact absurd h (by decide))
theorem QdT {a b : List En} (hp : a.Perm b) (ha : a.Pairwise (fun x y => XK x y ≤ 0)) (hb : b.Pairwise (fun x y => XK x y ≤ 0)) : a = b :=
 hp.eq_of_pairwise (fun x y _ _ h1 h2 => Jl.eq x y (by have := Jl.anti y x; omega)) ha hb
theorem Jv.ext_ {a b : List En} (ha : Jv a) (hb : Jv b) (h : ∀ x, x ∈ a ↔ x ∈ b) : a = b :=
 QdT ((List.perm_ext_iff_of_nodup ha.nodup hb.nodup).2 h) (ha.sorted.imp (fun h => by omega)) (hb.sorted.imp (fun h => by omega))
theorem Jv.le_eq {es : List En} (h : Jv es) {x y : En} (hx : x ∈ es) (hy : y ∈ es) (hl : leE x y) : x = y := by
 rcases hl with hl | hl
 ·exact absurd hl (h.anti x hx y hy)
 exact hl
theorem KP {x : En} {es : List En} (hx : QT (-1) x.1 = true) (hv : ∀ y ∈ es, QT (-1) y.1 = true) : JR es x = true ↔ ∃ y ∈ es, leE x y := by
 unfold JR
 rw [List.any_eq_true]
 exact ⟨fun ⟨y, hy, h⟩ => ⟨y, hy, (QcL hx (hv y hy)).1 h⟩, fun ⟨y, hy, h⟩ => ⟨y, hy, (QcL hx (hv y hy)).2 h⟩⟩
theorem Qhy {a b : List En} (ha : ∀ x ∈ a, QT (-1) x.1 = true) (hb : ∀ x ∈ b, QT (-1) x.1 = true) : a.all (JR b) = true ↔ ∀ x ∈ a, ∃ y ∈ b, leE x y := by
 rw [List.all_eq_true]
 exact ⟨fun h x hx => (KP (ha x hx) hb).1 (h x hx), fun h x hx => (KP (ha x hx) hb).2 (h x hx)⟩
theorem Yf {l : List Nm} {s : Nm} : XV l s = true ↔ s ∈ l := by
 unfold XV; rw [List.any_eq_true]
 exact ⟨fun ⟨x, hx, h⟩ => by rw [beq_iff_eq] at h; exact h ▸ hx, fun h => ⟨s, h, by simp⟩⟩
theorem Yn {a b : List Nm} : Js a b = true ↔ ∀ x ∈ a, x ∈ b := by
 unfold Js; rw [List.all_eq_true]
 exact ⟨fun h x hx => Yf.1 (h x hx), fun h x hx => Yf.2 (h x hx)⟩
theorem Ql5 {a b : Nm} (h : Op.bytesLess a b = true) (k : Op.bytesLess b a = true) : False := by
 have := K8 h k; rw [Wu] at this; cases this
theorem QnD : ∀ {a b : List Nm}, a.Pairwise (fun a b => Op.bytesLess a b = true) → b.Pairwise (fun a b => Op.bytesLess a b = true) → (∀ x, x ∈ a ↔ x ∈ b) → a = b := fun {a b} ha hb h => by
 have na : a.Nodup := ha.imp (fun {x y} h e => by subst e; rw [Wu] at h; cases h)
 have nb : b.Nodup := hb.imp (fun {x y} h e => by subst e; rw [Wu] at h; cases h)
 exact ((List.perm_ext_iff_of_nodup na nb).2 h).eq_of_pairwise (fun x y _ _ h1 h2 => absurd h2 fun h2 => Ql5 h1 h2) ha hb
theorem Qdo {a b : List Nm} (ha : Qn a = true) (hb : Qn b = true) (h : ∀ x, x ∈ a ↔ x ∈ b) : a = b := QnD (XS ha) (XS hb) h
theorem WD : ∀ {l : List Nm}, l.Pairwise (fun a b => Op.bytesLess a b = true) → Qn l = true
 | [], _ => rfl
 | [_], _ => rfl
 | a :: b :: l, h => by
  show (Op.bytesLess a b && Qn (b :: l)) = true
  rw [List.pairwise_cons] at h
  rw [h.1 b (by simp), WD h.2]; rfl
theorem Qbw {l : List Nm} (h : Qn l = true) : l.Nodup := (XS h).imp (fun {x y} h e => by subst e; rw [Wu] at h; cases h)
theorem QeD {s : Nm} : ∀ (l : List Nm) (i k : Nat), l.Nodup → l[k]? = some s → Xd s l i = ((i + k : Nat) : Int)
 | [], _, _, _, h => by simp at h
 | x :: l, i, 0, _, h => by
  simp at h; subst h
  unfold Xd; simp
 | x :: l, i, k + 1, hn, h => by
  rw [List.nodup_cons] at hn
  have h : l[k]? = some s := by simpa using h
  have hne : (s == x) = false := by
   rw [beq_eq_false_iff_ne]
   intro e; subst e
   exact hn.1 (List.mem_of_getElem? h)
  unfold Xd
  rw [hne]
  simp only [Bool.false_eq_true, if_false]
  rw [QeD l (i + 1) k hn.2 h]
  congr 1; omega
theorem QbF {v : Qt} {s : Nm} {k : Nat} (hs : Qn v.nm = true) (h : v.nm[k]? = some s) : Je v s = v.ps[k]? := by
 unfold Je
 rw [QeD v.nm 0 k (Qbw hs) h, if_neg (by omega)]
 simp
theorem Qcu {s : Nm} : ∀ (l : List Nm) (i : Nat), s ∉ l → Xd s l i = -1
 | [], _, _ => rfl
 | x :: l, i, h => by
  simp only [List.mem_cons, not_or] at h
  unfold Xd
  rw [show (s == x) = false from beq_eq_false_iff_ne.2 h.1]
  simp only [Bool.false_eq_true, if_false]
  exact Qcu l (i + 1) h.2
theorem QbA {v : Qt} {s : Nm} (h : s ∉ v.nm) : Je v s = none := by
 unfold Je; rw [Qcu _ _ h]; rfl
theorem Qcf {l : Qs} (h : Ys l) : l.k = 1 ∨ l.k = 2 ∨ l.k = 3 ∨ l.k = 4 ∨ l.k = 5 ∨ l.k = 6 ∨ l.k = 7 ∨ l.k = 8 ∨ l.k = 9 ∨ l.k = 10 := by
 have h := h.shape
 unfold QU at h
 by_cases hk : Jt l.k = true
 ·simp [Jt, Q8, Xh] at hk; omega
 rw [if_neg hk] at h; cases h
theorem Qt.ext_ {v w : Qt} (h1 : v.N = w.N) (h2 : v.nm = w.nm) (h3 : v.ps = w.ps) (h4 : v.es = w.es) : v = w := by
 rw [← v.eta, ← w.eta, h1, h2, h3, h4]
theorem XI {v : Qt} {n li pa en : Bool} : Xm v n li pa en = true ↔ (n = true ∨ v.N = 0) ∧ (li = true ∨ v.nm = []) ∧ (pa = true ∨ v.ps = []) ∧ (en = true ∨ v.es = []) := by
 unfold Xm
 simp [and_assoc]
section
variable {l : Qs} {v : Qt}
theorem Qle (h : Qv v l = true) (hk : l.k = 1 ∨ l.k = 2 ∨ l.k = 3) : v.nm = [] ∧ v.ps = [] ∧ v.es = [] := by
 rw [Qw] at h
 rcases hk with hk | hk | hk <;> rw [hk] at h <;> simp [XI] at h <;> simp [h]
theorem J5 (h : Qv v l = true) (hk : l.k = 4 ∨ l.k = 10) : v.N = 0 ∧ v.ps = [] ∧ v.es = [] ∧ Qn v.nm = true ∧ (∀ s ∈ v.nm, Yk l.nm s = true) ∧ (l.k = 10 → Y1 l.rs v.nm = true) := by
 rw [Qw] at h
 rcases hk with hk | hk
 ·rw [hk] at h; simp [XI, Xu] at h
  exact ⟨h.1.1, h.1.2.1, h.1.2.2, h.2.1, h.2.2, fun e => by omega⟩
 rw [hk] at h; simp [XI, Xu] at h
 exact ⟨h.1.1.1, h.1.1.2.1, h.1.1.2.2, h.1.2.1, h.1.2.2, fun _ => h.2⟩
theorem Yp (h : Qv v l = true) (hk : l.k = 5) {q : Qs} {r : List Qs} (hp : l.ps = q :: r) : v.N = 0 ∧ v.es = [] ∧ v.nm.length = v.ps.length ∧ Qn v.nm = true ∧ (∀ s ∈ v.nm, Yk l.nm s = true) ∧ ∀ p ∈ v.ps, Qv p q = true ∧ p ≠ Qm q := by
 rw [Qw, hk, hp] at h
 simp only [show ((5 : Int) == 1) = false from rfl, show ((5 : Int) == 2) = false from rfl, show ((5 : Int) == 3) = false from rfl, show ((5 : Int) == 4) = false from rfl, show ((5 : Int) == 10) = false from rfl, show ((5 : Int) == 8) = false from rfl, show ((5 : Int) == 9) = false from rfl, show ((5 : Int) == 5) = true from rfl, Bool.or_self, Bool.false_eq_true, if_false, if_true, Bool.and_eq_true, XI, Xu, We, List.all_eq_true, beq_iff_eq, QaF, false_or, true_or, true_and, Bool.not_eq_true'] at h
 obtain ⟨⟨⟨⟨h1, h2⟩, h3⟩, h4, h5⟩, h6⟩ := h
 refine ⟨h1, h2, by omega, h4, h5, fun p hp => ⟨(h6 p hp).1, fun e => ?_⟩⟩
 have := (h6 p hp).2
 rw [(Jm _ _).2 e] at this
 cases this
theorem Jo (h : Qv v l = true) (hk : l.k = 6 ∨ l.k = 7) : v.N = 0 ∧ v.nm = [] ∧ v.es = [] ∧ v.ps.length = l.ps.length ∧ J3 v.ps l.ps = true := by
 obtain ⟨h1, h2⟩ := Qmr h hk
 rw [Qw] at h
 rcases hk with hk | hk <;> rw [hk] at h <;> simp [XI] at h <;> exact ⟨h.1.1.1, h.1.1.2.1, h.1.1.2.2, h1, h2⟩
theorem Qcz (h : Qv v l = true) (hk : l.k = 8) : (v.N = 0 ∨ v.N = 2) ∧ v = .mk v.N [] [] [] ∨ v.N = 1 ∧ ∃ s, v = .mk 1 [s] [] [] ∧ Yk l.nm s = true := by
 rw [Qw, hk] at h
 simp at h
 by_cases h0 : v.N = 0 ∨ v.N = 2
 ·rw [if_pos h0] at h
  simp [XI] at h
  exact .inl ⟨h0, Qt.ext_ rfl h.1 h.2.1 h.2.2⟩
 rw [if_neg h0] at h
 obtain ⟨h1, h⟩ := h
 simp [XI, Xu] at h
 obtain ⟨⟨h2, h3⟩, h4, h5⟩ := h
 obtain ⟨s, hs⟩ := List.length_eq_one_iff.1 (show v.nm.length = 1 by omega)
 exact .inr ⟨h1, s, Qt.ext_ h1 hs h2.1 h2.2, h5 s (by rw [hs]; simp)⟩
theorem YV (h : Qv v l = true) (hk : l.k = 9) : v.N = 0 ∧ v.nm = [] ∧ v.ps = [] ∧ Jv v.es := by
 rw [Qw, hk] at h
 simp [XI] at h
 exact ⟨h.1.1, h.1.2.1, h.1.2.2, .of h.2⟩
theorem Y5 (h : Ys l) (hk : l.k = 5) : ∃ q, l.ps = [q] := by
 have h := h.shape
 unfold QU at h
 rw [if_pos (by rw [hk]; decide)] at h
 have hb : JV l = false := by
  cases hb : JV l
  ·rfl
  rw [hb] at h; simp [X4] at h
 have h2 : l.ps.length = 1 := by
  simp only [JV, XO, hk] at hb
  simp at hb
  omega
 obtain ⟨q, hq⟩ := List.length_eq_one_iff.1 h2
 exact ⟨q, hq⟩
end
section
variable {l : Qs} {a b : Qt}
theorem Jg (hk : l.k = 1 ∨ l.k = 2) : Q0 l a b = true ↔ a.N ≤ b.N := by
 rw [XT]; rcases hk with hk | hk <;> simp [hk]
theorem Kt (hk : l.k = 3) : Q0 l a b = true ↔ b.N ≤ a.N := by
 rw [XT]; simp [hk]
theorem JD (hk : l.k = 4 ∨ l.k = 10) : Q0 l a b = true ↔ ∀ x ∈ a.nm, x ∈ b.nm := by
 rw [XT, ← Yn]; rcases hk with hk | hk <;> simp [hk]
theorem Kf (hk : l.k = 5) {q : Qs} {r : List Qs} (hp : l.ps = q :: r) (ha : a.nm.length = a.ps.length) (hb : b.nm.length = b.ps.length) (hs : Qn b.nm = true) :
  Q0 l a b = true ↔ ∀ (i : Nat) (s : Nm) (p : Qt), a.nm[i]? = some s → a.ps[i]? = some p → ∃ (j : Nat) (y : Qt), b.nm[j]? = some s ∧ b.ps[j]? = some y ∧ Q0 q p y = true := by
 rw [XT, hk, hp]
 simp only [show ((5 : Int) == 1) = false from rfl, show ((5 : Int) == 2) = false from rfl, show ((5 : Int) == 3) = false from rfl, show ((5 : Int) == 4) = false from rfl, show ((5 : Int) == 10) = false from rfl, show ((5 : Int) == 5) = true from rfl, Bool.or_self, Bool.false_eq_true, if_false, if_true, Qgt, List.all_eq_true]
 constructor
 ·intro h i s p hs' hp'
  have h1 := h (s, p) (List.mem_of_getElem? (Qba hs' hp'))
  unfold QeP at h1
  by_cases hm : s ∈ b.nm
  ·obtain ⟨j, hj⟩ := List.mem_iff_getElem?.1 hm
   simp only [QbF hs hj] at h1
   cases hy : b.ps[j]? with
   | none => rw [hy] at h1; cases h1
   | some y => rw [hy] at h1; exact ⟨j, y, hj, hy, h1⟩
  simp only [QbA hm] at h1; cases h1
 rintro h ⟨s, p⟩ hm
 obtain ⟨i, hi⟩ := List.mem_iff_getElem?.1 hm
 rw [List.getElem?_zip_eq_some] at hi
 obtain ⟨j, y, hj, hy, hle⟩ := h i s p hi.1 hi.2
 unfold QeP
 simp only [QbF hs hj, hy]
 exact hle
theorem JS : ∀ {ls : List Qs} {xs ys : List Qt}, xs.length = ls.length → ys.length = ls.length →
  (QaB ls xs ys = true ↔ ∀ (k : Nat) (q : Qs) (x y : Qt), ls[k]? = some q → xs[k]? = some x → ys[k]? = some y → Q0 q x y = true)
 | [], [], [], _, _ => by simp [QaB]
 | q :: r, x :: a, y :: b, h1, h2 => by
  rw [QaB, Bool.and_eq_true, JS (by simpa using h1) (by simpa using h2)]
  constructor
  ·rintro ⟨h3, h4⟩ k q' x' y' e1 e2 e3
   cases k with
   | zero => simp at e1 e2 e3; subst e1 e2 e3; exact h3
   | succ k => exact h4 k q' x' y' (by simpa using e1) (by simpa using e2) (by simpa using e3)
  intro h
  exact ⟨h 0 q x y rfl rfl rfl, fun k q' x' y' e1 e2 e3 => h (k + 1) q' x' y' (by simpa using e1) (by simpa using e2) (by simpa using e3)⟩
 | [], _ :: _, _, h, _ => by simp at h
 | [], [], _ :: _, _, h => by simp at h
 | _ :: _, [], _, h, _ => by simp at h
 | _ :: _, _ :: _, [], _, h => by simp at h
theorem Yj (hk : l.k = 6) : Q0 l a b = QaB l.ps a.ps b.ps := by
 rw [XT]; simp [hk]
theorem JU (hk : l.k = 7) {p q : Qs} (hp : l.ps = [p, q]) {x1 x2 y1 y2 : Qt} (ha : a.ps = [x1, x2]) (hb : b.ps = [y1, y2]) : Q0 l a b = true ↔ (x1 = y1 ∧ Q0 q x2 y2 = true) ∨ (x1 ≠ y1 ∧ Q0 p x1 y1 = true) := by
 rw [XT, hk, hp, ha, hb]
 simp only [show ((7 : Int) == 1) = false from rfl, show ((7 : Int) == 2) = false from rfl, show ((7 : Int) == 3) = false from rfl, show ((7 : Int) == 4) = false from rfl, show ((7 : Int) == 10) = false from rfl, show ((7 : Int) == 5) = false from rfl, show ((7 : Int) == 6) = false from rfl, show ((7 : Int) == 7) = true from rfl, Bool.or_self, Bool.false_eq_true, if_false, if_true, QlR]
 by_cases e : x1 = y1
 ·rw [if_pos ((Jm _ _).2 e)]; simp [e]
 rw [if_neg (fun h => e ((Jm _ _).1 h))]; simp [e]
theorem J1 (hk : l.k = 8) : Q0 l a b = true ↔ a.N = 0 ∨ b.N = 2 ∨ a = b := by
 rw [XT, hk]
 simp [Jm, or_assoc]
theorem Kb (hk : l.k = 9) (ha : Jv a.es) (hb : Jv b.es) : Q0 l a b = true ↔ ∀ x ∈ a.es, ∃ y ∈ b.es, leE x y := by
 rw [← Qhy ha.valid hb.valid, XT, hk]
 simp
end
theorem Qla {x y : En} (h1 : leE x y) (h2 : leE y x) : x = y := by
 rcases h1 with h1 | h1
 ·rcases h2 with h2 | h2
  ·exact absurd (Qax h1 h2) (Qdw _)
  exact h2.symm
 exact h1
theorem Qdy {l : List Nm} (h : l.Nodup) {i j : Nat} {s : Nm} (hi : l[i]? = some s) (hj : l[j]? = some s) : i = j := by
 obtain ⟨h1, h2⟩ := List.getElem?_eq_some_iff.1 hi
 obtain ⟨h3, h4⟩ := List.getElem?_eq_some_iff.1 hj
 rcases Nat.lt_trichotomy i j with e | e | e
 ·exact absurd (h2.trans h4.symm) (List.pairwise_iff_getElem.1 h i j h1 h3 e)
 ·exact e
 ·exact absurd (h4.trans h2.symm) (List.pairwise_iff_getElem.1 h j i h3 h1 e)
theorem QnB (l : Qs) (hO : Ys l) (ih : ∀ q ∈ l.ps, ∀ x, Qv x q = true → Q0 q x x = true) (a : Qt) (ha : Qv a l = true) : Q0 l a a = true := by
 rcases Qcf hO with hk | hk | hk | hk | hk | hk | hk | hk | hk | hk
 ·exact (Jg (.inl hk)).2 (Int.le_refl _)
 ·exact (Jg (.inr hk)).2 (Int.le_refl _)
 ·exact (Kt hk).2 (Int.le_refl _)
 ·exact (JD (.inl hk)).2 fun _ h => h
 ·obtain ⟨q, hp⟩ := Y5 hO hk
  obtain ⟨-, -, h3, h4, -, h6⟩ := Yp ha hk hp
  exact (Kf hk hp h3 h3 h4).2 fun i s p hs hpp => ⟨i, p, hs, hpp, ih q (by rw [hp]; simp) p (h6 p (List.mem_of_getElem? hpp)).1⟩
 ·obtain ⟨-, -, -, h4, h5⟩ := Jo ha (.inl hk)
  rw [Yj hk, JS h4 h4]
  intro k q x y e1 e2 e3
  rw [e2] at e3; cases e3
  exact ih q (List.mem_of_getElem? e1) x (Xt h5 e2 e1)
 ·obtain ⟨p, q, hp⟩ := YH hO.shape hk
  obtain ⟨x, y, e, h1, h2⟩ := JL ha hk hp
  exact (JU hk hp e e).2 (.inl ⟨rfl, ih q (by rw [hp]; simp) y h2⟩)
 ·exact (J1 hk).2 (.inr (.inr rfl))
 ·obtain ⟨-, -, -, h⟩ := YV ha hk
  exact (Kb hk h h).2 fun x hx => ⟨x, hx, Qbc x⟩
 exact (JD (.inr hk)).2 fun _ h => h
theorem KC (l : Qs) (hO : Ys l) (a : Qt) (ha : Qv a l = true) : Q0 l a a = true := QnB l hO (fun q hq x hx => KC q (hO.part q hq) x hx) a ha
termination_by l
decreasing_by exact Qs.sizeOf_ps ‹_›
theorem Qnz (l : Qs) (hO : Ys l) (ih : ∀ q ∈ l.ps, ∀ x y, Qv x q = true → Qv y q = true → Q0 q x y = true → Q0 q y x = true → x = y) (a b : Qt) (ha : Qv a l = true) (hb : Qv b l = true) (h1 : Q0 l a b = true) (h2 : Q0 l b a = true) : a = b := by
 have num : l.k = 1 ∨ l.k = 2 ∨ l.k = 3 → a.N = b.N → a = b := fun hk e => by
  obtain ⟨p1, p2, p3⟩ := Qle ha hk
  obtain ⟨q1, q2, q3⟩ := Qle hb hk
  exact Qt.ext_ e (by rw [p1, q1]) (by rw [p2, q2]) (by rw [p3, q3])
 have set : l.k = 4 ∨ l.k = 10 → a = b := fun hk => by
  obtain ⟨p1, p2, p3, p4, -⟩ := J5 ha hk
  obtain ⟨q1, q2, q3, q4, -⟩ := J5 hb hk
  exact Qt.ext_ (by rw [p1, q1]) (Qdo p4 q4 fun x => ⟨(JD hk).1 h1 x, (JD hk).1 h2 x⟩) (by rw [p2, q2]) (by rw [p3, q3])
 rcases Qcf hO with hk | hk | hk | hk | hk | hk | hk | hk | hk | hk
 ·exact num (.inl hk) (Int.le_antisymm ((Jg (.inl hk)).1 h1) ((Jg (.inl hk)).1 h2))
 ·exact num (.inr (.inl hk)) (Int.le_antisymm ((Jg (.inr hk)).1 h1) ((Jg (.inr hk)).1 h2))
 ·exact num (.inr (.inr hk)) (Int.le_antisymm ((Kt hk).1 h2) ((Kt hk).1 h1))
 ·exact set (.inl hk)
 ·obtain ⟨q, hp⟩ := Y5 hO hk
  obtain ⟨p1, p2, p3, p4, -, p6⟩ := Yp ha hk hp
  obtain ⟨q1, q2, q3, q4, -, q6⟩ := Yp hb hk hp
  have l1 := (Kf hk hp p3 q3 q4).1 h1
  have l2 := (Kf hk hp q3 p3 p4).1 h2
  have sub : ∀ {u v : Qt}, u.nm.length = u.ps.length → (∀ (i : Nat) (s : Nm) (p : Qt), u.nm[i]? = some s → u.ps[i]? = some p → ∃ (j : Nat) (y : Qt), v.nm[j]? = some s ∧ v.ps[j]? = some y ∧ Q0 q p y = true) → ∀ x ∈ u.nm, x ∈ v.nm := fun {u v} hl h x hx => by
   obtain ⟨i, hi⟩ := List.mem_iff_getElem?.1 hx
   have hlt := (List.getElem?_eq_some_iff.1 hi).1
   obtain ⟨j, y, hj, -, -⟩ := h i x _ hi (List.getElem?_eq_getElem (by omega))
   exact List.mem_of_getElem? hj
  have en : a.nm = b.nm := Qdo p4 q4 fun x => ⟨sub p3 l1 x, sub q3 l2 x⟩
  refine Qt.ext_ (by rw [p1, q1]) en (List.ext_getElem (by rw [← p3, ← q3, en]) fun i g1 g2 => ?_) (by rw [p2, q2])
  have e1 : a.ps[i]? = some a.ps[i] := List.getElem?_eq_getElem g1
  have e2 : b.ps[i]? = some b.ps[i] := List.getElem?_eq_getElem g2
  have hs : a.nm[i]? = some (a.nm[i]'(by omega)) := List.getElem?_eq_getElem (by omega)
  have hs2 : b.nm[i]? = some (a.nm[i]'(by omega)) := by rw [← en]; exact hs
  obtain ⟨j, y, hj, hy, hle⟩ := l1 i _ _ hs e1
  obtain ⟨j', y', hj', hy', hle'⟩ := l2 i _ _ hs2 e2
  have := Qdy (Qbw q4) hj hs2
  subst this
  have := Qdy (Qbw p4) hj' hs
  subst this
  rw [e2] at hy; cases hy
  rw [e1] at hy'; cases hy'
  exact ih q (by rw [hp]; simp) _ _ (p6 _ (List.getElem_mem g1)).1 (q6 _ (List.getElem_mem g2)).1 hle hle'
 ·obtain ⟨p1, p2, p3, p4, p5⟩ := Jo ha (.inl hk)
  obtain ⟨q1, q2, q3, q4, q5⟩ := Jo hb (.inl hk)
  rw [Yj hk, JS p4 q4] at h1
  rw [Yj hk, JS q4 p4] at h2
  refine Qt.ext_ (by rw [p1, q1]) (by rw [p2, q2]) (List.ext_getElem (by rw [p4, q4]) fun i g1 g2 => ?_) (by rw [p3, q3])
  have e1 : a.ps[i]? = some a.ps[i] := List.getElem?_eq_getElem g1
  have e2 : b.ps[i]? = some b.ps[i] := List.getElem?_eq_getElem g2
  have e3 : l.ps[i]? = some (l.ps[i]'(by omega)) := List.getElem?_eq_getElem (by omega)
  exact ih _ (List.mem_of_getElem? e3) _ _ (Xt p5 e1 e3) (Xt q5 e2 e3) (h1 i _ _ _ e3 e1 e2) (h2 i _ _ _ e3 e2 e1)
 ·obtain ⟨p, q, hp⟩ := YH hO.shape hk
  obtain ⟨p1, p2, p3, -, -⟩ := Jo ha (.inr hk)
  obtain ⟨q1, q2, q3, -, -⟩ := Jo hb (.inr hk)
  obtain ⟨x1, x2, ea, u1, u2⟩ := JL ha hk hp
  obtain ⟨y1, y2, eb, v1, v2⟩ := JL hb hk hp
  have ep : x1 = y1 ∧ x2 = y2 := by
   rcases (JU hk hp ea eb).1 h1 with ⟨e, g1⟩ | ⟨e, g1⟩
   ·rcases (JU hk hp eb ea).1 h2 with ⟨e', g2⟩ | ⟨e', g2⟩
    ·exact ⟨e, ih q (by rw [hp]; simp) _ _ u2 v2 g1 g2⟩
    exact absurd e.symm e'
   rcases (JU hk hp eb ea).1 h2 with ⟨e', g2⟩ | ⟨e', g2⟩
   ·exact absurd e'.symm e
   exact absurd (ih p (by rw [hp]; simp) _ _ u1 v1 g1 g2) e
  refine Qt.ext_ (by rw [p1, q1]) (by rw [p2, q2]) (by rw [ea, eb, ep.1, ep.2]) (by rw [p3, q3])
 ·have h1 := (J1 hk).1 h1
  have h2 := (J1 hk).1 h2
  rcases h1 with h1 | h1 | h1
  ·rcases h2 with h2 | h2 | h2
   ·rcases Qcz ha hk with ⟨-, e⟩ | ⟨e, -⟩
    ·rcases Qcz hb hk with ⟨-, e'⟩ | ⟨e', -⟩
     ·rw [e, e', h1, h2]
     omega
    omega
   ·omega
   exact h2.symm
  ·rcases h2 with h2 | h2 | h2
   ·omega
   ·rcases Qcz ha hk with ⟨-, e⟩ | ⟨e, -⟩
    ·rcases Qcz hb hk with ⟨-, e'⟩ | ⟨e', -⟩
     ·rw [e, e', h1, h2]
     omega
    omega
   exact h2.symm
  exact h1
 ·obtain ⟨p1, p2, p3, ra⟩ := YV ha hk
  obtain ⟨q1, q2, q3, rb⟩ := YV hb hk
  have h1 := (Kb hk ra rb).1 h1
  have h2 := (Kb hk rb ra).1 h2
  have one : ∀ {u v : List En}, Jv u → (∀ x ∈ u, ∃ y ∈ v, leE x y) → (∀ x ∈ v, ∃ y ∈ u, leE x y) → ∀ x ∈ u, x ∈ v := fun {u v} ru k1 k2 x hx => by
   obtain ⟨y, hy, g1⟩ := k1 x hx
   obtain ⟨z, hz, g2⟩ := k2 y hy
   have := ru.le_eq hx hz (QeH g1 g2)
   subst this
   rw [Qla g1 g2]; exact hy
  exact Qt.ext_ (by rw [p1, q1]) (by rw [p2, q2]) (by rw [p3, q3]) (ra.ext_ rb fun x => ⟨one ra h1 h2 x, one rb h2 h1 x⟩)
 exact set (.inr hk)
theorem WV (l : Qs) (hO : Ys l) (a b : Qt) (ha : Qv a l = true) (hb : Qv b l = true) (h1 : Q0 l a b = true) (h2 : Q0 l b a = true) : a = b := Qnz l hO (fun q hq x y hx hy => WV q (hO.part q hq) x y hx hy) a b ha hb h1 h2
termination_by l
decreasing_by exact Qs.sizeOf_ps ‹_›
theorem QmJ (l : Qs) (hO : Ys l) (ih : ∀ q ∈ l.ps, ∀ x y z, Qv x q = true → Qv y q = true → Qv z q = true → Q0 q x y = true → Q0 q y z = true → Q0 q x z = true) (a b c : Qt) (ha : Qv a l = true) (hb : Qv b l = true) (hc : Qv c l = true) (h1 : Q0 l a b = true) (h2 : Q0 l b c = true) : Q0 l a c = true := by
 have set : l.k = 4 ∨ l.k = 10 → Q0 l a c = true := fun hk => (JD hk).2 fun x hx => (JD hk).1 h2 x ((JD hk).1 h1 x hx)
 rcases Qcf hO with hk | hk | hk | hk | hk | hk | hk | hk | hk | hk
 ·exact (Jg (.inl hk)).2 (Int.le_trans ((Jg (.inl hk)).1 h1) ((Jg (.inl hk)).1 h2))
 ·exact (Jg (.inr hk)).2 (Int.le_trans ((Jg (.inr hk)).1 h1) ((Jg (.inr hk)).1 h2))
 ·exact (Kt hk).2 (Int.le_trans ((Kt hk).1 h2) ((Kt hk).1 h1))
 ·exact set (.inl hk)
 ·obtain ⟨q, hp⟩ := Y5 hO hk
  obtain ⟨-, -, p3, p4, -, p6⟩ := Yp ha hk hp
  obtain ⟨-, -, q3, q4, -, q6⟩ := Yp hb hk hp
  obtain ⟨-, -, r3, r4, -, r6⟩ := Yp hc hk hp
  have l1 := (Kf hk hp p3 q3 q4).1 h1
  have l2 := (Kf hk hp q3 r3 r4).1 h2
  refine (Kf hk hp p3 r3 r4).2 fun i s p hs hpp => ?_
  obtain ⟨j, y, hj, hy, g1⟩ := l1 i s p hs hpp
  obtain ⟨k, z, hk', hz, g2⟩ := l2 j s y hj hy
  exact ⟨k, z, hk', hz, ih q (by rw [hp]; simp) p y z (p6 p (List.mem_of_getElem? hpp)).1 (q6 y (List.mem_of_getElem? hy)).1 (r6 z (List.mem_of_getElem? hz)).1 g1 g2⟩
 ·obtain ⟨-, -, -, p4, p5⟩ := Jo ha (.inl hk)
  obtain ⟨-, -, -, q4, q5⟩ := Jo hb (.inl hk)
  obtain ⟨-, -, -, r4, r5⟩ := Jo hc (.inl hk)
  rw [Yj hk, JS p4 q4] at h1
  rw [Yj hk, JS q4 r4] at h2
  rw [Yj hk, JS p4 r4]
  intro k q x z e1 e2 e3
  have hlt := (List.getElem?_eq_some_iff.1 e1).1
  have ey : b.ps[k]? = some (b.ps[k]'(by omega)) := List.getElem?_eq_getElem (by omega)
  exact ih q (List.mem_of_getElem? e1) x _ z (Xt p5 e2 e1) (Xt q5 ey e1) (Xt r5 e3 e1) (h1 k q x _ e1 e2 ey) (h2 k q _ z e1 ey e3)
 ·obtain ⟨p, q, hp⟩ := YH hO.shape hk
  obtain ⟨x1, x2, ea, u1, u2⟩ := JL ha hk hp
  obtain ⟨y1, y2, eb, v1, v2⟩ := JL hb hk hp
  obtain ⟨z1, z2, ec, w1, w2⟩ := JL hc hk hp
  have mp : p ∈ l.ps := by rw [hp]; simp
  have mq : q ∈ l.ps := by rw [hp]; simp
  refine (JU hk hp ea ec).2 ?_
  rcases (JU hk hp ea eb).1 h1 with ⟨e, g1⟩ | ⟨e, g1⟩ <;> rcases (JU hk hp eb ec).1 h2 with ⟨e', g2⟩ | ⟨e', g2⟩
  ·exact .inl ⟨e.trans e', ih q mq _ _ _ u2 v2 w2 g1 g2⟩
  ·subst e; exact .inr ⟨e', g2⟩
  ·subst e'; exact .inr ⟨e, g1⟩
  refine .inr ⟨fun e2 => ?_, ih p mp _ _ _ u1 v1 w1 g1 g2⟩
  subst e2
  exact e (WV p (hO.part p mp) _ _ u1 v1 g1 g2)
 ·have h1 := (J1 hk).1 h1
  have h2 := (J1 hk).1 h2
  refine (J1 hk).2 ?_
  rcases h1 with h1 | h1 | h1
  ·exact .inl h1
  ·rcases h2 with h2 | h2 | h2
   ·omega
   ·exact .inr (.inl h2)
   subst h2; exact .inr (.inl h1)
  subst h1; exact h2
 ·obtain ⟨-, -, -, ra⟩ := YV ha hk
  obtain ⟨-, -, -, rb⟩ := YV hb hk
  obtain ⟨-, -, -, rc⟩ := YV hc hk
  have h1 := (Kb hk ra rb).1 h1
  have h2 := (Kb hk rb rc).1 h2
  refine (Kb hk ra rc).2 fun x hx => ?_
  obtain ⟨y, hy, g1⟩ := h1 x hx
  obtain ⟨z, hz, g2⟩ := h2 y hy
  exact ⟨z, hz, QeH g1 g2⟩
 exact set (.inr hk)
theorem Qew (l : Qs) (hO : Ys l) (a b c : Qt) (ha : Qv a l = true) (hb : Qv b l = true) (hc : Qv c l = true) (h1 : Q0 l a b = true) (h2 : Q0 l b c = true) : Q0 l a c = true := QmJ l hO (fun q hq x y z hx hy hz => Qew q (hO.part q hq) x y z hx hy hz) a b c ha hb hc h1 h2
termination_by l
decreasing_by exact Qs.sizeOf_ps ‹_›
theorem Wn {l : Qs} {a b : Qt} (hc : QK l = 0) (ha : Qv a l = true) (hb : Qv b l = true) : Qc9 l a b = Q0 l a b := by
 unfold Qc9 J6 Qav
 simp [hc, Ka, ha, hb]
theorem QoH {x y : Nm} (h : Op.bytesLess x y = false) (k : Op.bytesLess y x = false) : x = y := by
 have h1 := Jr x y
 have h2 := Jr y x
 rw [h] at h1
 rw [k] at h2
 have h3 := XU.anti x y
 have h4 := XU.anti y x
 refine XU.eq x y ?_
 simp only [Bool.false_eq_true, if_false] at h1 h2
 split at h1 <;> split at h2 <;> omega
abbrev pw (l : List Nm) : Prop := l.Pairwise (fun a b => Op.bytesLess a b = true)
theorem Qdt {b : Bool} {x z : Nm} {l : List Nm} : z ∈ Ku b x l ↔ (b = true ∧ z = x) ∨ z ∈ l := by
 unfold Ku; cases b <;> simp
theorem Qgk {b : Bool} {x : Nm} {l : List Nm} (h : pw l) (hx : ∀ z ∈ l, Op.bytesLess x z = true) : pw (Ku b x l) := by
 unfold Ku; cases b
 ·exact h
 exact List.Pairwise.cons hx h
theorem Qal {a b : Nm} (h : Op.bytesLess a b = true) : a ≠ b := fun e => by subst e; rw [Wu] at h; cases h
theorem Y3 (lf bo ri : Bool) : ∀ (n : Nat) (a b : List Nm), a.length + b.length ≤ n → pw a → pw b →
  pw (YK lf bo ri a b) ∧ (∀ z, z ∈ YK lf bo ri a b ↔ (z ∈ a ∧ z ∉ b ∧ lf = true) ∨ (z ∈ a ∧ z ∈ b ∧ bo = true) ∨ (z ∉ a ∧ z ∈ b ∧ ri = true)) ∧ (YK lf bo ri a b).length ≤ a.length + b.length
 | _, [], [], _, _, _ => ⟨List.Pairwise.nil, fun z => by simp [YK, WO], by simp [YK, WO]⟩
 | 0, _ :: _, _, h, _, _ => by simp at h
 | 0, [], _ :: _, h, _, _ => by simp at h
 | n + 1, x :: r, [], hl, ha, hb => by
  rw [QnL]
  have ha' := List.pairwise_cons.1 ha
  obtain ⟨i1, i2, i3⟩ := Y3 lf bo ri n r [] (by simp at hl ⊢; omega) ha'.2 hb
  have sub : ∀ z ∈ YK lf bo ri r [], z ∈ r := fun z hz => by
   rcases (i2 z).1 hz with h | h | h
   ·exact h.1
   ·exact h.1
   simp at h
  refine ⟨Qgk i1 fun z hz => ha'.1 z (sub z hz), fun z => ?_, ?_⟩
  ·rw [Qdt, i2]
   simp only [List.mem_cons, List.not_mem_nil, not_false_eq_true, true_and, false_and, and_false, or_false]
   constructor
   ·rintro (⟨h1, h2⟩ | ⟨h1, h2⟩)
    ·exact ⟨.inl h2, h1⟩
    exact ⟨.inr h1, h2⟩
   rintro ⟨h1 | h1, h2⟩
   ·exact .inl ⟨h2, h1⟩
   exact .inr ⟨h1, h2⟩
  unfold Ku; split <;> simp at i3 ⊢ <;> omega
 | n + 1, [], y :: s, hl, ha, hb => by
  rw [QnE]
  have hb' := List.pairwise_cons.1 hb
  obtain ⟨i1, i2, i3⟩ := Y3 lf bo ri n [] s (by simp at hl ⊢; omega) ha hb'.2
  have sub : ∀ z ∈ YK lf bo ri [] s, z ∈ s := fun z hz => by
   rcases (i2 z).1 hz with h | h | h
   ·simp at h
   ·simp at h
   exact h.2.1
  refine ⟨Qgk i1 fun z hz => hb'.1 z (sub z hz), fun z => ?_, ?_⟩
  ·rw [Qdt, i2]
   simp only [List.mem_cons, List.not_mem_nil, not_false_eq_true, true_and, false_and, false_or]
   constructor
   ·rintro (⟨h1, h2⟩ | ⟨h1, h2⟩)
    ·exact ⟨.inl h2, h1⟩
    exact ⟨.inr h1, h2⟩
   rintro ⟨h1 | h1, h2⟩
   ·exact .inl ⟨h2, h1⟩
   exact .inr ⟨h1, h2⟩
  unfold Ku; split <;> simp at i3 ⊢ <;> omega
 | n + 1, x :: r, y :: s, hl, ha, hb => by
  have ha' := List.pairwise_cons.1 ha
  have hb' := List.pairwise_cons.1 hb
  simp only [List.length_cons] at hl
  by_cases c1 : Op.bytesLess x y = true
  ·rw [QkU c1]
   obtain ⟨i1, i2, i3⟩ := Y3 lf bo ri n r (y :: s) (by simp; omega) ha'.2 hb
   have xs : ∀ z ∈ y :: s, Op.bytesLess x z = true := fun z hz => by
    rcases List.mem_cons.1 hz with rfl | hz
    ·exact c1
    exact K8 c1 (hb'.1 z hz)
   refine ⟨Qgk i1 fun z hz => ?_, fun z => ?_, ?_⟩
   ·rcases (i2 z).1 hz with h | h | h
    ·exact ha'.1 z h.1
    ·exact ha'.1 z h.1
    exact xs z h.2.1
   ·rw [Qdt, i2]
    by_cases e : z = x
    ·subst e
     have n1 : z ∉ r := fun h => Qal (ha'.1 z h) rfl
     have n2 : z ∉ y :: s := fun h => Qal (xs z h) rfl
     simp [n1]
     simp only [List.mem_cons, not_or] at n2
     simp [n2]
    simp [e]
   unfold Ku; split <;> simp at i3 ⊢ <;> omega
  rw [Bool.not_eq_true] at c1
  by_cases c2 : Op.bytesLess y x = true
  ·rw [Qk6 c1 c2]
   obtain ⟨i1, i2, i3⟩ := Y3 lf bo ri n (x :: r) s (by simp; omega) ha hb'.2
   have ys : ∀ z ∈ x :: r, Op.bytesLess y z = true := fun z hz => by
    rcases List.mem_cons.1 hz with rfl | hz
    ·exact c2
    exact K8 c2 (ha'.1 z hz)
   refine ⟨Qgk i1 fun z hz => ?_, fun z => ?_, ?_⟩
   ·rcases (i2 z).1 hz with h | h | h
    ·exact ys z h.1
    ·exact ys z h.1
    exact hb'.1 z h.2.1
   ·rw [Qdt, i2]
    by_cases e : z = y
    ·subst e
     have n1 : z ∉ s := fun h => Qal (hb'.1 z h) rfl
     have n2 : z ∉ x :: r := fun h => Qal (ys z h) rfl
     simp only [List.mem_cons, not_or] at n2
     simp [n1, n2]
    simp [e]
   unfold Ku; split <;> simp at i3 ⊢ <;> omega
  rw [Bool.not_eq_true] at c2
  have e0 := QoH c1 c2
  subst e0
  rw [Qlu c1 c2]
  obtain ⟨i1, i2, i3⟩ := Y3 lf bo ri n r s (by omega) ha'.2 hb'.2
  refine ⟨Qgk i1 fun z hz => ?_, fun z => ?_, ?_⟩
  ·rcases (i2 z).1 hz with h | h | h
   ·exact ha'.1 z h.1
   ·exact ha'.1 z h.1
   exact hb'.1 z h.2.1
  ·rw [Qdt, i2]
   by_cases e : z = x
   ·subst e
    have n1 : z ∉ r := fun h => Qal (ha'.1 z h) rfl
    have n2 : z ∉ s := fun h => Qal (hb'.1 z h) rfl
    simp [n1, n2]
   simp [e]
  unfold Ku; split <;> simp at i3 ⊢ <;> omega
abbrev WJ (a b : List Nm) : List Nm := YK true true true a b
theorem Qaw {a b : List Nm} (ha : Qn a = true) (hb : Qn b = true) {z : Nm} : z ∈ WJ a b ↔ z ∈ a ∨ z ∈ b := by
 rw [(Y3 true true true _ a b (Nat.le_refl _) (XS ha) (XS hb)).2.1 z]
 by_cases h1 : z ∈ a <;> by_cases h2 : z ∈ b <;> simp [h1, h2]
theorem QaS {a b : List Nm} (ha : Qn a = true) (hb : Qn b = true) : Qn (WJ a b) = true := WD (Y3 true true true _ a b (Nat.le_refl _) (XS ha) (XS hb)).1
theorem QeS {a b : List Nm} (ha : Qn a = true) (hb : Qn b = true) : (WJ a b).length ≤ a.length + b.length := (Y3 true true true _ a b (Nat.le_refl _) (XS ha) (XS hb)).2.2
inductive Wc (n : Nat) : Qt → Prop
 | mk (v : Qt) (h1 : v.nm.length ≤ n) (h2 : v.ps.length ≤ n) (h3 : v.es.length ≤ n) (h4 : ∀ e ∈ v.es, e.1.length ≤ 64) (h5 : ∀ p ∈ v.ps, Wc n p) : Wc n v
section
variable {n : Nat} {v : Qt}
theorem Wc.nm (h : Wc n v) : v.nm.length ≤ n := by cases h; assumption
theorem Wc.ps (h : Wc n v) : v.ps.length ≤ n := by cases h; assumption
theorem Wc.es (h : Wc n v) : v.es.length ≤ n := by cases h; assumption
theorem Wc.en (h : Wc n v) : ∀ e ∈ v.es, e.1.length ≤ 64 := by cases h; assumption
theorem Wc.part (h : Wc n v) : ∀ p ∈ v.ps, Wc n p := by cases h; assumption
theorem Wc.up {m : Nat} (hm : n ≤ m) (h : Wc n v) : Wc m v := by
 induction h with
 | mk v h1 h2 h3 h4 _ ih => exact .mk v (by omega) (by omega) (by omega) h4 ih
end
def YF (rs : List Ru) (s : List Nm) : List Nm := match rs.find? (fun r => Js r.i s && !XV s r.t) with | some r => s ++ [r.t] | none => s
def Jk (rs : List Ru) : Nat → List Nm → List Nm
 | 0, s => s
 | n + 1, s => Jk rs n (YF rs s)
def YE (u : List Nm) (rs : List Ru) (s : List Nm) : List Nm := u.filter (XV (Jk rs rs.length s))
mutual
def QD : Qs → Qt → Qt → Qt
 | .mk k lo hi nm ps rs, a, b =>
  if k == 4 then .mk 0 (WJ a.nm b.nm) [] []
  else if k == 10 then .mk 0 (YE nm rs (WJ a.nm b.nm)) [] []
  else if k == 9 then .mk 0 [] [] (XR a.es b.es)
  else if k == 5 then .mk 0 (WJ a.nm b.nm) (QhZ ps (WJ a.nm b.nm) a b) []
  else if k == 6 then .mk 0 [] (Y9 ps a.ps b.ps) []
  else match (if k == 7 then KA ps a.ps b.ps else none) with
   | some v => v
   | none => if Q0 (.mk k lo hi nm ps rs) a b then b else if Q0 (.mk k lo hi nm ps rs) b a then a else .mk 2 [] [] []
def QhZ : List Qs → List Nm → Qt → Qt → List Qt
 | [], _, _, _ => []
 | q :: _, u, a, b => u.map fun s => match Je a s, Je b s with
  | none, some y => y
  | some x, none => x
  | some x, some y => QD q x y
  | none, none => Qt.zero
def Y9 : List Qs → List Qt → List Qt → List Qt
 | q :: r, x :: a, y :: b => QD q x y :: Y9 r a b
 | _, _, _ => []
def KA : List Qs → List Qt → List Qt → Option Qt
 | [_, q], [x1, x2], [y1, y2] => if eqV x1 y1 then some (.mk 0 [] [x1, QD q x2 y2] []) else none
 | _, _, _ => none
end
def Jd (q : Qs) (a b : Qt) (s : Nm) : Qt := match Je a s, Je b s with
 | none, some y => y
 | some x, none => x
 | some x, some y => QD q x y
 | none, none => Qt.zero
theorem Qb7 (q : Qs) (r : List Qs) (u : List Nm) (a b : Qt) : QhZ (q :: r) u a b = u.map (Jd q a b) := by rw [QhZ]; rfl
theorem XA (l : Qs) (a b : Qt) : QD l a b =
  if l.k == 4 then .mk 0 (WJ a.nm b.nm) [] []
  else if l.k == 10 then .mk 0 (YE l.nm l.rs (WJ a.nm b.nm)) [] []
  else if l.k == 9 then .mk 0 [] [] (XR a.es b.es)
  else if l.k == 5 then .mk 0 (WJ a.nm b.nm) (QhZ l.ps (WJ a.nm b.nm) a b) []
  else if l.k == 6 then .mk 0 [] (Y9 l.ps a.ps b.ps) []
  else match (if l.k == 7 then KA l.ps a.ps b.ps else none) with
   | some v => v
   | none => if Q0 l a b then b else if Q0 l b a then a else .mk 2 [] [] [] := by
 cases l with
 | mk k lo hi nm ps rs => rw [QD]; rfl
section
variable {a b : Qt} {q : Qs} {s : Nm} {x y : Qt}
theorem QoD (h1 : Je a s = none) (h2 : Je b s = some y) : Jd q a b s = y := by unfold Jd; rw [h1, h2]
theorem QoR (h1 : Je a s = some x) (h2 : Je b s = none) : Jd q a b s = x := by unfold Jd; rw [h1, h2]
theorem Qo2 (h1 : Je a s = some x) (h2 : Je b s = some y) : Jd q a b s = QD q x y := by unfold Jd; rw [h1, h2]
end
theorem Qfz {u : List Nm} {f : Nm → Qt} {k : Nat} {s : Nm} {y : Qt} (h : u[k]? = some s) (hf : f s = y) : (((u.take k).map f).map YR) ++ X2 4 1 (QH y) = (((u.take (k + 1)).map f).map YR) := by
 have : X2 4 1 (QH y) = [YR y] := by rw [WB]; rfl
 rw [this, List.take_add_one, h, ← hf]; simp
theorem QeM : ∀ {ls : List Qs} {xs ys : List Qt}, xs.length = ls.length → ys.length = ls.length → (Y9 ls xs ys).length = ls.length
 | [], [], [], _, _ => by simp [Y9]
 | q :: r, x :: a, y :: b, h1, h2 => by rw [Y9]; simp [QeM (ls := r) (by simpa using h1) (by simpa using h2)]
 | [], _ :: _, _, h, _ => by simp at h
 | [], [], _ :: _, _, h => by simp at h
 | _ :: _, [], _, h, _ => by simp at h
 | _ :: _, _ :: _, [], _, h => by simp at h
theorem Qff : ∀ {ls : List Qs} {xs ys : List Qt} {k : Nat} {q : Qs} {x y : Qt}, ls[k]? = some q → xs[k]? = some x → ys[k]? = some y → (Y9 ls xs ys)[k]? = some (QD q x y)
 | q :: r, x :: a, y :: b, 0, q', x', y', h1, h2, h3 => by simp at h1 h2 h3; subst h1 h2 h3; rw [Y9]; rfl
 | q :: r, x :: a, y :: b, k + 1, q', x', y', h1, h2, h3 => by rw [Y9]; exact Qff (ls := r) (by simpa using h1) (by simpa using h2) (by simpa using h3)
 | [], _, _, _, _, _, _, h, _, _ => by simp at h
 | _ :: _, [], _, _, _, _, _, _, h, _ => by simp at h
 | _ :: _, _ :: _, [], _, _, _, _, _, _, h => by simp at h
theorem Qia {l : List Qt} {k : Nat} {y : Qt} (h : l[k]? = some y) : ((l.take k).map YR) ++ X2 4 1 (QH y) = ((l.take (k + 1)).map YR) := by
 have : X2 4 1 (QH y) = [YR y] := by rw [WB]; rfl
 rw [this, List.take_add_one, h]; simp
end Go.Proofs.YtnkkokmmeplbgaaGreat
