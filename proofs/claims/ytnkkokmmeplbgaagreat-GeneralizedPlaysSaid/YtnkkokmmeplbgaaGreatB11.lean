/-
  Plain laws: values are compared by a total order; clocks, en
-/
import Derived.Test.YtnkkokmmeplbgaaGreatB10
import Derived.Test.YtnkkokmmeplbgaaGreatB4
namespace Go.Proofs.YtnkkokmmeplbgaaGreat
open Go.RowKit
theorem QkI {α β : Type} (c : α → α → Int) (f : β → α) : ∀ a b : List β, Xt c (a.map f) (b.map f) = Xt (fun x y => c (f x) (f y)) a b
 | [], [] => rfl
 | [], _ :: _ => rfl
 | _ :: _, [] => rfl
 | x :: a, y :: b => by simp only [List.map, Xt]; rw [QkI c f a b]
abbrev VS (n : Nat) := {v : Qp // SizeOf.sizeOf v < n}
def VS.down {n : Nat} (v : VS (n + 1)) : List (VS n) := v.1.ps.attach.map fun p => ⟨p.1, by have := Qp.sizeOf_ps p.2; have := v.2; omega⟩
theorem VS.down_map {n : Nat} (v : VS (n + 1)) : v.down.map Subtype.val = v.1.ps := by
 unfold VS.down; rw [List.map_map]; exact List.attach_map_subtype_val _
theorem QeF : ∀ n, WK (fun x y : VS n => JF x.1 y.1)
 | 0 => ⟨fun x => absurd x.2 (Nat.not_lt_zero _), fun x => absurd x.2 (Nat.not_lt_zero _), fun x => absurd x.2 (Nat.not_lt_zero _)⟩
 | n + 1 => by
  have ih := QeF n
  have h3 := Qe5 (α := List (VS n) × List En) Prod.fst Prod.snd (Qfe ih) (Qfe Jo) (fun x y h1 h2 => Prod.ext h1 h2)
  have h2 := Qe5 (α := List Nm × (List (VS n) × List En)) Prod.fst Prod.snd (Qfe J9) h3 (fun x y h1 h2 => Prod.ext h1 h2)
  have h1 := Qe5 (α := VS (n + 1)) (fun v => v.1.N) (fun v => (v.1.nm, (v.down, v.1.es))) Km h2 (fun x y e1 e2 => by
   have e3 := congrArg Prod.fst e2
   have e4 := congrArg (fun p => p.2.1) e2
   have e5 := congrArg (fun p => p.2.2) e2
   simp only at e3 e4 e5
   have e6 : x.1.ps = y.1.ps := by rw [← VS.down_map, ← VS.down_map, e4]
   apply Subtype.ext
   rw [← Qp.eta x.1, ← Qp.eta y.1, e1, e3, e6, e5])
  refine Eq.mpr (congrArg WK ?_) h1
  funext x y
  rw [KP, ← VS.down_map x, ← VS.down_map y, QkI, Qf9]
  simp only [Qm0]
  by_cases c1 : Lib.compareInt x.1.N y.1.N = 0
  ·by_cases c2 : Xt Lib.compareBytes x.1.nm y.1.nm = 0
   ·by_cases c3 : Xt (fun x y : VS n => JF x.1 y.1) x.down y.down = 0
    ·simp only [c1, c2, c3, ne_eq, not_true, if_true, if_false]
    simp only [c1, c2, c3, ne_eq, not_true, not_false_eq_true, if_true, if_false]
   simp only [c1, c2, ne_eq, not_true, not_false_eq_true, if_true, if_false]
  simp only [c1, ne_eq, not_false_eq_true, if_true, if_false]
theorem QiF : WK JF where
 anti x y := (QeF (SizeOf.sizeOf x + SizeOf.sizeOf y + 1)).anti ⟨x, by omega⟩ ⟨y, by omega⟩
 trans x y z := (QeF (SizeOf.sizeOf x + SizeOf.sizeOf y + SizeOf.sizeOf z + 1)).trans ⟨x, by omega⟩ ⟨y, by omega⟩ ⟨z, by omega⟩
 eq x y h := congrArg Subtype.val ((QeF (SizeOf.sizeOf x + SizeOf.sizeOf y + 1)).eq ⟨x, by omega⟩ ⟨y, by omega⟩ h)
theorem Jl (x y : Qp) : WH x y = true ↔ x = y := by
 unfold WH; rw [beq_iff_eq]
 exact ⟨QiF.eq x y, fun h => h ▸ QiF.refl x⟩
theorem YV {last : Int} {t : Tk} : Qdd last t = true ↔ last < t.1 ∧ t.1 ≤ 63 ∧ 1 ≤ t.2 ∧ t.2 ≤ 1000000000000000 := by
 simp only [Qdd, Bool.not_eq_true', Bool.or_eq_false_iff, decide_eq_false_iff_not]; omega
theorem K0 {last : Int} {x : Tk} {r : List Tk} : QV last (x :: r) = true ↔ Qdd last x = true ∧ QV x.1 r = true := by
 rw [QV, Bool.and_eq_true]
theorem XT (x : Tk) (r : List Tk) (p : Int) : QdH (x :: r) p = if x.1 = p then x.2 else QdH r p := by
 unfold QdH
 rw [List.find?_cons]
 by_cases h : x.1 = p
 ·rw [if_pos h, show (x.1 == p) = true from beq_iff_eq.2 h]
 rw [if_neg h, show (x.1 == p) = false from beq_eq_false_iff_ne.2 h]
theorem Qas : ∀ (l : List Tk) (last p : Int), QV last l = true → p ≤ last → QdH l p = 0
 | [], _, _, _, _ => rfl
 | x :: r, last, p, h, hp => by
  obtain ⟨h1, h2⟩ := K0.1 h
  have := YV.1 h1
  rw [XT, if_neg (by omega)];exact Qas r x.1 p h2 (by omega)
theorem Qdp : ∀ (l : List Tk) (last p : Int), QV last l = true → 0 ≤ QdH l p
 | [], _, _, _ => Int.le_refl _
 | x :: r, last, p, h => by
  obtain ⟨h1, h2⟩ := K0.1 h
  have := YV.1 h1
  rw [XT]
  split
  ·omega
  exact Qdp r x.1 p h2
def cle (a b : List Tk) : Prop := ∀ p, QdH a p ≤ QdH b p
theorem Qht (a : List Tk) : cle a a := fun _ => Int.le_refl _
theorem QiD {a b c : List Tk} (h : cle a b) (k : cle b c) : cle a c := fun p => Int.le_trans (h p) (k p)
theorem Qjj {p k : Int} {l : List Tk} (h : k > 0) : QcB p k l ≠ [] := by unfold QcB; rw [if_pos h]; simp
theorem Qi3 {p k : Int} {l : List Tk} (h : ¬ k > 0) : QcB p k l = l := by unfold QcB; rw [if_neg h]
theorem Qnz {l : List Tk} {a b : Int} (h : QV a l = true) (hb : ∀ x r, l = x :: r → b < x.1) : QV b l = true := by
 cases l with
 | nil => rfl
 | cons x r =>
  obtain ⟨h1, h2⟩ := K0.1 h
  have := YV.1 h1
  have := hb x r rfl
  exact K0.2 ⟨YV.2 ⟨by omega, by omega, by omega, by omega⟩, h2⟩
theorem QeU : ∀ (n : Nat) (a b : List Tk) (l1 l2 : Int), a.length + b.length ≤ n → QV l1 a = true → QV l2 b = true → (Wb KO a b = [] ↔ cle a b)
 | _, [], [], _, _, _, _, _ => ⟨fun _ => Qht _, fun _ => rfl⟩
 | 0, _ :: _, _, _, _, h, _, _ => by simp at h
 | 0, [], _ :: _, _, _, h, _, _ => by simp at h
 | n + 1, x :: r, [], l1, l2, _, ha, _ => by
  obtain ⟨h1, h2⟩ := K0.1 ha
  have := YV.1 h1
  rw [QuA];refine ⟨fun h => absurd h (Qjj ?_), fun h => ?_⟩
  ·unfold KO; split <;> omega
  have h3 := h x.1
  rw [XT, if_pos rfl] at h3
  have : QdH [] x.1 = 0 := rfl
  omega
 | n + 1, [], y :: s, l1, l2, hl, ha, hb => by
  obtain ⟨h1, h2⟩ := K0.1 hb
  have := YV.1 h1
  rw [Qvm, Qi3 (by unfold KO; split <;> omega), QeU n [] s l1 y.1 (by simp at hl ⊢; omega) ha h2];exact ⟨fun _ p => Qdp _ _ p hb, fun _ p => Qdp _ _ p h2⟩
 | n + 1, x :: r, y :: s, l1, l2, hl, ha, hb => by
  obtain ⟨h1, h2⟩ := K0.1 ha;obtain ⟨k1, k2⟩ := K0.1 hb
  have o1 := YV.1 h1
  have o2 := YV.1 k1
  simp only [List.length_cons] at hl
  by_cases e1 : x.1 < y.1
  ·rw [QrV e1]
   refine ⟨fun h => absurd h (Qjj (by unfold KO; split <;> omega)), fun h => ?_⟩
   have h3 := h x.1
   have hb' : QV x.1 (y :: s) = true := Qnz hb (fun z q e => by cases e; exact e1)
   rw [XT, if_pos rfl, Qas _ _ _ hb' (Int.le_refl _)] at h3
   omega
  by_cases e2 : y.1 < x.1
  ·rw [Qr0 e1 e2, Qi3 (by unfold KO; split <;> omega), QeU n (x :: r) s l1 y.1 (by simp; omega) ha k2]
   have ha' : QV y.1 (x :: r) = true := Qnz ha (fun z q e => by cases e; exact e2)
   constructor
   ·intro h p
    rw [XT y]
    by_cases hp : y.1 = p
    ·rw [if_pos hp, ← hp, Qas _ _ _ ha' (Int.le_refl _)]; omega
    rw [if_neg hp]; exact h p
   intro h p
   have := h p
   rw [XT y] at this
   by_cases hp : y.1 = p
   ·rw [← hp, Qas _ _ _ ha' (Int.le_refl _)]; exact Qdp _ _ _ k2
   rw [if_neg hp] at this; exact this
  have e : x.1 = y.1 := by omega
  rw [Qrl e1 e2]
  by_cases hg : x.2 > y.2
  ·refine ⟨fun h => absurd h (Qjj (by unfold KO; rw [if_pos hg]; omega)), fun h => ?_⟩
   have := h x.1
   rw [XT, if_pos rfl, XT, if_pos e.symm] at this
   omega
  rw [Qi3 (by unfold KO; rw [if_neg hg]; omega), QeU n r s x.1 y.1 (by omega) h2 k2]
  constructor
  ·intro h p
   rw [XT, XT, ← e]
   by_cases hp : x.1 = p
   ·rw [if_pos hp, if_pos hp]; omega
   rw [if_neg hp, if_neg hp]; exact h p
  intro h p
  have := h p
  rw [XT, XT, ← e] at this
  by_cases hp : x.1 = p
  ·rw [← hp, Qas _ _ _ h2 (Int.le_refl _)]; exact Qdp _ _ _ k2
  rw [if_neg hp, if_neg hp] at this; exact this
theorem QnK : ∀ (a b : List Tk) (l1 l2 : Int), QV l1 a = true → QV l2 b = true → cle a b → cle b a → a = b
 | [], [], _, _, _, _, _, _ => rfl
 | x :: r, [], _, _, ha, _, h, _ => by
  have := YV.1 (K0.1 ha).1
  have := h x.1
  rw [XT, if_pos rfl] at this
  have : QdH [] x.1 = 0 := rfl
  omega
 | [], y :: s, _, _, _, hb, _, h => by
  have := YV.1 (K0.1 hb).1
  have := h y.1
  rw [XT, if_pos rfl] at this
  have : QdH [] y.1 = 0 := rfl
  omega
 | x :: r, y :: s, l1, l2, ha, hb, h, k => by
  obtain ⟨h1, h2⟩ := K0.1 ha;obtain ⟨k1, k2⟩ := K0.1 hb
  have o1 := YV.1 h1
  have o2 := YV.1 k1
  have e : x.1 = y.1 := by
   rcases Int.lt_trichotomy x.1 y.1 with e | e | e
   ·have h3 := h x.1
    rw [XT, if_pos rfl, Qas _ _ _ (Qnz hb (fun z q e' => by cases e'; exact e)) (Int.le_refl _)] at h3
    omega
   ·exact e
   have h3 := k y.1
   rw [XT, if_pos rfl, Qas _ _ _ (Qnz ha (fun z q e' => by cases e'; exact e)) (Int.le_refl _)] at h3
   omega
  have e2 : x.2 = y.2 := by
   have h3 := h x.1
   have h4 := k x.1
   rw [XT, if_pos rfl, XT, if_pos e.symm] at h3;rw [XT, if_pos e.symm, XT, if_pos rfl] at h4
   omega
  have e3 : x = y := Prod.ext e e2
  subst e3
  have tl : ∀ (u v : List Tk), QV x.1 u = true → QV x.1 v = true → cle (x :: u) (x :: v) → cle u v := fun u v hu hv h p => by
   have := h p
   rw [XT, XT] at this
   by_cases hp : x.1 = p
   ·rw [← hp, Qas _ _ _ hu (Int.le_refl _)]; exact Qdp _ _ _ hv
   rw [if_neg hp, if_neg hp] at this; exact this
  rw [QnK r s x.1 x.1 h2 k2 (tl _ _ h2 k2 h) (tl _ _ k2 h2 k)]
open Classical in
theorem QjN {a b : List Tk} (ha : QV (-1) a = true) (hb : QV (-1) b = true) : QeB a b = if cle a b then (if cle b a then 0 else 1) else if cle b a then 2 else 3 := by
 have e : ∀ a b : List Tk, QV (-1) a = true → QV (-1) b = true → ((Qfz a b).length == 0) = decide (cle a b) := fun a b ha hb => by
  unfold Qfz QiU
  rw [ha, hb, Bool.and_self, if_pos rfl]
  have := QeU _ a b (-1) (-1) (Nat.le_refl _) ha hb
  by_cases h : cle a b
  ·rw [this.2 h]; simp [h]
  have h2 : Wb KO a b ≠ [] := fun e => h (this.1 e)
  have h3 : (Wb KO a b).length ≠ 0 := fun e => h2 (List.eq_nil_of_length_eq_zero e)
  simp [h, h3]
 unfold QeB
 rw [ha, hb, e a b ha hb, e b a hb ha]
 simp
def ltE (x y : En) : Prop := cle x.1 y.1 ∧ ¬ cle y.1 x.1
def leE (x y : En) : Prop := ltE x y ∨ x = y
theorem Qea (x : En) : ¬ ltE x x := fun h => h.2 h.1
theorem QdD {x y z : En} (h1 : ltE x y) (h2 : ltE y z) : ltE x z := ⟨QiD h1.1 h2.1, fun h => h2.2 (QiD h h1.1)⟩
theorem Qet (x : En) : leE x x := .inr rfl
theorem QiZ {x y z : En} (h1 : leE x y) (h2 : leE y z) : leE x z := by
 rcases h1 with h1 | rfl
 ·rcases h2 with h2 | rfl
  ·exact .inl (QdD h1 h2)
  exact .inl h1
 exact h2
theorem QtK {x y z : En} (h1 : ltE x y) (h2 : leE y z) : ltE x z := by
 rcases h2 with h2 | rfl
 ·exact QdD h1 h2
 exact h1
theorem Qtv {x y z : En} (h1 : leE x y) (h2 : ltE y z) : ltE x z := by
 rcases h1 with h1 | rfl
 ·exact QdD h1 h2
 exact h2
theorem Qa7 {x y : En} (hx : QV (-1) x.1 = true) (hy : QV (-1) y.1 = true) : Qcb x y = true ↔ leE x y := by
 unfold Qcb
 rw [QjN hx hy]
 by_cases h1 : cle x.1 y.1 <;> by_cases h2 : cle y.1 x.1
 ·have e := QnK _ _ _ _ hx hy h1 h2
  simp only [h1, h2, if_true]
  constructor
  ·intro h; exact .inr (Prod.ext e (by simpa using h))
  rintro (h | rfl)
  ·exact absurd h2 h.2
  simp
 ·simp only [h1, h2, if_true, if_false]
  exact ⟨fun _ => .inl ⟨h1, h2⟩, fun _ => by simp⟩
 ·simp only [h1, h2, if_true, if_false]
  exact ⟨fun h => by simp at h, fun h => by
   rcases h with h | rfl
   ·exact absurd h.1 h1
   exact absurd (Qht _) h1⟩
 simp only [h1, h2, if_false]
 exact ⟨fun h => by simp at h, fun h => by
  rcases h with h | rfl
  ·exact absurd h.1 h1
  exact absurd (Qht _) h1⟩
theorem Qir {x y : En} (hx : QV (-1) x.1 = true) (hy : QV (-1) y.1 = true) : Qn5 x y = true ↔ ltE x y := by
 unfold Qn5 ltE
 rw [QjN hx hy]
 by_cases h1 : cle x.1 y.1 <;> by_cases h2 : cle y.1 x.1 <;> simp [h1, h2]
theorem QgD {x y : En} (hx : QV (-1) x.1 = true) (hy : QV (-1) y.1 = true) : QeR x y = true ↔ ¬ ltE x y ∧ ¬ ltE y x := by
 unfold QeR ltE
 rw [QjN hx hy]
 by_cases h1 : cle x.1 y.1 <;> by_cases h2 : cle y.1 x.1 <;> simp [h1, h2]
structure J0 (es : List En) : Prop where
 valid : ∀ x ∈ es, QV (-1) x.1 = true
 ne : ∀ x ∈ es, x.1 ≠ []
 name : ∀ x ∈ es, XP x.2 = true
 sorted : es.Pairwise (fun x y => Jh x y < 0)
 anti : ∀ x ∈ es, ∀ y ∈ es, ¬ ltE x y
theorem Qtu {x y z : En} (h1 : Jh x y < 0) (h2 : Jh y z < 0) : Jh x z < 0 := by
 have := (Jo.swo (fun x : En => x)).trans x y z (decide_eq_true h1) (decide_eq_true h2)
 exact of_decide_eq_true this
theorem WP : ∀ (es : List En), (∀ j e d, es[j + 1]? = some e → es[j]? = some d → Jh d e < 0) → es.Pairwise (fun x y => Jh x y < 0)
 | [], _ => List.Pairwise.nil
 | [_], _ => List.pairwise_singleton _ _
 | a :: b :: r, h => by
  have ih := WP (b :: r) (fun j e d he hd => h (j + 1) e d (by simpa using he) (by simpa using hd))
  have hab := h 0 b a rfl rfl
  refine List.Pairwise.cons (fun y hy => ?_) ih
  rcases List.mem_cons.1 hy with rfl | hy
  ·exact hab
  exact Qtu hab ((List.pairwise_cons.1 ih).1 y hy)
theorem Qjq {l : List En} : Qju l = true ↔ ∀ k x, l[k]? = some x → Qen l x k = true := by
 unfold Qju
 rw [List.all_eq_true]
 constructor
 ·intro h k x hx
  exact h (x, k) (List.mem_of_getElem? (XI hx))
 rintro h ⟨x, k⟩ hm;obtain ⟨i, hi⟩ := List.mem_iff_getElem?.1 hm
 have h2 := (List.getElem?_eq_some_iff.1 hi).1
 rw [Qba] at h2
 have h3 := XI (List.getElem?_eq_getElem h2)
 rw [hi] at h3
 cases h3
 exact h k _ (List.getElem?_eq_getElem h2)
theorem QgB {l : List En} {k : Nat} {x : En} (hx : l[k]? = some x) : Qen l x k = true ↔ x.1 ≠ [] ∧ QV (-1) x.1 = true ∧ XP x.2 = true ∧ (∀ y, 0 < k → l[k - 1]? = some y → Jh y x < 0) ∧ ∀ y ∈ l.take k, QeR x y = true := by
 have hkl := (List.getElem?_eq_some_iff.1 hx).1
 unfold Qen
 simp only [Bool.and_eq_true, Bool.not_eq_true', List.all_eq_true, and_assoc]
 refine and_congr ?_ (and_congr Iff.rfl (and_congr Iff.rfl (and_congr ?_ Iff.rfl)))
 ·cases x.1 <;> simp; omega
 by_cases hk : 0 < k
 ·have h1 : l[k - 1]? = some l[k - 1] := List.getElem?_eq_getElem (by omega)
  have h0 : ((k : Int) > 0) := by omega
  rw [h1]
  simp [hk]
 have h0 : ¬ ((k : Int) > 0) := by omega
 simp only [h0, decide_false, Bool.false_and]
 exact ⟨fun _ y h => absurd h hk, fun _ => trivial⟩
theorem J0.of {es : List En} (h : Qju es = true) : J0 es := by
 have h' := fun k x hx => (QgB hx).1 (Qjq.1 h k x hx)
 have hj : ∀ x ∈ es, ∃ j : Nat, es[j]? = some x := fun x hx => List.mem_iff_getElem?.1 hx
 have hv : ∀ x ∈ es, QV (-1) x.1 = true := fun x hx => by obtain ⟨j, hj⟩ := hj x hx; exact (h' j x hj).2.1
 refine ⟨hv, fun x hx => ?_, fun x hx => ?_, ?_, fun x hx y hy hlt => ?_⟩
 ·obtain ⟨j, hj⟩ := hj x hx; exact (h' j x hj).1
 ·obtain ⟨j, hj⟩ := hj x hx; exact (h' j x hj).2.2.1
 ·exact WP es (fun j e d he hd => (h' (j + 1) e he).2.2.2.1 d (by omega) hd)
 obtain ⟨j, hj⟩ := hj x hx;obtain ⟨k, hk⟩ := List.mem_iff_getElem?.1 hy
 rcases Nat.lt_trichotomy j k with e | e | e
 ·have hm : x ∈ es.take k := by rw [List.mem_take_iff_getElem]; obtain ⟨g1, g2⟩ := List.getElem?_eq_some_iff.1 hj; exact ⟨j, by omega, g2⟩
  exact ((QgD (hv y hy) (hv x hx)).1 ((h' k y hk).2.2.2.2 x hm)).2 hlt
 ·subst e
  rw [hj] at hk; cases hk
  exact Qea _ hlt
 have hm : y ∈ es.take j := by rw [List.mem_take_iff_getElem]; obtain ⟨g1, g2⟩ := List.getElem?_eq_some_iff.1 hk; exact ⟨k, by omega, g2⟩
 exact ((QgD (hv x hx) (hv y hy)).1 ((h' j x hj).2.2.2.2 y hm)).1 hlt
theorem J0.regB_ {es : List En} (h : J0 es) : Qju es = true := by
 refine Qjq.2 fun k x hx => (QgB hx).2 ?_
 have hm := List.mem_of_getElem? hx
 refine ⟨h.ne x hm, h.valid x hm, h.name x hm, fun y hk hy => ?_, fun y hy => ?_⟩
 ·obtain ⟨h1, rfl⟩ := List.getElem?_eq_some_iff.1 hx
  obtain ⟨h2, rfl⟩ := List.getElem?_eq_some_iff.1 hy;exact List.pairwise_iff_getElem.1 h.sorted (k - 1) k h2 h1 (by omega)
 have hy := List.mem_of_mem_take hy
 exact (QgD (h.valid x hm) (h.valid y hy)).2 ⟨h.anti x hm y hy, h.anti y hy x hm⟩
theorem J0.nodup {es : List En} (h : J0 es) : es.Nodup := h.sorted.imp (fun {a b} h e => by subst e; rw [Jo.refl] at h; exact absurd h (by decide))
theorem QdV {a b : List En} (hp : a.Perm b) (ha : a.Pairwise (fun x y => Jh x y ≤ 0)) (hb : b.Pairwise (fun x y => Jh x y ≤ 0)) : a = b :=
 hp.eq_of_pairwise (fun x y _ _ h1 h2 => Jo.eq x y (by have := Jo.anti y x; omega)) ha hb
theorem J0.ext_ {a b : List En} (ha : J0 a) (hb : J0 b) (h : ∀ x, x ∈ a ↔ x ∈ b) : a = b :=
 QdV ((List.perm_ext_iff_of_nodup ha.nodup hb.nodup).2 h) (ha.sorted.imp (fun h => by omega)) (hb.sorted.imp (fun h => by omega))
theorem J0.le_eq {es : List En} (h : J0 es) {x y : En} (hx : x ∈ es) (hy : y ∈ es) (hl : leE x y) : x = y := by
 rcases hl with hl | hl
 ·exact absurd hl (h.anti x hx y hy)
 exact hl
theorem Qbq {x : En} {es : List En} (hx : QV (-1) x.1 = true) (hv : ∀ y ∈ es, QV (-1) y.1 = true) : J1 es x = true ↔ ∃ y ∈ es, leE x y := by
 unfold J1
 rw [List.any_eq_true];exact ⟨fun ⟨y, hy, h⟩ => ⟨y, hy, (Qa7 hx (hv y hy)).1 h⟩, fun ⟨y, hy, h⟩ => ⟨y, hy, (Qa7 hx (hv y hy)).2 h⟩⟩
theorem QmH {a b : List En} (ha : ∀ x ∈ a, QV (-1) x.1 = true) (hb : ∀ x ∈ b, QV (-1) x.1 = true) : a.all (J1 b) = true ↔ ∀ x ∈ a, ∃ y ∈ b, leE x y := by
 rw [List.all_eq_true];exact ⟨fun h x hx => (Qbq (ha x hx) hb).1 (h x hx), fun h x hx => (Qbq (ha x hx) hb).2 (h x hx)⟩
theorem Yn {l : List Nm} {s : Nm} : X6 l s = true ↔ s ∈ l := by
 unfold X6; rw [List.any_eq_true]
 exact ⟨fun ⟨x, hx, h⟩ => by rw [beq_iff_eq] at h; exact h ▸ hx, fun h => ⟨s, h, by simp⟩⟩
theorem Ka {a b : List Nm} : J6 a b = true ↔ ∀ x ∈ a, x ∈ b := by
 unfold J6; rw [List.all_eq_true]
 exact ⟨fun h x hx => Yn.1 (h x hx), fun h x hx => Yn.2 (h x hx)⟩
theorem Qsz {a b : Nm} (h : Op.bytesLess a b = true) (k : Op.bytesLess b a = true) : False := by
 have := Qbc h k; rw [Qcc] at this; cases this
theorem Qp5 : ∀ {a b : List Nm}, a.Pairwise (fun a b => Op.bytesLess a b = true) → b.Pairwise (fun a b => Op.bytesLess a b = true) → (∀ x, x ∈ a ↔ x ∈ b) → a = b := fun {a b} ha hb h => by
 have na : a.Nodup := ha.imp (fun {x y} h e => by subst e; rw [Qcc] at h; cases h)
 have nb : b.Nodup := hb.imp (fun {x y} h e => by subst e; rw [Qcc] at h; cases h)
 exact ((List.perm_ext_iff_of_nodup na nb).2 h).eq_of_pairwise (fun x y _ _ h1 h2 => absurd h2 fun h2 => Qsz h1 h2) ha hb
theorem Qd7 {a b : List Nm} (ha : Qt a = true) (hb : Qt b = true) (h : ∀ x, x ∈ a ↔ x ∈ b) : a = b := Qp5 (XU ha) (XU hb) h
theorem W1 : ∀ {l : List Nm}, l.Pairwise (fun a b => Op.bytesLess a b = true) → Qt l = true
 | [], _ => rfl
 | [_], _ => rfl
 | a :: b :: l, h => by
  show (Op.bytesLess a b && Qt (b :: l)) = true
  rw [List.pairwise_cons] at h
  rw [h.1 b (by simp), W1 h.2]; rfl
theorem Qb2 {l : List Nm} (h : Qt l = true) : l.Nodup := (XU h).imp (fun {x y} h e => by subst e; rw [Qcc] at h; cases h)
theorem QfH {s : Nm} : ∀ (l : List Nm) (i k : Nat), l.Nodup → l[k]? = some s → Xu s l i = ((i + k : Nat) : Int)
 | [], _, _, _, h => by simp at h
 | x :: l, i, 0, _, h => by
  simp at h; subst h
  unfold Xu; simp
 | x :: l, i, k + 1, hn, h => by
  rw [List.nodup_cons] at hn
  have h : l[k]? = some s := by simpa using h
  have hne : (s == x) = false := by
   rw [beq_eq_false_iff_ne]
   intro e; subst e
   exact hn.1 (List.mem_of_getElem? h)
  unfold Xu
  rw [hne]
  simp only [Bool.false_eq_true, if_false]
  rw [QfH l (i + 1) k hn.2 h]
  congr 1; omega
theorem Qa0 {v : Qp} {s : Nm} {k : Nat} (hs : Qt v.nm = true) (h : v.nm[k]? = some s) : XB v s = v.ps[k]? := by
 unfold XB
 rw [QfH v.nm 0 k (Qb2 hs) h, if_neg (by omega)]
 simp
theorem Qf7 {s : Nm} : ∀ (l : List Nm) (i : Nat), s ∉ l → Xu s l i = -1
 | [], _, _ => rfl
 | x :: l, i, h => by
  simp only [List.mem_cons, not_or] at h
  unfold Xu
  rw [show (s == x) = false from beq_eq_false_iff_ne.2 h.1]
  simp only [Bool.false_eq_true, if_false]
  exact Qf7 l (i + 1) h.2
theorem Wo {v : Qp} {s : Nm} (h : s ∉ v.nm) : XB v s = none := by
 unfold XB; rw [Qf7 _ _ h]; rfl
theorem QdR {l : Qv} (h : YM l) : l.k = 1 ∨ l.k = 2 ∨ l.k = 3 ∨ l.k = 4 ∨ l.k = 5 ∨ l.k = 6 ∨ l.k = 7 ∨ l.k = 8 ∨ l.k = 9 ∨ l.k = 10 := by
 have h := h.shape
 unfold Xr at h
 by_cases hk : YU l.k = true
 ·simp [YU, Jc, Jn] at hk; omega
 rw [if_neg hk] at h; cases h
theorem Qp.ext_ {v w : Qp} (h1 : v.N = w.N) (h2 : v.nm = w.nm) (h3 : v.ps = w.ps) (h4 : v.es = w.es) : v = w := by
 rw [← v.eta, ← w.eta, h1, h2, h3, h4]
theorem JP {v : Qp} {n li pa en : Bool} : Q9 v n li pa en = true ↔ (n = true ∨ v.N = 0) ∧ (li = true ∨ v.nm = []) ∧ (pa = true ∨ v.ps = []) ∧ (en = true ∨ v.es = []) := by
 unfold Q9
 simp [and_assoc]
section
variable {l : Qv} {v : Qp}
theorem QjP (h : Qw v l = true) (hk : l.k = 1 ∨ l.k = 2 ∨ l.k = 3) : v.nm = [] ∧ v.ps = [] ∧ v.es = [] := by
 rw [Qu] at h
 rcases hk with hk | hk | hk <;> rw [hk] at h <;> simp [JP] at h <;> simp [h]
theorem Ks (h : Qw v l = true) (hk : l.k = 4 ∨ l.k = 10) : v.N = 0 ∧ v.ps = [] ∧ v.es = [] ∧ Qt v.nm = true ∧ (∀ s ∈ v.nm, YE l.nm s = true) ∧ (l.k = 10 → WS l.rs v.nm = true) := by
 rw [Qu] at h
 rcases hk with hk | hk
 ·rw [hk] at h; simp [JP, Jg] at h
  exact ⟨h.1.1, h.1.2.1, h.1.2.2, h.2.1, h.2.2, fun e => by omega⟩
 rw [hk] at h; simp [JP, Jg] at h
 exact ⟨h.1.1.1, h.1.1.2.1, h.1.1.2.2, h.1.2.1, h.1.2.2, fun _ => h.2⟩
theorem Kc (h : Qw v l = true) (hk : l.k = 5) {q : Qv} {r : List Qv} (hp : l.ps = q :: r) : v.N = 0 ∧ v.es = [] ∧ v.nm.length = v.ps.length ∧ Qt v.nm = true ∧ (∀ s ∈ v.nm, YE l.nm s = true) ∧ ∀ p ∈ v.ps, Qw p q = true ∧ p ≠ Qn q := by
 rw [Qu, hk, hp] at h
 simp only [show ((5 : Int) == 1) = false from rfl, show ((5 : Int) == 2) = false from rfl, show ((5 : Int) == 3) = false from rfl, show ((5 : Int) == 4) = false from rfl, show ((5 : Int) == 10) = false from rfl, show ((5 : Int) == 8) = false from rfl, show ((5 : Int) == 9) = false from rfl, show ((5 : Int) == 5) = true from rfl, Bool.or_self, Bool.false_eq_true, if_false, if_true, Bool.and_eq_true, JP, Jg, Qa4, List.all_eq_true, beq_iff_eq, QaO, false_or, true_or, true_and, Bool.not_eq_true'] at h
 obtain ⟨⟨⟨⟨h1, h2⟩, h3⟩, h4, h5⟩, h6⟩ := h;refine ⟨h1, h2, by omega, h4, h5, fun p hp => ⟨(h6 p hp).1, fun e => ?_⟩⟩
 have := (h6 p hp).2
 rw [(Jl _ _).2 e] at this
 cases this
theorem Ye (h : Qw v l = true) (hk : l.k = 6 ∨ l.k = 7) : v.N = 0 ∧ v.nm = [] ∧ v.es = [] ∧ v.ps.length = l.ps.length ∧ Kj v.ps l.ps = true := by
 obtain ⟨h1, h2⟩ := QoL h hk;rw [Qu] at h
 rcases hk with hk | hk <;> rw [hk] at h <;> simp [JP] at h <;> exact ⟨h.1.1.1, h.1.1.2.1, h.1.1.2.2, h1, h2⟩
theorem Qdj (h : Qw v l = true) (hk : l.k = 8) : (v.N = 0 ∨ v.N = 2) ∧ v = .mk v.N [] [] [] ∨ v.N = 1 ∧ ∃ s, v = .mk 1 [s] [] [] ∧ YE l.nm s = true := by
 rw [Qu, hk] at h
 simp at h
 by_cases h0 : v.N = 0 ∨ v.N = 2
 ·rw [if_pos h0] at h
  simp [JP] at h
  exact .inl ⟨h0, Qp.ext_ rfl h.1 h.2.1 h.2.2⟩
 rw [if_neg h0] at h;obtain ⟨h1, h⟩ := h
 simp [JP, Jg] at h
 obtain ⟨⟨h2, h3⟩, h4, h5⟩ := h;obtain ⟨s, hs⟩ := List.length_eq_one_iff.1 (show v.nm.length = 1 by omega);exact .inr ⟨h1, s, Qp.ext_ h1 hs h2.1 h2.2, h5 s (by rw [hs]; simp)⟩
theorem KK (h : Qw v l = true) (hk : l.k = 9) : v.N = 0 ∧ v.nm = [] ∧ v.ps = [] ∧ J0 v.es := by
 rw [Qu, hk] at h
 simp [JP] at h
 exact ⟨h.1.1, h.1.2.1, h.1.2.2, .of h.2⟩
theorem Qax (h : YM l) (hk : l.k = 5) : ∃ q, l.ps = [q] := by
 have h := h.shape
 unfold Xr at h
 rw [if_pos (by rw [hk]; decide)] at h
 have hb : KN l = false := by
  cases hb : KN l
  ·rfl
  rw [hb] at h; simp [Yb] at h
 have h2 : l.ps.length = 1 := by
  simp only [KN, J3, hk] at hb
  simp at hb
  omega
 obtain ⟨q, hq⟩ := List.length_eq_one_iff.1 h2;exact ⟨q, hq⟩
end
section
variable {l : Qv} {a b : Qp}
theorem Yg (hk : l.k = 1 ∨ l.k = 2) : QJ l a b = true ↔ a.N ≤ b.N := by
 rw [XN]; rcases hk with hk | hk <;> simp [hk]
theorem Qad (hk : l.k = 3) : QJ l a b = true ↔ b.N ≤ a.N := by
 rw [XN]; simp [hk]
theorem Ki (hk : l.k = 4 ∨ l.k = 10) : QJ l a b = true ↔ ∀ x ∈ a.nm, x ∈ b.nm := by
 rw [XN, ← Ka]; rcases hk with hk | hk <;> simp [hk]
theorem QaK (hk : l.k = 5) {q : Qv} {r : List Qv} (hp : l.ps = q :: r) (ha : a.nm.length = a.ps.length) (hb : b.nm.length = b.ps.length) (hs : Qt b.nm = true) :
  QJ l a b = true ↔ ∀ (i : Nat) (s : Nm) (p : Qp), a.nm[i]? = some s → a.ps[i]? = some p → ∃ (j : Nat) (y : Qp), b.nm[j]? = some s ∧ b.ps[j]? = some y ∧ QJ q p y = true := by
 rw [XN, hk, hp]
 simp only [show ((5 : Int) == 1) = false from rfl, show ((5 : Int) == 2) = false from rfl, show ((5 : Int) == 3) = false from rfl, show ((5 : Int) == 4) = false from rfl, show ((5 : Int) == 10) = false from rfl, show ((5 : Int) == 5) = true from rfl, Bool.or_self, Bool.false_eq_true, if_false, if_true, Qhi, List.all_eq_true]
 constructor
 ·intro h i s p hs' hp'
  have h1 := h (s, p) (List.mem_of_getElem? (Qat hs' hp'))
  unfold Qd0 at h1
  by_cases hm : s ∈ b.nm
  ·obtain ⟨j, hj⟩ := List.mem_iff_getElem?.1 hm
   simp only [Qa0 hs hj] at h1
   cases hy : b.ps[j]? with
   | none => rw [hy] at h1; cases h1
   | some y => rw [hy] at h1; exact ⟨j, y, hj, hy, h1⟩
  simp only [Wo hm] at h1; cases h1
 rintro h ⟨s, p⟩ hm;obtain ⟨i, hi⟩ := List.mem_iff_getElem?.1 hm;rw [List.getElem?_zip_eq_some] at hi;obtain ⟨j, y, hj, hy, hle⟩ := h i s p hi.1 hi.2
 unfold Qd0
 simp only [Qa0 hs hj, hy]
 exact hle
theorem KF : ∀ {ls : List Qv} {xs ys : List Qp}, xs.length = ls.length → ys.length = ls.length →
  (Qch ls xs ys = true ↔ ∀ (k : Nat) (q : Qv) (x y : Qp), ls[k]? = some q → xs[k]? = some x → ys[k]? = some y → QJ q x y = true)
 | [], [], [], _, _ => by simp [Qch]
 | q :: r, x :: a, y :: b, h1, h2 => by
  rw [Qch, Bool.and_eq_true, KF (by simpa using h1) (by simpa using h2)]
  constructor
  ·rintro ⟨h3, h4⟩ k q' x' y' e1 e2 e3
   cases k with
   | zero => simp at e1 e2 e3; subst e1 e2 e3; exact h3
   | succ k => exact h4 k q' x' y' (by simpa using e1) (by simpa using e2) (by simpa using e3)
  intro h;exact ⟨h 0 q x y rfl rfl rfl, fun k q' x' y' e1 e2 e3 => h (k + 1) q' x' y' (by simpa using e1) (by simpa using e2) (by simpa using e3)⟩
 | [], _ :: _, _, h, _ => by simp at h
 | [], [], _ :: _, _, h => by simp at h
 | _ :: _, [], _, h, _ => by simp at h
 | _ :: _, _ :: _, [], _, h => by simp at h
theorem Wh (hk : l.k = 6) : QJ l a b = Qch l.ps a.ps b.ps := by
 rw [XN]; simp [hk]
theorem Kg (hk : l.k = 7) {p q : Qv} (hp : l.ps = [p, q]) {x1 x2 y1 y2 : Qp} (ha : a.ps = [x1, x2]) (hb : b.ps = [y1, y2]) : QJ l a b = true ↔ (x1 = y1 ∧ QJ q x2 y2 = true) ∨ (x1 ≠ y1 ∧ QJ p x1 y1 = true) := by
 rw [XN, hk, hp, ha, hb]
 simp only [show ((7 : Int) == 1) = false from rfl, show ((7 : Int) == 2) = false from rfl, show ((7 : Int) == 3) = false from rfl, show ((7 : Int) == 4) = false from rfl, show ((7 : Int) == 10) = false from rfl, show ((7 : Int) == 5) = false from rfl, show ((7 : Int) == 6) = false from rfl, show ((7 : Int) == 7) = true from rfl, Bool.or_self, Bool.false_eq_true, if_false, if_true, QpJ]
 by_cases e : x1 = y1
 ·rw [if_pos ((Jl _ _).2 e)]; simp [e]
 rw [if_neg (fun h => e ((Jl _ _).1 h))]; simp [e]
theorem KT (hk : l.k = 8) : QJ l a b = true ↔ a.N = 0 ∨ b.N = 2 ∨ a = b := by
 rw [XN, hk]
 simp [Jl, or_assoc]
theorem QaG (hk : l.k = 9) (ha : J0 a.es) (hb : J0 b.es) : QJ l a b = true ↔ ∀ x ∈ a.es, ∃ y ∈ b.es, leE x y := by
 rw [← QmH ha.valid hb.valid, XN, hk]
 simp
end
theorem QrD {x y : En} (h1 : leE x y) (h2 : leE y x) : x = y := by
 rcases h1 with h1 | h1
 ·rcases h2 with h2 | h2
  ·exact absurd (QdD h1 h2) (Qea _)
  exact h2.symm
 exact h1
theorem QhB {l : List Nm} (h : l.Nodup) {i j : Nat} {s : Nm} (hi : l[i]? = some s) (hj : l[j]? = some s) : i = j := by
 obtain ⟨h1, h2⟩ := List.getElem?_eq_some_iff.1 hi;obtain ⟨h3, h4⟩ := List.getElem?_eq_some_iff.1 hj
 rcases Nat.lt_trichotomy i j with e | e | e
 ·exact absurd (h2.trans h4.symm) (List.pairwise_iff_getElem.1 h i j h1 h3 e)
 ·exact e
 ·exact absurd (h4.trans h2.symm) (List.pairwise_iff_getElem.1 h j i h3 h1 e)
theorem QuD (l : Qv) (hO : YM l) (ih : ∀ q ∈ l.ps, ∀ x, Qw x q = true → QJ q x x = true) (a : Qp) (ha : Qw a l = true) : QJ l a a = true := by
 rcases QdR hO with hk | hk | hk | hk | hk | hk | hk | hk | hk | hk
 ·exact (Yg (.inl hk)).2 (Int.le_refl _)
 ·exact (Yg (.inr hk)).2 (Int.le_refl _)
 ·exact (Qad hk).2 (Int.le_refl _)
 ·exact (Ki (.inl hk)).2 fun _ h => h
 ·obtain ⟨q, hp⟩ := Qax hO hk
  obtain ⟨-, -, h3, h4, -, h6⟩ := Kc ha hk hp
  exact (QaK hk hp h3 h3 h4).2 fun i s p hs hpp => ⟨i, p, hs, hpp, ih q (by rw [hp]; simp) p (h6 p (List.mem_of_getElem? hpp)).1⟩
 ·obtain ⟨-, -, -, h4, h5⟩ := Ye ha (.inl hk)
  rw [Wh hk, KF h4 h4];intro k q x y e1 e2 e3
  rw [e2] at e3; cases e3
  exact ih q (List.mem_of_getElem? e1) x (Jd h5 e2 e1)
 ·obtain ⟨p, q, hp⟩ := KI hO.shape hk
  obtain ⟨x, y, e, h1, h2⟩ := Yw ha hk hp;exact (Kg hk hp e e).2 (.inl ⟨rfl, ih q (by rw [hp]; simp) y h2⟩)
 ·exact (KT hk).2 (.inr (.inr rfl))
 ·obtain ⟨-, -, -, h⟩ := KK ha hk
  exact (QaG hk h h).2 fun x hx => ⟨x, hx, Qet x⟩
 exact (Ki (.inr hk)).2 fun _ h => h
theorem QaD (l : Qv) (hO : YM l) (a : Qp) (ha : Qw a l = true) : QJ l a a = true := QuD l hO (fun q hq x hx => QaD q (hO.part q hq) x hx) a ha
termination_by l
decreasing_by exact Qv.sizeOf_ps ‹_›
theorem QuB (l : Qv) (hO : YM l) (ih : ∀ q ∈ l.ps, ∀ x y, Qw x q = true → Qw y q = true → QJ q x y = true → QJ q y x = true → x = y) (a b : Qp) (ha : Qw a l = true) (hb : Qw b l = true) (h1 : QJ l a b = true) (h2 : QJ l b a = true) : a = b := by
 have num : l.k = 1 ∨ l.k = 2 ∨ l.k = 3 → a.N = b.N → a = b := fun hk e => by
  obtain ⟨p1, p2, p3⟩ := QjP ha hk;obtain ⟨q1, q2, q3⟩ := QjP hb hk;exact Qp.ext_ e (by rw [p1, q1]) (by rw [p2, q2]) (by rw [p3, q3])
 have set : l.k = 4 ∨ l.k = 10 → a = b := fun hk => by
  obtain ⟨p1, p2, p3, p4, -⟩ := Ks ha hk;obtain ⟨q1, q2, q3, q4, -⟩ := Ks hb hk;exact Qp.ext_ (by rw [p1, q1]) (Qd7 p4 q4 fun x => ⟨(Ki hk).1 h1 x, (Ki hk).1 h2 x⟩) (by rw [p2, q2]) (by rw [p3, q3])
 rcases QdR hO with hk | hk | hk | hk | hk | hk | hk | hk | hk | hk
 ·exact num (.inl hk) (Int.le_antisymm ((Yg (.inl hk)).1 h1) ((Yg (.inl hk)).1 h2))
 ·exact num (.inr (.inl hk)) (Int.le_antisymm ((Yg (.inr hk)).1 h1) ((Yg (.inr hk)).1 h2))
 ·exact num (.inr (.inr hk)) (Int.le_antisymm ((Qad hk).1 h2) ((Qad hk).1 h1))
 ·exact set (.inl hk)
 ·obtain ⟨q, hp⟩ := Qax hO hk
  obtain ⟨p1, p2, p3, p4, -, p6⟩ := Kc ha hk hp;obtain ⟨q1, q2, q3, q4, -, q6⟩ := Kc hb hk hp
  have l1 := (QaK hk hp p3 q3 q4).1 h1
  have l2 := (QaK hk hp q3 p3 p4).1 h2
  have sub : ∀ {u v : Qp}, u.nm.length = u.ps.length → (∀ (i : Nat) (s : Nm) (p : Qp), u.nm[i]? = some s → u.ps[i]? = some p → ∃ (j : Nat) (y : Qp), v.nm[j]? = some s ∧ v.ps[j]? = some y ∧ QJ q p y = true) → ∀ x ∈ u.nm, x ∈ v.nm := fun {u v} hl h x hx => by
   obtain ⟨i, hi⟩ := List.mem_iff_getElem?.1 hx
   have hlt := (List.getElem?_eq_some_iff.1 hi).1
   obtain ⟨j, y, hj, -, -⟩ := h i x _ hi (List.getElem?_eq_getElem (by omega));exact List.mem_of_getElem? hj
  have en : a.nm = b.nm := Qd7 p4 q4 fun x => ⟨sub p3 l1 x, sub q3 l2 x⟩
  refine Qp.ext_ (by rw [p1, q1]) en (List.ext_getElem (by rw [← p3, ← q3, en]) fun i g1 g2 => ?_) (by rw [p2, q2])
  have e1 : a.ps[i]? = some a.ps[i] := List.getElem?_eq_getElem g1
  have e2 : b.ps[i]? = some b.ps[i] := List.getElem?_eq_getElem g2
  have hs : a.nm[i]? = some (a.nm[i]'(by omega)) := List.getElem?_eq_getElem (by omega)
  have hs2 : b.nm[i]? = some (a.nm[i]'(by omega)) := by rw [← en]; exact hs
  obtain ⟨j, y, hj, hy, hle⟩ := l1 i _ _ hs e1;obtain ⟨j', y', hj', hy', hle'⟩ := l2 i _ _ hs2 e2
  have := QhB (Qb2 q4) hj hs2
  subst this
  have := QhB (Qb2 p4) hj' hs
  subst this
  rw [e2] at hy; cases hy
  rw [e1] at hy'; cases hy'
  exact ih q (by rw [hp]; simp) _ _ (p6 _ (List.getElem_mem g1)).1 (q6 _ (List.getElem_mem g2)).1 hle hle'
 ·obtain ⟨p1, p2, p3, p4, p5⟩ := Ye ha (.inl hk)
  obtain ⟨q1, q2, q3, q4, q5⟩ := Ye hb (.inl hk);rw [Wh hk, KF p4 q4] at h1;rw [Wh hk, KF q4 p4] at h2;refine Qp.ext_ (by rw [p1, q1]) (by rw [p2, q2]) (List.ext_getElem (by rw [p4, q4]) fun i g1 g2 => ?_) (by rw [p3, q3])
  have e1 : a.ps[i]? = some a.ps[i] := List.getElem?_eq_getElem g1
  have e2 : b.ps[i]? = some b.ps[i] := List.getElem?_eq_getElem g2
  have e3 : l.ps[i]? = some (l.ps[i]'(by omega)) := List.getElem?_eq_getElem (by omega)
  exact ih _ (List.mem_of_getElem? e3) _ _ (Jd p5 e1 e3) (Jd q5 e2 e3) (h1 i _ _ _ e3 e1 e2) (h2 i _ _ _ e3 e2 e1)
 ·obtain ⟨p, q, hp⟩ := KI hO.shape hk
  obtain ⟨p1, p2, p3, -, -⟩ := Ye ha (.inr hk);obtain ⟨q1, q2, q3, -, -⟩ := Ye hb (.inr hk);obtain ⟨x1, x2, ea, u1, u2⟩ := Yw ha hk hp;obtain ⟨y1, y2, eb, v1, v2⟩ := Yw hb hk hp
  have ep : x1 = y1 ∧ x2 = y2 := by
   rcases (Kg hk hp ea eb).1 h1 with ⟨e, g1⟩ | ⟨e, g1⟩
   ·rcases (Kg hk hp eb ea).1 h2 with ⟨e', g2⟩ | ⟨e', g2⟩
    ·exact ⟨e, ih q (by rw [hp]; simp) _ _ u2 v2 g1 g2⟩
    exact absurd e.symm e'
   rcases (Kg hk hp eb ea).1 h2 with ⟨e', g2⟩ | ⟨e', g2⟩
   ·exact absurd e'.symm e
   exact absurd (ih p (by rw [hp]; simp) _ _ u1 v1 g1 g2) e
  refine Qp.ext_ (by rw [p1, q1]) (by rw [p2, q2]) (by rw [ea, eb, ep.1, ep.2]) (by rw [p3, q3])
 ·have h1 := (KT hk).1 h1
  have h2 := (KT hk).1 h2
  rcases h1 with h1 | h1 | h1
  ·rcases h2 with h2 | h2 | h2
   ·rcases Qdj ha hk with ⟨-, e⟩ | ⟨e, -⟩
    ·rcases Qdj hb hk with ⟨-, e'⟩ | ⟨e', -⟩
     ·rw [e, e', h1, h2]
     omega
    omega
   ·omega
   exact h2.symm
  ·rcases h2 with h2 | h2 | h2
   ·omega
   ·rcases Qdj ha hk with ⟨-, e⟩ | ⟨e, -⟩
    ·rcases Qdj hb hk with ⟨-, e'⟩ | ⟨e', -⟩
     ·rw [e, e', h1, h2]
     omega
    omega
   exact h2.symm
  exact h1
 ·obtain ⟨p1, p2, p3, ra⟩ := KK ha hk
  obtain ⟨q1, q2, q3, rb⟩ := KK hb hk
  have h1 := (QaG hk ra rb).1 h1
  have h2 := (QaG hk rb ra).1 h2
  have one : ∀ {u v : List En}, J0 u → (∀ x ∈ u, ∃ y ∈ v, leE x y) → (∀ x ∈ v, ∃ y ∈ u, leE x y) → ∀ x ∈ u, x ∈ v := fun {u v} ru k1 k2 x hx => by
   obtain ⟨y, hy, g1⟩ := k1 x hx;obtain ⟨z, hz, g2⟩ := k2 y hy
   have := ru.le_eq hx hz (QiZ g1 g2)
   subst this
   rw [QrD g1 g2]; exact hy
  exact Qp.ext_ (by rw [p1, q1]) (by rw [p2, q2]) (by rw [p3, q3]) (ra.ext_ rb fun x => ⟨one ra h1 h2 x, one rb h2 h1 x⟩)
 exact set (.inr hk)
theorem Qaw (l : Qv) (hO : YM l) (a b : Qp) (ha : Qw a l = true) (hb : Qw b l = true) (h1 : QJ l a b = true) (h2 : QJ l b a = true) : a = b := QuB l hO (fun q hq x y hx hy => Qaw q (hO.part q hq) x y hx hy) a b ha hb h1 h2
termination_by l
decreasing_by exact Qv.sizeOf_ps ‹_›
theorem QtE (l : Qv) (hO : YM l) (ih : ∀ q ∈ l.ps, ∀ x y z, Qw x q = true → Qw y q = true → Qw z q = true → QJ q x y = true → QJ q y z = true → QJ q x z = true) (a b c : Qp) (ha : Qw a l = true) (hb : Qw b l = true) (hc : Qw c l = true) (h1 : QJ l a b = true) (h2 : QJ l b c = true) : QJ l a c = true := by
 have set : l.k = 4 ∨ l.k = 10 → QJ l a c = true := fun hk => (Ki hk).2 fun x hx => (Ki hk).1 h2 x ((Ki hk).1 h1 x hx)
 rcases QdR hO with hk | hk | hk | hk | hk | hk | hk | hk | hk | hk
 ·exact (Yg (.inl hk)).2 (Int.le_trans ((Yg (.inl hk)).1 h1) ((Yg (.inl hk)).1 h2))
 ·exact (Yg (.inr hk)).2 (Int.le_trans ((Yg (.inr hk)).1 h1) ((Yg (.inr hk)).1 h2))
 ·exact (Qad hk).2 (Int.le_trans ((Qad hk).1 h2) ((Qad hk).1 h1))
 ·exact set (.inl hk)
 ·obtain ⟨q, hp⟩ := Qax hO hk
  obtain ⟨-, -, p3, p4, -, p6⟩ := Kc ha hk hp;obtain ⟨-, -, q3, q4, -, q6⟩ := Kc hb hk hp;obtain ⟨-, -, r3, r4, -, r6⟩ := Kc hc hk hp
  have l1 := (QaK hk hp p3 q3 q4).1 h1
  have l2 := (QaK hk hp q3 r3 r4).1 h2
  refine (QaK hk hp p3 r3 r4).2 fun i s p hs hpp => ?_
  obtain ⟨j, y, hj, hy, g1⟩ := l1 i s p hs hpp;obtain ⟨k, z, hk', hz, g2⟩ := l2 j s y hj hy;exact ⟨k, z, hk', hz, ih q (by rw [hp]; simp) p y z (p6 p (List.mem_of_getElem? hpp)).1 (q6 y (List.mem_of_getElem? hy)).1 (r6 z (List.mem_of_getElem? hz)).1 g1 g2⟩
 ·obtain ⟨-, -, -, p4, p5⟩ := Ye ha (.inl hk)
  obtain ⟨-, -, -, q4, q5⟩ := Ye hb (.inl hk);obtain ⟨-, -, -, r4, r5⟩ := Ye hc (.inl hk);rw [Wh hk, KF p4 q4] at h1;rw [Wh hk, KF q4 r4] at h2;rw [Wh hk, KF p4 r4];intro k q x z e1 e2 e3
  have hlt := (List.getElem?_eq_some_iff.1 e1).1
  have ey : b.ps[k]? = some (b.ps[k]'(by omega)) := List.getElem?_eq_getElem (by omega)
  exact ih q (List.mem_of_getElem? e1) x _ z (Jd p5 e2 e1) (Jd q5 ey e1) (Jd r5 e3 e1) (h1 k q x _ e1 e2 ey) (h2 k q _ z e1 ey e3)
 ·obtain ⟨p, q, hp⟩ := KI hO.shape hk
  obtain ⟨x1, x2, ea, u1, u2⟩ := Yw ha hk hp;obtain ⟨y1, y2, eb, v1, v2⟩ := Yw hb hk hp;obtain ⟨z1, z2, ec, w1, w2⟩ := Yw hc hk hp
  have mp : p ∈ l.ps := by rw [hp]; simp
  have mq : q ∈ l.ps := by rw [hp]; simp
  refine (Kg hk hp ea ec).2 ?_
  rcases (Kg hk hp ea eb).1 h1 with ⟨e, g1⟩ | ⟨e, g1⟩ <;> rcases (Kg hk hp eb ec).1 h2 with ⟨e', g2⟩ | ⟨e', g2⟩
  ·exact .inl ⟨e.trans e', ih q mq _ _ _ u2 v2 w2 g1 g2⟩
  ·subst e; exact .inr ⟨e', g2⟩
  ·subst e'; exact .inr ⟨e, g1⟩
  refine .inr ⟨fun e2 => ?_, ih p mp _ _ _ u1 v1 w1 g1 g2⟩
  subst e2
  exact e (Qaw p (hO.part p mp) _ _ u1 v1 g1 g2)
 ·have h1 := (KT hk).1 h1
  have h2 := (KT hk).1 h2
  refine (KT hk).2 ?_
  rcases h1 with h1 | h1 | h1
  ·exact .inl h1
  ·rcases h2 with h2 | h2 | h2
   ·omega
   ·exact .inr (.inl h2)
   subst h2; exact .inr (.inl h1)
  subst h1; exact h2
 ·obtain ⟨-, -, -, ra⟩ := KK ha hk
  obtain ⟨-, -, -, rb⟩ := KK hb hk;obtain ⟨-, -, -, rc⟩ := KK hc hk
  have h1 := (QaG hk ra rb).1 h1
  have h2 := (QaG hk rb rc).1 h2
  refine (QaG hk ra rc).2 fun x hx => ?_
  obtain ⟨y, hy, g1⟩ := h1 x hx;obtain ⟨z, hz, g2⟩ := h2 y hy;exact ⟨z, hz, QiZ g1 g2⟩
 exact set (.inr hk)
theorem Qa5 (l : Qv) (hO : YM l) (a b c : Qp) (ha : Qw a l = true) (hb : Qw b l = true) (hc : Qw c l = true) (h1 : QJ l a b = true) (h2 : QJ l b c = true) : QJ l a c = true := QtE l hO (fun q hq x y z hx hy hz => Qa5 q (hO.part q hq) x y z hx hy hz) a b c ha hb hc h1 h2
termination_by l
decreasing_by exact Qv.sizeOf_ps ‹_›
theorem Qbo {l : Qv} {a b : Qp} (hc : QB l = 0) (ha : Qw a l = true) (hb : Qw b l = true) : QeC l a b = QJ l a b := by
 unfold QeC J2 Qaj
 simp [hc, XR, ha, hb]
theorem Qug {x y : Nm} (h : Op.bytesLess x y = false) (k : Op.bytesLess y x = false) : x = y := by
 have h1 := YH x y
 have h2 := YH y x
 rw [h] at h1;rw [k] at h2
 have h3 := J9.anti x y
 have h4 := J9.anti y x
 refine J9.eq x y ?_
 simp only [Bool.false_eq_true, if_false] at h1 h2
 split at h1 <;> split at h2 <;> omega
abbrev pw (l : List Nm) : Prop := l.Pairwise (fun a b => Op.bytesLess a b = true)
theorem Qhy {b : Bool} {x z : Nm} {l : List Nm} : z ∈ Qa8 b x l ↔ (b = true ∧ z = x) ∨ z ∈ l := by
 unfold Qa8; cases b <;> simp
theorem QkM {b : Bool} {x : Nm} {l : List Nm} (h : pw l) (hx : ∀ z ∈ l, Op.bytesLess x z = true) : pw (Qa8 b x l) := by
 unfold Qa8; cases b
 ·exact h
 exact List.Pairwise.cons hx h
theorem Qdh {a b : Nm} (h : Op.bytesLess a b = true) : a ≠ b := fun e => by subst e; rw [Qcc] at h; cases h
theorem Wa (lf bo ri : Bool) : ∀ (n : Nat) (a b : List Nm), a.length + b.length ≤ n → pw a → pw b →
  pw (W2 lf bo ri a b) ∧ (∀ z, z ∈ W2 lf bo ri a b ↔ (z ∈ a ∧ z ∉ b ∧ lf = true) ∨ (z ∈ a ∧ z ∈ b ∧ bo = true) ∨ (z ∉ a ∧ z ∈ b ∧ ri = true)) ∧ (W2 lf bo ri a b).length ≤ a.length + b.length
 | _, [], [], _, _, _ => ⟨List.Pairwise.nil, fun z => by simp [W2, QcF], by simp [W2, QcF]⟩
 | 0, _ :: _, _, h, _, _ => by simp at h
 | 0, [], _ :: _, h, _, _ => by simp at h
 | n + 1, x :: r, [], hl, ha, hb => by
  rw [QuO]
  have ha' := List.pairwise_cons.1 ha
  obtain ⟨i1, i2, i3⟩ := Wa lf bo ri n r [] (by simp at hl ⊢; omega) ha'.2 hb
  have sub : ∀ z ∈ W2 lf bo ri r [], z ∈ r := fun z hz => by
   rcases (i2 z).1 hz with h | h | h
   ·exact h.1
   ·exact h.1
   simp at h
  refine ⟨QkM i1 fun z hz => ha'.1 z (sub z hz), fun z => ?_, ?_⟩
  ·rw [Qhy, i2]
   simp only [List.mem_cons, List.not_mem_nil, not_false_eq_true, true_and, false_and, and_false, or_false]
   constructor
   ·rintro (⟨h1, h2⟩ | ⟨h1, h2⟩)
    ·exact ⟨.inl h2, h1⟩
    exact ⟨.inr h1, h2⟩
   rintro ⟨h1 | h1, h2⟩
   ·exact .inl ⟨h2, h1⟩
   exact .inr ⟨h1, h2⟩
  unfold Qa8; split <;> simp at i3 ⊢ <;> omega
 | n + 1, [], y :: s, hl, ha, hb => by
  rw [QuG]
  have hb' := List.pairwise_cons.1 hb
  obtain ⟨i1, i2, i3⟩ := Wa lf bo ri n [] s (by simp at hl ⊢; omega) ha hb'.2
  have sub : ∀ z ∈ W2 lf bo ri [] s, z ∈ s := fun z hz => by
   rcases (i2 z).1 hz with h | h | h
   ·simp at h
   ·simp at h
   exact h.2.1
  refine ⟨QkM i1 fun z hz => hb'.1 z (sub z hz), fun z => ?_, ?_⟩
  ·rw [Qhy, i2]
   simp only [List.mem_cons, List.not_mem_nil, not_false_eq_true, true_and, false_and, false_or]
   constructor
   ·rintro (⟨h1, h2⟩ | ⟨h1, h2⟩)
    ·exact ⟨.inl h2, h1⟩
    exact ⟨.inr h1, h2⟩
   rintro ⟨h1 | h1, h2⟩
   ·exact .inl ⟨h2, h1⟩
   exact .inr ⟨h1, h2⟩
  unfold Qa8; split <;> simp at i3 ⊢ <;> omega
 | n + 1, x :: r, y :: s, hl, ha, hb => by
  have ha' := List.pairwise_cons.1 ha
  have hb' := List.pairwise_cons.1 hb
  simp only [List.length_cons] at hl
  by_cases c1 : Op.bytesLess x y = true
  ·rw [Qrj c1]
   obtain ⟨i1, i2, i3⟩ := Wa lf bo ri n r (y :: s) (by simp; omega) ha'.2 hb
   have xs : ∀ z ∈ y :: s, Op.bytesLess x z = true := fun z hz => by
    rcases List.mem_cons.1 hz with rfl | hz
    ·exact c1
    exact Qbc c1 (hb'.1 z hz)
   refine ⟨QkM i1 fun z hz => ?_, fun z => ?_, ?_⟩
   ·rcases (i2 z).1 hz with h | h | h
    ·exact ha'.1 z h.1
    ·exact ha'.1 z h.1
    exact xs z h.2.1
   ·rw [Qhy, i2]
    by_cases e : z = x
    ·subst e
     have n1 : z ∉ r := fun h => Qdh (ha'.1 z h) rfl
     have n2 : z ∉ y :: s := fun h => Qdh (xs z h) rfl
     simp [n1]
     simp only [List.mem_cons, not_or] at n2
     simp [n2]
    simp [e]
   unfold Qa8; split <;> simp at i3 ⊢ <;> omega
  rw [Bool.not_eq_true] at c1
  by_cases c2 : Op.bytesLess y x = true
  ·rw [Qru c1 c2]
   obtain ⟨i1, i2, i3⟩ := Wa lf bo ri n (x :: r) s (by simp; omega) ha hb'.2
   have ys : ∀ z ∈ x :: r, Op.bytesLess y z = true := fun z hz => by
    rcases List.mem_cons.1 hz with rfl | hz
    ·exact c2
    exact Qbc c2 (ha'.1 z hz)
   refine ⟨QkM i1 fun z hz => ?_, fun z => ?_, ?_⟩
   ·rcases (i2 z).1 hz with h | h | h
    ·exact ys z h.1
    ·exact ys z h.1
    exact hb'.1 z h.2.1
   ·rw [Qhy, i2]
    by_cases e : z = y
    ·subst e
     have n1 : z ∉ s := fun h => Qdh (hb'.1 z h) rfl
     have n2 : z ∉ x :: r := fun h => Qdh (ys z h) rfl
     simp only [List.mem_cons, not_or] at n2
     simp [n1, n2]
    simp [e]
   unfold Qa8; split <;> simp at i3 ⊢ <;> omega
  rw [Bool.not_eq_true] at c2
  have e0 := Qug c1 c2
  subst e0
  rw [Qr5 c1 c2];obtain ⟨i1, i2, i3⟩ := Wa lf bo ri n r s (by omega) ha'.2 hb'.2;refine ⟨QkM i1 fun z hz => ?_, fun z => ?_, ?_⟩
  ·rcases (i2 z).1 hz with h | h | h
   ·exact ha'.1 z h.1
   ·exact ha'.1 z h.1
   exact hb'.1 z h.2.1
  ·rw [Qhy, i2]
   by_cases e : z = x
   ·subst e
    have n1 : z ∉ r := fun h => Qdh (ha'.1 z h) rfl
    have n2 : z ∉ s := fun h => Qdh (hb'.1 z h) rfl
    simp [n1, n2]
   simp [e]
  unfold Qa8; split <;> simp at i3 ⊢ <;> omega
abbrev K6 (a b : List Nm) : List Nm := W2 true true true a b
theorem WZ {a b : List Nm} (ha : Qt a = true) (hb : Qt b = true) {z : Nm} : z ∈ K6 a b ↔ z ∈ a ∨ z ∈ b := by
 rw [(Wa true true true _ a b (Nat.le_refl _) (XU ha) (XU hb)).2.1 z]
 by_cases h1 : z ∈ a <;> by_cases h2 : z ∈ b <;> simp [h1, h2]
theorem Qag {a b : List Nm} (ha : Qt a = true) (hb : Qt b = true) : Qt (K6 a b) = true := W1 (Wa true true true _ a b (Nat.le_refl _) (XU ha) (XU hb)).1
theorem Qey {a b : List Nm} (ha : Qt a = true) (hb : Qt b = true) : (K6 a b).length ≤ a.length + b.length := (Wa true true true _ a b (Nat.le_refl _) (XU ha) (XU hb)).2.2
abbrev itr (a b : List Nm) : List Nm := W2 false true false a b
theorem QsM {a b : List Nm} (ha : Qt a = true) (hb : Qt b = true) {z : Nm} : z ∈ itr a b ↔ z ∈ a ∧ z ∈ b := by
 rw [(Wa false true false _ a b (Nat.le_refl _) (XU ha) (XU hb)).2.1 z]
 simp
theorem Qm3 {a b : List Nm} (ha : Qt a = true) (hb : Qt b = true) : Qt (itr a b) = true := W1 (Wa false true false _ a b (Nat.le_refl _) (XU ha) (XU hb)).1
inductive SmV (n : Nat) : Qp → Prop
 | mk (v : Qp) (h1 : v.nm.length ≤ n) (h2 : v.ps.length ≤ n) (h3 : v.es.length ≤ n) (h4 : ∀ e ∈ v.es, e.1.length ≤ 64) (h5 : ∀ p ∈ v.ps, SmV n p) : SmV n v
section
variable {n : Nat} {v : Qp}
theorem SmV.nm (h : SmV n v) : v.nm.length ≤ n := by cases h; assumption
theorem SmV.ps (h : SmV n v) : v.ps.length ≤ n := by cases h; assumption
theorem SmV.es (h : SmV n v) : v.es.length ≤ n := by cases h; assumption
theorem SmV.en (h : SmV n v) : ∀ e ∈ v.es, e.1.length ≤ 64 := by cases h; assumption
theorem SmV.part (h : SmV n v) : ∀ p ∈ v.ps, SmV n p := by cases h; assumption
theorem SmV.up {m : Nat} (hm : n ≤ m) (h : SmV n v) : SmV m v := by
 induction h with
 | mk v h1 h2 h3 h4 _ ih => exact .mk v (by omega) (by omega) (by omega) h4 ih
end
def WO (rs : List Ru) (s : List Nm) : List Nm := match rs.find? (fun r => J6 r.i s && !X6 s r.t) with | some r => s ++ [r.t] | none => s
def Yk (rs : List Ru) : Nat → List Nm → List Nm
 | 0, s => s
 | n + 1, s => Yk rs n (WO rs s)
def KG (u : List Nm) (rs : List Ru) (s : List Nm) : List Nm := u.filter (X6 (Yk rs rs.length s))
mutual
def Qk : Qv → Qp → Qp → Qp
 | .mk k lo hi nm ps rs, a, b =>
  if k == 4 then .mk 0 (K6 a.nm b.nm) [] []
  else if k == 10 then .mk 0 (KG nm rs (K6 a.nm b.nm)) [] []
  else if k == 9 then .mk 0 [] [] (JE a.es b.es)
  else if k == 5 then .mk 0 (K6 a.nm b.nm) (Qna ps (K6 a.nm b.nm) a b) []
  else if k == 6 then .mk 0 [] (Qac ps a.ps b.ps) []
  else match (if k == 7 then Qaa ps a.ps b.ps else none) with
   | some v => v
   | none => if QJ (.mk k lo hi nm ps rs) a b then b else if QJ (.mk k lo hi nm ps rs) b a then a else .mk 2 [] [] []
def Qna : List Qv → List Nm → Qp → Qp → List Qp
 | [], _, _, _ => []
 | q :: _, u, a, b => u.map fun s => match XB a s, XB b s with
  | none, some y => y
  | some x, none => x
  | some x, some y => Qk q x y
  | none, none => Qp.zero
def Qac : List Qv → List Qp → List Qp → List Qp
 | q :: r, x :: a, y :: b => Qk q x y :: Qac r a b
 | _, _, _ => []
def Qaa : List Qv → List Qp → List Qp → Option Qp
 | [_, q], [x1, x2], [y1, y2] => if WH x1 y1 then some (.mk 0 [] [x1, Qk q x2 y2] []) else none
 | _, _, _ => none
end
def Yc (q : Qv) (a b : Qp) (s : Nm) : Qp := match XB a s, XB b s with
 | none, some y => y
 | some x, none => x
 | some x, some y => Qk q x y
 | none, none => Qp.zero
theorem QdF (q : Qv) (r : List Qv) (u : List Nm) (a b : Qp) : Qna (q :: r) u a b = u.map (Yc q a b) := by rw [Qna]; rfl
theorem X9 (l : Qv) (a b : Qp) : Qk l a b =
  if l.k == 4 then .mk 0 (K6 a.nm b.nm) [] []
  else if l.k == 10 then .mk 0 (KG l.nm l.rs (K6 a.nm b.nm)) [] []
  else if l.k == 9 then .mk 0 [] [] (JE a.es b.es)
  else if l.k == 5 then .mk 0 (K6 a.nm b.nm) (Qna l.ps (K6 a.nm b.nm) a b) []
  else if l.k == 6 then .mk 0 [] (Qac l.ps a.ps b.ps) []
  else match (if l.k == 7 then Qaa l.ps a.ps b.ps else none) with
   | some v => v
   | none => if QJ l a b then b else if QJ l b a then a else .mk 2 [] [] [] := by
 cases l with
 | mk k lo hi nm ps rs => rw [Qk]; rfl
section
variable {a b : Qp} {q : Qv} {s : Nm} {x y : Qp}
theorem QvR (h1 : XB a s = none) (h2 : XB b s = some y) : Yc q a b s = y := by unfold Yc; rw [h1, h2]
theorem Qv9 (h1 : XB a s = some x) (h2 : XB b s = none) : Yc q a b s = x := by unfold Yc; rw [h1, h2]
theorem Qwi (h1 : XB a s = some x) (h2 : XB b s = some y) : Yc q a b s = Qk q x y := by unfold Yc; rw [h1, h2]
end
theorem QjT {u : List Nm} {f : Nm → Qp} {k : Nat} {s : Nm} {y : Qp} (h : u[k]? = some s) (hf : f s = y) : (((u.take k).map f).map KV) ++ JI 4 1 (QF y) = (((u.take (k + 1)).map f).map KV) := by
 have : JI 4 1 (QF y) = [KV y] := by rw [W0]; rfl
 rw [this, List.take_add_one, h, ← hf]; simp
theorem QgA : ∀ {ls : List Qv} {xs ys : List Qp}, xs.length = ls.length → ys.length = ls.length → (Qac ls xs ys).length = ls.length
 | [], [], [], _, _ => by simp [Qac]
 | q :: r, x :: a, y :: b, h1, h2 => by rw [Qac]; simp [QgA (ls := r) (by simpa using h1) (by simpa using h2)]
 | [], _ :: _, _, h, _ => by simp at h
 | [], [], _ :: _, _, h => by simp at h
 | _ :: _, [], _, h, _ => by simp at h
 | _ :: _, _ :: _, [], _, h => by simp at h
theorem Qhn : ∀ {ls : List Qv} {xs ys : List Qp} {k : Nat} {q : Qv} {x y : Qp}, ls[k]? = some q → xs[k]? = some x → ys[k]? = some y → (Qac ls xs ys)[k]? = some (Qk q x y)
 | q :: r, x :: a, y :: b, 0, q', x', y', h1, h2, h3 => by simp at h1 h2 h3; subst h1 h2 h3; rw [Qac]; rfl
 | q :: r, x :: a, y :: b, k + 1, q', x', y', h1, h2, h3 => by rw [Qac]; exact Qhn (ls := r) (by simpa using h1) (by simpa using h2) (by simpa using h3)
 | [], _, _, _, _, _, _, h, _, _ => by simp at h
 | _ :: _, [], _, _, _, _, _, _, h, _ => by simp at h
 | _ :: _, _ :: _, [], _, _, _, _, _, _, h => by simp at h
theorem Qjd {l : List Qp} {k : Nat} {y : Qp} (h : l[k]? = some y) : ((l.take k).map KV) ++ JI 4 1 (QF y) = ((l.take (k + 1)).map KV) := by
 have : JI 4 1 (QF y) = [KV y] := by rw [W0]; rfl
 rw [this, List.take_add_one, h]; simp
end Go.Proofs.YtnkkokmmeplbgaaGreat
