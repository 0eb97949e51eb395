/-
  Plain laws: registers and their joins as sets of entries.
-/
import Derived.Test.YthldgioggjpnpaaGreatS16
import Derived.Test.YthldgioggjpnpaaGreatS10
import Derived.Test.YthldgioggjpnpaaGreatR20
namespace Go.Proofs.YthldgioggjpnpaaGreat
open Go.RowKit

/-- an entry is strictly before, at most another one -/
def ltE (x y : En) : Prop := leqT x.1 y.1 = true ∧ leqT y.1 x.1 = false
def leE (x y : En) : Prop := ltE x y ∨ x = y
theorem before_iff {x y : En} (hx : validT x.1 = true) (hy : validT y.1 = true) : isBefore x y = true ↔ ltE x y := by
  unfold isBefore ltE
  rw [cmpT_leq hx hy]
  cases h1 : leqT x.1 y.1 <;> cases h2 : leqT y.1 x.1 <;> simp
theorem under_iff {x y : En} (hx : validT x.1 = true) (hy : validT y.1 = true) : underE x y = true ↔ leE x y := by
  unfold underE leE ltE
  by_cases h0 : x.1 = y.1
  · rw [(cmpT_zero hx hy).2 h0, if_neg (by decide), if_pos rfl, h0, leqT_refl]
    simp only [Bool.true_eq_false, and_false, false_or, beq_iff_eq]
    exact ⟨fun h => Prod.ext h0 h, fun h => by rw [h]⟩
  · have h0' : cmpT x.1 y.1 ≠ 0 := fun h => h0 ((cmpT_zero hx hy).1 h)
    have hne : x ≠ y := fun h => h0 (by rw [h])
    rw [if_neg h0']
    rw [cmpT_leq hx hy] at h0' ⊢
    cases h1 : leqT x.1 y.1 <;> cases h2 : leqT y.1 x.1 <;> simp [hne, h1, h2] at h0' ⊢
theorem ltE_irrefl (x : En) : ¬ ltE x x := fun h => by
  unfold ltE at h; rw [leqT_refl] at h; exact absurd h.2 (by decide)
theorem ltE_trans {x y z : En} (h1 : ltE x y) (h2 : ltE y z) : ltE x z := by
  refine ⟨leqT_trans h1.1 h2.1, ?_⟩
  rw [Bool.eq_false_iff]
  intro h
  have := leqT_trans h2.1 h
  rw [h1.2] at this
  exact absurd this (by decide)
theorem leE_trans {x y z : En} (h1 : leE x y) (h2 : leE y z) : leE x z := by
  rcases h1 with h1 | rfl
  · rcases h2 with h2 | rfl
    · exact .inl (ltE_trans h1 h2)
    · exact .inl h1
  · exact h2
theorem ltE_leE {x y z : En} (h1 : ltE x y) (h2 : leE y z) : ltE x z := by
  rcases h2 with h2 | rfl
  · exact ltE_trans h1 h2
  · exact h1

/-- a register -/
structure Reg (es : List En) : Prop where
  valid : ∀ x ∈ es, validT x.1 = true
  ne : ∀ x ∈ es, x.1 ≠ []
  name : ∀ x ∈ es, okName x.2 = true
  sorted : es.Pairwise (fun x y => cmpEn x y < 0)
  anti : ∀ x ∈ es, ∀ y ∈ es, ¬ ltE x y

theorem cmp_lt3 {x y z : En} (h1 : cmpEn x y < 0) (h2 : cmpEn y z < 0) : cmpEn x z < 0 := by
  have := (cmpEn_ok.swo (fun x : En => x)).trans x y z (decide_eq_true h1) (decide_eq_true h2)
  exact of_decide_eq_true this
theorem pairwise_of_steps : ∀ (es : List En), (∀ j e d, es[j + 1]? = some e → es[j]? = some d → cmpEn d e < 0) → es.Pairwise (fun x y => cmpEn x y < 0)
  | [], _ => List.Pairwise.nil
  | [_], _ => List.pairwise_singleton _ _
  | a :: b :: r, h => by
    have ih := pairwise_of_steps (b :: r) (fun j e d he hd => h (j + 1) e d (by simpa using he) (by simpa using hd))
    have hab := h 0 b a rfl rfl
    refine List.Pairwise.cons (fun y hy => ?_) ih
    rcases List.mem_cons.1 hy with rfl | hy
    · exact hab
    · exact cmp_lt3 hab ((List.pairwise_cons.1 ih).1 y hy)
theorem below_iff {x y : List Tk} (hx : validT x = true) (hy : validT y = true) : belowT x y = true ↔ (leqT x y = true ∧ leqT y x = false) := by
  unfold belowT; rw [hx, hy]; simp
theorem Reg.of {N : Int} {nn np : Nat} {es : List En} (h : isReg N nn np es = true) : Reg es := by
  have h' := ((isReg_iff N nn np es).2 h).2.2.2
  have hj : ∀ x ∈ es, ∃ j, es[j]? = some x := fun x hx => List.mem_iff_getElem?.1 hx
  refine ⟨fun x hx => ?_, fun x hx => ?_, fun x hx => ?_, ?_, fun x hx y hy hlt => ?_⟩
  · obtain ⟨j, hj⟩ := hj x hx; exact (h' j x hj).2.1
  · obtain ⟨j, hj⟩ := hj x hx; exact (h' j x hj).1
  · obtain ⟨j, hj⟩ := hj x hx; exact (h' j x hj).2.2.1
  · exact pairwise_of_steps es (fun j e d he hd => (h' (j + 1) e he).2.2.2.1 d (by omega) hd)
  · obtain ⟨j, hj⟩ := hj x hx
    obtain ⟨k, hk⟩ := List.mem_iff_getElem?.1 hy
    have h1 := (h' j x hj).2.2.2.2 y hy
    have h2 := (below_iff (h' j x hj).2.1 (h' k y hk).2.1).2 hlt
    rw [h1] at h2
    exact absurd h2 (by decide)
theorem Reg.isReg_ {es : List En} (h : Reg es) : isReg 0 0 0 es = true := by
  refine (isReg_iff 0 0 0 es).1 ⟨rfl, rfl, rfl, fun j e he => ?_⟩
  have hm := List.mem_of_getElem? he
  refine ⟨h.ne e hm, h.valid e hm, h.name e hm, fun d hj hd => ?_, fun d hd => ?_⟩
  · obtain ⟨h1, rfl⟩ := List.getElem?_eq_some_iff.1 he
    obtain ⟨h2, rfl⟩ := List.getElem?_eq_some_iff.1 hd
    exact List.pairwise_iff_getElem.1 h.sorted (j - 1) j h2 h1 (by omega)
  · rw [Bool.eq_false_iff]
    intro hb
    exact h.anti e hm d hd ((below_iff (h.valid e hm) (h.valid d hd)).1 hb)
theorem Reg.nodup {es : List En} (h : Reg es) : es.Nodup := h.sorted.imp (fun {a b} h e => by subst e; rw [cmpEn_ok.refl] at h; exact absurd h (by decide))
theorem Reg.ext_ {a b : List En} (ha : Reg a) (hb : Reg b) (h : ∀ x, x ∈ a ↔ x ∈ b) : a = b :=
  sortedEn_uniq ((List.perm_ext_iff_of_nodup ha.nodup hb.nodup).2 h) (ha.sorted.imp (fun h => by omega)) (hb.sorted.imp (fun h => by omega))
theorem Reg.le_eq {es : List En} (h : Reg es) {x y : En} (hx : x ∈ es) (hy : y ∈ es) (hl : leE x y) : x = y := by
  rcases hl with hl | hl
  · exact absurd hl (h.anti x hx y hy)
  · exact hl
theorem Reg.sub {a b : List En} (h : Reg b) (hs : a.Sublist b) : Reg a :=
  ⟨fun x hx => h.valid x (hs.subset hx), fun x hx => h.ne x (hs.subset hx), fun x hx => h.name x (hs.subset hx), h.sorted.sublist hs, fun x hx y hy => h.anti x (hs.subset hx) y (hs.subset hy)⟩
theorem Reg.nil : Reg [] := ⟨by simp, by simp, by simp, List.Pairwise.nil, by simp⟩
theorem Reg.one {x : En} (h1 : validT x.1 = true) (h2 : x.1 ≠ []) (h3 : okName x.2 = true) : Reg [x] :=
  ⟨by simpa using h1, by simpa using h2, by simpa using h3, List.pairwise_singleton _ _, fun a ha b hb => by
    rw [List.mem_singleton] at ha hb; subst ha; subst hb; exact ltE_irrefl _⟩

theorem any_under {x : En} {es : List En} (hx : validT x.1 = true) (hv : ∀ y ∈ es, validT y.1 = true) : es.any (underE x) = true ↔ ∃ y ∈ es, leE x y := by
  rw [List.any_eq_true]
  exact ⟨fun ⟨y, hy, h⟩ => ⟨y, hy, (under_iff hx (hv y hy)).1 h⟩, fun ⟨y, hy, h⟩ => ⟨y, hy, (under_iff hx (hv y hy)).2 h⟩⟩
theorem covers_iff {ws vs : List En} (hw : ∀ x ∈ ws, validT x.1 = true) (hv : ∀ x ∈ vs, validT x.1 = true) : coversB ws vs = true ↔ ∀ x ∈ vs, ∃ y ∈ ws, leE x y := by
  unfold coversB
  rw [List.all_eq_true]
  exact ⟨fun h x hx => (any_under (hv x hx) hw).1 (h x hx), fun h x hx => (any_under (hv x hx) hw).2 (h x hx)⟩
theorem mem_since {a b : List En} (ha : ∀ x ∈ a, validT x.1 = true) (hb : ∀ x ∈ b, validT x.1 = true) (x : En) : x ∈ sinceR a b ↔ x ∈ a ∧ ∀ y ∈ b, ¬ leE x y := by
  unfold sinceR
  rw [List.mem_filter]
  refine and_congr_right fun hx => ?_
  rw [Bool.not_eq_true', Bool.eq_false_iff, ne_eq, any_under (ha x hx) hb]
  exact ⟨fun h y hy hl => h ⟨y, hy, hl⟩, fun h ⟨y, hy, hl⟩ => h y hy hl⟩
theorem mem_merged {a b : List En} (ha : ∀ x ∈ a, validT x.1 = true) (hb : ∀ x ∈ b, validT x.1 = true) (x : En) : x ∈ mergedL a b ↔ (x ∈ a ∧ ∀ y ∈ b, ¬ leE x y) ∨ (x ∈ b ∧ ∀ y ∈ a, ¬ ltE x y) := by
  unfold mergedL
  rw [List.mem_append]
  refine or_congr (mem_since ha hb x) ?_
  rw [List.mem_filter]
  refine and_congr_right fun hx => ?_
  rw [Bool.not_eq_true', Bool.eq_false_iff, ne_eq, List.any_eq_true]
  exact ⟨fun h y hy hl => h ⟨y, hy, (before_iff (hb x hx) (ha y hy)).2 hl⟩, fun h ⟨y, hy, hl⟩ => h y hy ((before_iff (hb x hx) (ha y hy)).1 hl)⟩
/-- what is asked of the join of two registers -/
def InJoin (a b : List En) (x : En) : Prop := (x ∈ a ∧ ∀ y ∈ b, ¬ leE x y) ∨ (x ∈ b ∧ ∀ y ∈ a, ¬ ltE x y)
theorem merged_reg {a b es : List En} (ra : Reg a) (rb : Reg b) (hp : es.Perm (mergedL a b)) (hs : es.Pairwise (fun x y => cmpEn x y ≤ 0)) : Reg es ∧ ∀ x, x ∈ es ↔ InJoin a b x := by
  have hm : ∀ x, x ∈ es ↔ InJoin a b x := fun x => hp.mem_iff.trans (mem_merged ra.valid rb.valid x)
  have hor : ∀ x, x ∈ es → x ∈ a ∨ x ∈ b := fun x hx => ((hm x).1 hx).imp (·.1) (·.1)
  have hnd : es.Nodup := by
    rw [hp.nodup_iff]
    unfold mergedL
    rw [List.nodup_append]
    refine ⟨ra.nodup.sublist List.filter_sublist, rb.nodup.sublist List.filter_sublist, fun x hx y hy e => ?_⟩
    subst e
    have h1 := (mem_since ra.valid rb.valid x).1 hx
    exact h1.2 x (List.mem_filter.1 hy).1 (.inr rfl)
  refine ⟨⟨fun x hx => (hor x hx).elim (ra.valid x) (rb.valid x), fun x hx => (hor x hx).elim (ra.ne x) (rb.ne x), fun x hx => (hor x hx).elim (ra.name x) (rb.name x), ?_, fun x hx y hy hlt => ?_⟩, hm⟩
  · exact (hs.and hnd).imp (fun {x y} h => by
      have := cmpEn_ok.eq x y
      rcases Int.lt_or_eq_of_le h.1 with h1 | h1
      · exact h1
      · exact absurd (this h1) h.2)
  · rcases (hm x).1 hx with hx | hx <;> rcases (hm y).1 hy with hy | hy
    · exact ra.anti x hx.1 y hy.1 hlt
    · exact hx.2 y hy.1 (.inl hlt)
    · exact hx.2 y hy.1 hlt
    · exact rb.anti x hx.1 y hy.1 hlt
theorem joined_two {Na Nb : Int} {n1 p1 n2 p2 : Nat} {a b es : List En} (ra : Reg a) (rb : Reg b) (h : JoinedTo [] [(Na, n1, p1, a), (Nb, n2, p2, b)] es) : Reg es ∧ ∀ x, x ∈ es ↔ InJoin a b x := by
  obtain ⟨e1, hp1, hs1, e2, hp2, hs2, rfl⟩ := h
  have h1 : mergedL [] a = a := by
    unfold mergedL
    simp
  dsimp only at hp1 hp2
  rw [h1] at hp1
  have h2 : e1 = a := sortedEn_uniq hp1 hs1 (ra.sorted.imp (fun h => by omega))
  subst h2
  exact merged_reg ra rb hp2 hs2
theorem inJoin_le {a b : List En} {x : En} (h : InJoin a b x) : x ∈ a ∨ x ∈ b := h.imp (·.1) (·.1)

/-! ### clocks -/
theorem getT_ofT_lt : ∀ (xs : List Int) (lo q : Nat), q < lo → getT (ofT lo xs) (q : Int) = 0
  | [], _, _, _ => rfl
  | x :: r, lo, q, h => by
    rw [ofT]
    split
    · rw [getT, if_neg (by simp only; omega)]
      exact getT_ofT_lt r (lo + 1) q (by omega)
    · exact getT_ofT_lt r (lo + 1) q (by omega)
theorem getT_ofT : ∀ (xs : List Int) (lo i : Nat) (x : Int), xs[i]? = some x → getT (ofT lo xs) ((lo + i : Nat) : Int) = if 0 < x then x else 0
  | [], _, _, _, h => by simp at h
  | y :: r, lo, 0, x, h => by
    simp at h
    subst h
    rw [ofT]
    by_cases h0 : 0 < y
    · rw [if_pos h0, getT, if_pos (by simp), if_pos h0]
    · rw [if_neg h0, if_neg h0]; exact getT_ofT_lt r (lo + 1) lo (by omega)
  | y :: r, lo, i + 1, x, h => by
    have ih := getT_ofT r (lo + 1) i x (by simpa using h)
    rw [show lo + 1 + i = lo + (i + 1) by omega] at ih
    rw [ofT]
    split
    · rw [getT, if_neg (by simp only; omega)]; exact ih
    · exact ih
theorem getT_merge {a b : List Tk} (ha : validT a = true) (hb : validT b = true) (j : Nat) (hj : j < 64) : getT (walkT maxF a b) (j : Int) = max (getT a (j : Int)) (getT b (j : Int)) := by
  rw [walkT_tab maxF (by unfold maxF; omega) 64 0 a b rfl ha hb]
  have h := getT_ofT (tabT maxF a b 0 64) 0 j (max (getT a (j : Int)) (getT b (j : Int))) (by
    unfold tabT
    rw [List.getElem?_map, List.getElem?_range' hj]
    simp [maxF])
  rw [Nat.zero_add] at h
  rw [h]
  have := (goodF_get ha (j : Int)).1
  split <;> omega
theorem leqT_merge1 {a b : List Tk} (ha : validT a = true) (hb : validT b = true) : leqT a (walkT maxF a b) = true := (leqT_iff _ _).2 fun j hj => by rw [getT_merge ha hb j hj]; omega
theorem leqT_merge2 {a b : List Tk} (ha : validT a = true) (hb : validT b = true) : leqT b (walkT maxF a b) = true := (leqT_iff _ _).2 fun j hj => by rw [getT_merge ha hb j hj]; omega
theorem clockFold_ge : ∀ (es : List En) (c : List Tk), validT c = true → (∀ x ∈ es, validT x.1 = true) → leqT c (clockFold c es) = true ∧ ∀ x ∈ es, leqT x.1 (clockFold c es) = true
  | [], c, _, _ => ⟨leqT_refl c, by simp⟩
  | y :: r, c, hc, h => by
    have hy := h y List.mem_cons_self
    have ih := clockFold_ge r (walkT maxF c y.1) (mergeT_valid hc hy) (fun x hx => h x (List.mem_cons_of_mem _ hx))
    refine ⟨leqT_trans (leqT_merge1 hc hy) ih.1, fun x hx => ?_⟩
    rcases List.mem_cons.1 hx with rfl | hx
    · exact leqT_trans (leqT_merge2 hc hy) ih.1
    · exact ih.2 x hx
theorem clockR_ge {es : List En} (h : ∀ x ∈ es, validT x.1 = true) : ∀ x ∈ es, leqT x.1 (clockR es) = true := (clockFold_ge es [] rfl h).2
theorem clockFold_least : ∀ (es : List En) (c d : List Tk), validT c = true → (∀ x ∈ es, validT x.1 = true) → leqT c d = true → (∀ x ∈ es, leqT x.1 d = true) → leqT (clockFold c es) d = true
  | [], _, _, _, _, h, _ => h
  | y :: r, c, d, hc, h, h1, h2 => by
    have hy := h y List.mem_cons_self
    refine clockFold_least r (walkT maxF c y.1) d (mergeT_valid hc hy) (fun x hx => h x (List.mem_cons_of_mem _ hx)) ?_ (fun x hx => h2 x (List.mem_cons_of_mem _ hx))
    rw [leqT_iff]
    intro j hj
    rw [getT_merge hc hy j hj]
    have e1 := (leqT_iff _ _).1 h1 j hj
    have e2 := (leqT_iff _ _).1 (h2 y List.mem_cons_self) j hj
    omega
theorem clockV {es : List En} (h : ∀ x ∈ es, validT x.1 = true) : validT (clockR es) = true := by
  have : ∀ (es : List En) (c : List Tk), validT c = true → (∀ x ∈ es, validT x.1 = true) → validT (clockFold c es) = true := by
    intro es
    induction es with
    | nil => intro c hc _; exact hc
    | cons x r ih => intro c hc h; exact ih _ (mergeT_valid hc (h x List.mem_cons_self)) (fun y hy => h y (List.mem_cons_of_mem _ hy))
  exact this es [] rfl h

/-- one more event -/
theorem incT_facts {c : List Tk} (hc : validT c = true) (k : Nat) (hk : k ≤ 63) (hm : getT c (k : Int) ≠ 1000000000000000) :
    validT (walkT maxF c [((k : Int), getT c (k : Int) + 1)]) = true ∧ ∀ j : Nat, j < 64 → getT (walkT maxF c [((k : Int), getT c (k : Int) + 1)]) (j : Int) = if j = k then getT c (k : Int) + 1 else getT c (j : Int) := by
  have h0 := goodF_get hc (k : Int)
  have hb : validT [((k : Int), getT c (k : Int) + 1)] = true := by
    simp only [validT, goodF, okTk, Bool.and_true, Bool.and_eq_true, decide_eq_true_eq]
    omega
  refine ⟨mergeT_valid hc hb, fun j hj => ?_⟩
  rw [getT_merge hc hb j hj]
  by_cases h : j = k
  · subst h
    rw [if_pos rfl, getT, if_pos rfl]
    simp only
    omega
  · rw [if_neg h, getT, if_neg (by simp only; omega), getT]
    have := (goodF_get hc (j : Int)).1
    omega
end Go.Proofs.YthldgioggjpnpaaGreat
