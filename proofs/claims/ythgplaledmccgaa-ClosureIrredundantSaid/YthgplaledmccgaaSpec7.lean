/-
  Plain laws: forward chaining gives the least closed set; the lectically next closed set; all closed sets.
-/
import Derived.Test.YthgplaledmccgaaSpec6
namespace Go.Proofs.Ythgplaledmccgaa

/-- s is a subset of t -/
def Le (s t : List Bool) : Prop := ∀ i, s.getD i false = true → t.getD i false = true
theorem Le.refl (s : List Bool) : Le s s := fun _ h => h
theorem Le.trans {s t r : List Bool} (h : Le s t) (k : Le t r) : Le s r := fun i hi => k i (h i hi)
theorem Le.antisymm {s t : List Bool} (hl : s.length = t.length) (h : Le s t) (k : Le t s) : s = t := by
  apply List.ext_getElem hl
  intro i h1 h2
  have e1 : s.getD i false = s[i] := by rw [List.getD_eq_getElem?_getD, List.getElem?_eq_getElem h1]; rfl
  have e2 : t.getD i false = t[i] := by rw [List.getD_eq_getElem?_getD, List.getElem?_eq_getElem h2]; rfl
  have a := h i
  have b := k i
  rw [e1, e2] at a b
  cases hs : s[i] <;> cases ht : t[i] <;> simp_all
theorem getD_set_self {s : List Bool} {i : Nat} (h : i < s.length) : (s.set i true).getD i false = true := by
  rw [List.getD_eq_getElem?_getD, List.getElem?_set_self h]; rfl
theorem getD_set_ne {s : List Bool} {i j : Nat} (h : i ≠ j) : (s.set i true).getD j false = s.getD j false := by
  rw [List.getD_eq_getElem?_getD, List.getElem?_set_ne h, ← List.getD_eq_getElem?_getD]
theorem Le.set {s t : List Bool} {j : Nat} (h : Le s t) (hj : t.getD j false = true) : Le (s.set j true) t := by
  intro i hi
  by_cases hij : j = i
  · subst hij; exact hj
  · rw [getD_set_ne hij] at hi; exact h i hi

theorem chainF_least {hs : List Horn} {U : Nat → Bool} {t : List Bool} (ht : fireI hs U t = none) (f : Nat) {s : List Bool} (h : Le s t) : Le (chainF hs U f s).1 t := by
  induction f generalizing s with
  | zero => exact h
  | succ f ih =>
    rw [chainF]
    split
    · exact h
    · next i hi =>
      refine ih ?_
      obtain ⟨h1, h2, h3⟩ := fireI_some hi
      have hnf := not_fire ht i h1
      rw [h2, Bool.true_and] at hnf
      apply h.set
      unfold firesB at h3 hnf
      simp only [Bool.and_eq_true, Bool.not_eq_true'] at h3
      have hall : ((hs.getD i ([], 0)).1.all fun p => t.getD p false) = true := by
        rw [List.all_eq_true] at h3 ⊢
        exact fun p hp => h p (h3.2 p hp)
      rw [hall, Bool.and_true] at hnf
      simpa using hnf
theorem chainF_done {hs : List Horn} {U : Nat → Bool} {f : Nat} {s : List Bool} (hok : okH s.length hs) (hf : zeros s ≤ f) : fireI hs U (chainF hs U f s).1 = none := by
  induction f generalizing s with
  | zero =>
    cases hfi : fireI hs U s with
    | none => exact hfi
    | some i =>
      obtain ⟨h1, h2⟩ := fires_set hok hfi
      have := zeros_set h1 h2
      omega
  | succ f ih =>
    rw [chainF]
    split
    · assumption
    · next i hi =>
      obtain ⟨h1, h2⟩ := fires_set hok hi
      have := zeros_set h1 h2
      exact ih (by rw [List.length_set]; exact hok) (by omega)

/-- O is a closure operator on sets of n places -/
structure IsCl (n : Nat) (O : List Bool → List Bool) : Prop where
  len : ∀ s, s.length = n → (O s).length = n
  ext : ∀ s, s.length = n → Le s (O s)
  mono : ∀ s t, s.length = n → t.length = n → Le s t → Le (O s) (O t)
  idem : ∀ s, s.length = n → O (O s) = O s

theorem chain_cl {n : Nat} {hs : List Horn} {U : Nat → Bool} (hok : okH n hs) : IsCl n fun s => (chainB hs U s).1 := by
  have hfix : ∀ s : List Bool, s.length = n → fireI hs U (chainB hs U s).1 = none := fun s hs' => chainF_done (by rw [hs']; exact hok) (zeros_le s)
  refine ⟨fun s h => by rw [chainB_len]; exact h, fun s _ i hi => chainB_ext s i hi, fun s t h1 h2 hle => ?_, fun s h => ?_⟩
  · exact chainF_least (hfix t h2) _ (hle.trans fun i hi => chainB_ext t i hi)
  · show (chainB hs U (chainB hs U s).1).1 = (chainB hs U s).1
    rw [chainB_none (hfix s h)]
theorem chain_fix {n : Nat} {hs : List Horn} {U : Nat → Bool} (hok : okH n hs) {s : List Bool} (h : s.length = n) : (chainB hs U s).1 = s ↔ fireI hs U s = none := by
  constructor
  · intro e
    have : fireI hs U (chainB hs U s).1 = none := chainF_done (by rw [h]; exact hok) (zeros_le s)
    rwa [e] at this
  · intro e
    rw [chainB_none e]

/-! ### the order of sets -/
theorem val_le_of_Le {s t : List Bool} (hl : s.length = t.length) (h : Le s t) : val s ≤ val t := by
  induction s generalizing t with
  | nil => simp [val]
  | cons a s ih =>
    cases t with
    | nil => simp at hl
    | cons b t =>
      have h0 := h 0
      simp at h0 hl
      have := ih hl fun i hi => by have := h (i + 1); simpa using this (by simpa using hi)
      simp only [val, hl]
      split
      · next ha => rw [h0 ha]; simp; omega
      · omega
theorem val_inj {s t : List Bool} (hl : s.length = t.length) (h : val s = val t) : s = t := by
  induction s generalizing t with
  | nil => cases t with
    | nil => rfl
    | cons => simp at hl
  | cons a s ih =>
    cases t with
    | nil => simp at hl
    | cons b t =>
      simp at hl
      have h1 := val_lt s
      have h2 := val_lt t
      simp only [val, hl] at h
      rw [hl] at h1
      cases a <;> cases b <;> simp at h ⊢
      · exact ih hl h
      · omega
      · omega
      · exact ih hl h
/-- the first place where they part -/
theorem val_lt_iff {s t : List Bool} (hl : s.length = t.length) (h : val s < val t) : ∃ i, i < s.length ∧ t.take i = s.take i ∧ s.getD i false = false ∧ t.getD i false = true := by
  induction s generalizing t with
  | nil => cases t with
    | nil => simp [val] at h
    | cons => simp at hl
  | cons a s ih =>
    cases t with
    | nil => simp at hl
    | cons b t =>
      simp at hl
      have h1 := val_lt s
      have h2 := val_lt t
      rw [hl] at h1
      simp only [val, hl] at h
      by_cases hab : a = b
      · subst hab
        obtain ⟨i, hi, h3, h4, h5⟩ := ih hl (by omega)
        exact ⟨i + 1, by simpa using hi, by simp [h3], by simpa using h4, by simpa using h5⟩
      · refine ⟨0, by simp, by simp, ?_, ?_⟩ <;> cases a <;> cases b <;> simp_all <;> omega

theorem take_Le {s t : List Bool} (i : Nat) (h : Le s t) : Le (s.take i) (t.take i) := by
  intro j hj
  rw [List.getD_eq_getElem?_getD, List.getElem?_take] at hj ⊢
  split
  · next hji =>
    rw [if_pos hji] at hj
    have := h j
    rw [List.getD_eq_getElem?_getD, List.getD_eq_getElem?_getD] at this
    exact this hj
  · next hji => rw [if_neg hji] at hj; simp at hj
theorem cand_take {s : List Bool} {i : Nat} (h : i < s.length) : (cand s i).take i = s.take i := by
  unfold cand
  apply List.ext_getElem?
  intro j
  simp only [List.getElem?_take, List.getElem?_set]
  split
  · next hj =>
    rw [if_neg (by omega), List.getElem?_append_left (by simp; omega), List.getElem?_take, if_pos hj]
  · rfl
theorem cand_Le {s t : List Bool} {i : Nat} (hi : i < s.length) (hp : t.take i = s.take i) (ht : t.getD i false = true) : Le (cand s i) t := by
  intro j hj
  by_cases hij : j = i
  · subst hij; exact ht
  · by_cases hlt : j < i
    · have e : ∀ r : List Bool, (r.take i).getD j false = r.getD j false := fun r => by
        rw [List.getD_eq_getElem?_getD, List.getElem?_take, if_pos hlt, ← List.getD_eq_getElem?_getD]
      rw [← e, cand_take hi, ← hp, e] at hj
      exact hj
    · exfalso
      unfold cand at hj
      rw [getD_set_ne (fun h => hij h.symm), List.getD_eq_getElem?_getD, List.getElem?_append_right (by simp; omega), List.getElem?_replicate] at hj
      split at hj <;> simp at hj

section
variable {n : Nat} {O : List Bool → List Bool}
/-- at the first place where a greater closed set parts from s, the candidate keeps s's beginning -/
theorem good_of (hO : IsCl n O) {s t : List Bool} (hs : s.length = n) (ht : t.length = n) (htc : O t = t) {i : Nat} (hi : i < n) (hp : t.take i = s.take i) (hti : t.getD i false = true) : (O (cand s i)).take i = s.take i ∧ Le (O (cand s i)) t := by
  have hcl : (cand s i).length = n := by rw [cand_len _ _ (by omega), hs]
  have h1 : Le (O (cand s i)) t := by rw [← htc]; exact hO.mono _ _ hcl ht (cand_Le (by omega) hp hti)
  refine ⟨Le.antisymm (by simp [hO.len _ hcl, hs]) ?_ ?_, h1⟩
  · rw [← hp]; exact take_Le i h1
  · rw [← cand_take (s := s) (by omega)]; exact take_Le i (hO.ext _ hcl)
theorem afterFrom_next {s : List Bool} {k : Nat} (hk : k ≤ n) {nx : List Bool} (h : afterFrom O s k = some nx) :
    ∃ j, j < k ∧ s.getD j false = false ∧ nx = O (cand s j) ∧ nx.take j = s.take j ∧ ∀ i, j < i → i < k → s.getD i false = false → (O (cand s i)).take i ≠ s.take i := by
  induction k with
  | zero => cases h
  | succ k ih =>
    unfold afterFrom at h
    by_cases h1 : s.getD k false = true
    · rw [if_pos h1] at h
      obtain ⟨j, hj, a, b, c, d⟩ := ih (by omega) h
      refine ⟨j, by omega, a, b, c, fun i hi hik hsi => ?_⟩
      by_cases hik2 : i = k
      · subst hik2; rw [hsi] at h1; cases h1
      · exact d i hi (by omega) hsi
    · rw [if_neg h1] at h
      by_cases h2 : (O (cand s k)).take k = s.take k
      · rw [if_pos h2] at h
        cases h
        exact ⟨k, by omega, by simpa using h1, rfl, h2, fun i hi hik => by omega⟩
      · rw [if_neg h2] at h
        obtain ⟨j, hj, a, b, c, d⟩ := ih (by omega) h
        refine ⟨j, by omega, a, b, c, fun i hi hik hsi => ?_⟩
        by_cases hik2 : i = k
        · subst hik2; exact h2
        · exact d i hi (by omega) hsi
theorem afterFrom_none {s : List Bool} {k : Nat} (h : afterFrom O s k = none) : ∀ i, i < k → s.getD i false = false → (O (cand s i)).take i ≠ s.take i := by
  induction k with
  | zero => intro i hi; omega
  | succ k ih =>
    unfold afterFrom at h
    by_cases h1 : s.getD k false = true
    · rw [if_pos h1] at h
      intro i hi hsi
      by_cases hik : i = k
      · subst hik; rw [hsi] at h1; cases h1
      · exact ih h i (by omega) hsi
    · rw [if_neg h1] at h
      by_cases h2 : (O (cand s k)).take k = s.take k
      · rw [if_pos h2] at h; cases h
      · rw [if_neg h2] at h
        intro i hi hsi
        by_cases hik : i = k
        · subst hik; exact h2
        · exact ih h i (by omega) hsi
theorem after_none (hO : IsCl n O) {s : List Bool} (hs : s.length = n) (h : afterL O s = none) : ∀ t, t.length = n → O t = t → val t ≤ val s := by
  intro t ht htc
  rcases Nat.lt_or_ge (val s) (val t) with hlt | hge
  · obtain ⟨i, hi, hp, h0, h1⟩ := val_lt_iff (hs.trans ht.symm) hlt
    exact absurd (good_of hO hs ht htc (by omega) hp h1).1 (afterFrom_none h i (by omega) h0)
  · exact hge
theorem after_some (hO : IsCl n O) {s nx : List Bool} (hs : s.length = n) (h : afterL O s = some nx) : nx.length = n ∧ O nx = nx ∧ val s < val nx ∧ ∀ t, t.length = n → O t = t → val s < val t → val nx ≤ val t := by
  obtain ⟨j, hj, hsj, rfl, hp, hbig⟩ := afterFrom_next (n := n) (by omega) h
  have hcl : (cand s j).length = n := by rw [cand_len _ _ (by omega), hs]
  have hol := hO.len _ hcl
  refine ⟨hol, hO.idem _ hcl, val_less (by rw [hol]; exact hs) (by omega) hp hsj (hO.ext _ hcl _ (cand_at s j (by omega))), fun t ht htc hlt => ?_⟩
  obtain ⟨i, hi, hpi, h0, h1⟩ := val_lt_iff (hs.trans ht.symm) hlt
  obtain ⟨g1, g2⟩ := good_of hO hs ht htc (by omega) hpi h1
  rcases Nat.lt_trichotomy i j with hij | hij | hij
  · apply Nat.le_of_lt
    have e : ∀ r : List Bool, (r.take j).getD i false = r.getD i false := fun r => by
      rw [List.getD_eq_getElem?_getD, List.getElem?_take, if_pos hij, ← List.getD_eq_getElem?_getD]
    refine val_less (by rw [hol]; exact ht.symm) (i := i) (by omega) ?_ ?_ h1
    · have e2 : ((O (cand s j)).take j).take i = (O (cand s j)).take i := by rw [List.take_take, Nat.min_eq_left (by omega)]
      rw [hpi, ← e2, hp, List.take_take, Nat.min_eq_left (by omega)]
    · rw [← e, hp, e]; exact h0
  · subst hij
    exact val_le_of_Le (by rw [hol]; exact ht.symm) g2
  · exact absurd g1 (hbig i hij (by omega) h0)
end

/-! ### all sets -/
def subsetsB : Nat → List (List Bool)
  | 0 => [[]]
  | n + 1 => (subsetsB n).map (false :: ·) ++ (subsetsB n).map (true :: ·)
theorem mem_subsetsB {n : Nat} {s : List Bool} : s ∈ subsetsB n ↔ s.length = n := by
  induction n generalizing s with
  | zero => cases s <;> simp [subsetsB]
  | succ n ih =>
    simp only [subsetsB, List.mem_append, List.mem_map]
    constructor
    · rintro (⟨t, ht, rfl⟩ | ⟨t, ht, rfl⟩) <;> simp [ih.1 ht]
    · intro h
      cases s with
      | nil => simp at h
      | cons b t =>
        simp at h
        cases b
        · exact .inl ⟨t, ih.2 h, rfl⟩
        · exact .inr ⟨t, ih.2 h, rfl⟩
theorem subsetsB_sorted (n : Nat) : (subsetsB n).Pairwise fun s t => val s < val t := by
  induction n with
  | zero => simp [subsetsB]
  | succ n ih =>
    unfold subsetsB
    rw [List.pairwise_append]
    refine ⟨?_, ?_, ?_⟩
    · rw [List.pairwise_map]
      exact ih.imp fun h => by simpa [val] using h
    · rw [List.pairwise_map]
      refine List.Pairwise.imp_of_mem ?_ ih
      intro a b ha hb h
      simp only [val, mem_subsetsB.1 ha, mem_subsetsB.1 hb]
      omega
    · intro a ha b hb
      obtain ⟨s, hs, rfl⟩ := List.mem_map.1 ha
      obtain ⟨t, ht, rfl⟩ := List.mem_map.1 hb
      have := val_lt s
      rw [mem_subsetsB.1 hs] at this
      simp only [val, mem_subsetsB.1 ht]
      simp
      omega
theorem sorted_ext {α : Type} (f : α → Nat) {l1 l2 : List α} (h1 : l1.Pairwise fun a b => f a < f b) (h2 : l2.Pairwise fun a b => f a < f b) (hm : ∀ x, x ∈ l1 ↔ x ∈ l2) : l1 = l2 := by
  induction l1 generalizing l2 with
  | nil =>
    cases l2 with
    | nil => rfl
    | cons b t => exact absurd ((hm b).2 (by simp)) (by simp)
  | cons a t1 ih =>
    cases l2 with
    | nil => exact absurd ((hm a).1 (by simp)) (by simp)
    | cons b t2 =>
      rw [List.pairwise_cons] at h1 h2
      have hab : a = b := by
        have ha := (hm a).1 (by simp)
        have hb := (hm b).2 (by simp)
        rcases List.mem_cons.1 ha with h | h
        · exact h
        · rcases List.mem_cons.1 hb with k | k
          · exact k.symm
          · have := h2.1 a h
            have := h1.1 b k
            omega
      subst hab
      congr 1
      refine ih h1.2 h2.2 fun x => ?_
      constructor
      · intro hx
        rcases List.mem_cons.1 ((hm x).1 (List.mem_cons_of_mem _ hx)) with h | h
        · subst h; have := h1.1 x hx; omega
        · exact h
      · intro hx
        rcases List.mem_cons.1 ((hm x).2 (List.mem_cons_of_mem _ hx)) with h | h
        · subst h; have := h2.1 x hx; omega
        · exact h
theorem allFrom_spec {n : Nat} {O : List Bool → List Bool} (hO : IsCl n O) (f : Nat) {s : List Bool} (hs : s.length = n) (hc : O s = s) (hf : 2 ^ n ≤ f + val s) :
    (allFrom O f s).Pairwise (fun a b => val a < val b) ∧ ∀ t, t ∈ allFrom O f s ↔ t.length = n ∧ O t = t ∧ val s ≤ val t := by
  induction f generalizing s with
  | zero => have := val_lt s; rw [hs] at this; omega
  | succ f ih =>
    rw [allFrom]
    cases ha : afterL O s with
    | none =>
      simp only [List.pairwise_cons, List.not_mem_nil, false_imp_iff, implies_true, List.Pairwise.nil, and_self, true_and, List.mem_cons, or_false]
      intro t
      constructor
      · rintro rfl; exact ⟨hs, hc, Nat.le_refl _⟩
      · rintro ⟨h1, h2, h3⟩
        exact val_inj (h1.trans hs.symm) (Nat.le_antisymm (after_none hO hs ha t h1 h2) h3)
    | some nx =>
      obtain ⟨n1, n2, n3, n4⟩ := after_some hO hs ha
      obtain ⟨i1, i2⟩ := ih n1 n2 (by omega)
      simp only [List.pairwise_cons, List.mem_cons]
      refine ⟨⟨fun t ht => ?_, i1⟩, fun t => ?_⟩
      · have := ((i2 t).1 ht).2.2; omega
      · rw [i2]
        constructor
        · rintro (rfl | ⟨h1, h2, h3⟩)
          · exact ⟨hs, hc, Nat.le_refl _⟩
          · exact ⟨h1, h2, by omega⟩
        · rintro ⟨h1, h2, h3⟩
          rcases Nat.lt_or_ge (val s) (val t) with h | h
          · exact .inr ⟨h1, h2, n4 t h1 h2 h⟩
          · exact .inl (val_inj (h1.trans hs.symm) (by omega))
theorem allB_eq {n : Nat} {O : List Bool → List Bool} (hO : IsCl n O) : allB O n = (subsetsB n).filter fun s => decide (O s = s) := by
  have h0 : (List.replicate n false).length = n := by simp
  obtain ⟨h1, h2⟩ := allFrom_spec hO (2 ^ n) (hO.len _ h0) (hO.idem _ h0) (by omega)
  refine sorted_ext val h1 ((subsetsB_sorted n).filter _) fun t => ?_
  rw [show allB O n = allFrom O (2 ^ n) (O (List.replicate n false)) from rfl, h2, List.mem_filter, mem_subsetsB]
  constructor
  · rintro ⟨a, b, _⟩; exact ⟨a, by simpa using b⟩
  · rintro ⟨a, b⟩
    have b : O t = t := by simpa using b
    refine ⟨a, b, ?_⟩
    have hle : Le (O (List.replicate n false)) t := by
      rw [← b]
      refine hO.mono _ _ h0 a fun i hi => ?_
      rw [List.getD_eq_getElem?_getD, List.getElem?_replicate] at hi
      split at hi <;> simp at hi
    exact val_le_of_Le (by rw [hO.len _ h0, a]) hle
end Go.Proofs.Ythgplaledmccgaa
