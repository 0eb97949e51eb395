/-
  Plain laws: saturation under implications of proper supersets; the canonical basis, set by set in lectic order.
-/
import Derived.Test.YthgplaledmccgaaSpec15
namespace Go.Proofs.Ythgplaledmccgaa
abbrev SetB := List Bool
def leB (a b : SetB) : Bool := (List.range a.length).all fun i => !(a.getD i false) || b.getD i false
theorem leB_iff {a b : SetB} : leB a b = true ↔ Le a b := by
  unfold leB Le
  rw [List.all_eq_true]
  constructor
  · intro h i hi
    by_cases hl : i < a.length
    · have := h i (List.mem_range.2 hl)
      rw [hi] at this
      simpa using this
    · rw [List.getD_eq_getElem?_getD, List.getElem?_eq_none (by omega)] at hi
      simp at hi
  · intro h i _
    cases hi : a.getD i false with
    | false => rfl
    | true => rw [h i hi]; rfl
def belowB (a b : SetB) : Bool := leB a b && decide (a ≠ b)
theorem belowB_iff {a b : SetB} : belowB a b = true ↔ Le a b ∧ a ≠ b := by
  unfold belowB; rw [Bool.and_eq_true, leB_iff, decide_eq_true_eq]
def orK (o c : SetB) (k : Nat) : SetB := setAll o ((List.range k).filter fun i => c.getD i false)
def orB (o c : SetB) : SetB := orK o c c.length
theorem orK_len (o c : SetB) (k : Nat) : (orK o c k).length = o.length := setAll_len _ _
theorem orB_len (o c : SetB) : (orB o c).length = o.length := setAll_len _ _
theorem orK_succ (o c : SetB) (k : Nat) : orK o c (k + 1) = if c.getD k false = true then (orK o c k).set k true else orK o c k := by
  unfold orK
  rw [List.range_succ, List.filter_append]
  by_cases h : c.getD k false = true
  · rw [if_pos h, ← setAll_snoc]; simp only [List.filter_cons, h, if_true, List.filter_nil]
  · rw [if_neg h]; simp only [List.filter_cons, h, List.filter_nil]; simp
theorem setAll_get {s : SetB} {l : List Nat} (hl : ∀ p ∈ l, p < s.length) (i : Nat) : (setAll s l).getD i false = true ↔ s.getD i false = true ∨ i ∈ l := by
  unfold setAll
  induction l generalizing s with
  | nil => simp
  | cons a t ih =>
    rw [List.foldl_cons, ih (by intro p hp; rw [List.length_set]; exact hl p (by simp [hp]))]
    by_cases hai : a = i
    · subst hai
      rw [getD_set_self (hl a (by simp))]
      simp
    · rw [getD_set_ne hai, List.mem_cons]
      constructor
      · rintro (h | h)
        · exact .inl h
        · exact .inr (.inr h)
      · rintro (h | h | h)
        · exact .inl h
        · exact absurd h.symm hai
        · exact .inr h
theorem orB_get {o c : SetB} (hl : c.length = o.length) (i : Nat) : (orB o c).getD i false = true ↔ o.getD i false = true ∨ c.getD i false = true := by
  unfold orB orK
  rw [setAll_get (by intro p hp; simp at hp; omega)]
  rw [List.mem_filter, List.mem_range]
  constructor
  · rintro (h | h)
    · exact .inl h
    · exact .inr h.2
  · rintro (h | h)
    · exact .inl h
    · refine .inr ⟨?_, h⟩
      by_cases hi : i < c.length
      · exact hi
      · rw [List.getD_eq_getElem?_getD, List.getElem?_eq_none (by omega)] at h
        simp at h
theorem zeros_Le {s t : SetB} (hl : s.length = t.length) (h : Le s t) : zeros t ≤ zeros s ∧ (zeros t = zeros s → s = t) := by
  induction s generalizing t with
  | nil => cases t with
    | nil => exact ⟨Nat.le_refl _, fun _ => rfl⟩
    | cons => simp at hl
  | cons a s ih =>
    cases t with
    | nil => simp at hl
    | cons b t =>
      have h0 := h 0
      simp at h0 hl
      have := ih hl fun i hi => by have := h (i + 1); simpa using this (by simpa using hi)
      simp only [zeros, List.countP_cons] at this ⊢
      cases a <;> cases b <;> simp_all <;> omega
theorem orK_zeros {o c : SetB} {k : Nat} (hk : k < o.length) (h1 : c.getD k false = true) (h2 : (orK o c k).getD k false = false) : zeros (orK o c (k + 1)) + 1 = zeros (orK o c k) := by
  rw [orK_succ, if_pos h1]
  exact zeros_set (by rw [orK_len]; exact hk) h2
theorem orK_same {o c : SetB} {k : Nat} (h : c.getD k false = false ∨ (orK o c k).getD k false = true) : orK o c (k + 1) = orK o c k := by
  rw [orK_succ]
  rcases h with h | h
  · rw [if_neg (by rw [h]; decide)]
  · split
    · apply List.ext_getElem?
      intro j
      rw [List.getElem?_set]
      split
      · next hj =>
        subst hj
        rw [List.getD_eq_getElem?_getD] at h
        split
        · cases hx : (orK o c k)[k]? with
          | none => rw [hx] at h; simp at h
          | some x => rw [hx] at h; simp at h; rw [h]
        · next hk => rw [List.getElem?_eq_none (by omega)]
      · rfl
    · rfl
theorem orK_Le {o c : SetB} (k : Nat) : Le o (orK o c k) := by
  induction k with
  | zero => exact Le.refl _
  | succ k ih =>
    rw [orK_succ]
    split
    · exact fun i hi => getD_set _ _ _ (ih i hi)
    · exact ih

abbrev PairB := SetB × SetB
def satPass (F : List PairB) (s : SetB) : SetB := F.foldl (fun o f => if belowB f.1 o then orB o f.2 else o) s
def satL (F : List PairB) : Nat → SetB → SetB
  | 0, s => s
  | k + 1, s => if zeros (satPass F s) < zeros s then satL F k (satPass F s) else satPass F s
def sat (F : List PairB) (s : SetB) : SetB := satL F (s.length + 1) s
def okQ (F : List PairB) (t : SetB) : Bool := F.all fun f => !(belowB f.1 t) || leB f.2 t
theorem okQ_iff {F : List PairB} {t : SetB} : okQ F t = true ↔ ∀ f ∈ F, Le f.1 t → f.1 ≠ t → Le f.2 t := by
  unfold okQ
  rw [List.all_eq_true]
  constructor
  · intro h f hf h1 h2
    have := h f hf
    rw [belowB_iff.2 ⟨h1, h2⟩] at this
    exact leB_iff.1 (by simpa using this)
  · intro h f hf
    cases hb : belowB f.1 t with
    | false => rfl
    | true =>
      have := belowB_iff.1 hb
      rw [leB_iff.2 (h f hf this.1 this.2)]; rfl
theorem satPass_len (F : List PairB) (s : SetB) : (satPass F s).length = s.length := by
  unfold satPass
  induction F generalizing s with
  | nil => rfl
  | cons f F ih =>
    rw [List.foldl_cons, ih]
    split
    · exact orB_len _ _
    · rfl
theorem satPass_Le (F : List PairB) (s : SetB) : Le s (satPass F s) := by
  unfold satPass
  induction F generalizing s with
  | nil => exact Le.refl _
  | cons f F ih =>
    rw [List.foldl_cons]
    refine Le.trans ?_ (ih _)
    split
    · exact orK_Le _
    · exact Le.refl _
theorem satPass_in {n : Nat} {F : List PairB} (hF : ∀ f ∈ F, f.1.length = n ∧ f.2.length = n) {s t : SetB} (hs : s.length = n) (_ht : t.length = n) (hq : okQ F t = true) (h : Le s t) : Le (satPass F s) t := by
  unfold satPass
  have hq' := okQ_iff.1 hq
  clear hq
  induction F generalizing s with
  | nil => exact h
  | cons f F ih =>
    rw [List.foldl_cons]
    refine ih (fun g hg => hF g (by simp [hg])) ?_ ?_ (fun g hg => hq' g (by simp [hg]))
    · split
      · rw [orB_len]; exact hs
      · exact hs
    · split
      · next hb =>
        obtain ⟨h1, h2⟩ := belowB_iff.1 hb
        have hf := hF f (by simp)
        have h3 := hq' f (by simp) (h1.trans h) (fun e => h2 (Le.antisymm (by omega) h1 (by rw [e]; exact h)))
        intro i hi
        rcases (orB_get (by omega) i).1 hi with hi | hi
        · exact h i hi
        · exact h3 i hi
      · exact h
theorem satPass_fix {n : Nat} {F : List PairB} (hF : ∀ f ∈ F, f.1.length = n ∧ f.2.length = n) {s : SetB} (hs : s.length = n) (h : ¬ zeros (satPass F s) < zeros s) : satPass F s = s ∧ okQ F s = true := by
  have e : satPass F s = s := ((zeros_Le (satPass_len F s).symm (satPass_Le F s)).2 (by
    have := (zeros_Le (satPass_len F s).symm (satPass_Le F s)).1
    omega)).symm
  refine ⟨e, okQ_iff.2 ?_⟩
  clear h
  unfold satPass at e
  induction F with
  | nil => simp
  | cons f F ih =>
    rw [List.foldl_cons] at e
    have hmid : (if belowB f.1 s then orB s f.2 else s) = s := by
      refine Le.antisymm (by split <;> simp [orB_len]) ?_ ?_
      · have := satPass_Le F (if belowB f.1 s then orB s f.2 else s)
        unfold satPass at this
        rwa [e] at this
      · split
        · exact orK_Le _
        · exact Le.refl _
    rw [hmid] at e
    intro g hg h1 h2
    rcases List.mem_cons.1 hg with rfl | hg
    · rw [if_pos (belowB_iff.2 ⟨h1, h2⟩)] at hmid
      have hf := hF g (by simp)
      intro i hi
      rw [← hmid]
      exact (orB_get (by omega) i).2 (.inr hi)
    · exact ih (fun k hk => hF k (by simp [hk])) e g hg h1 h2
theorem satPass_ok {F : List PairB} {s : SetB} (h : okQ F s = true) {n : Nat} (hF : ∀ f ∈ F, f.1.length = n ∧ f.2.length = n) (hs : s.length = n) : satPass F s = s :=
  Le.antisymm (satPass_len F s) (satPass_in hF hs hs h (Le.refl _)) (satPass_Le F s)
section
variable {n : Nat} {F : List PairB} (hF : ∀ f ∈ F, f.1.length = n ∧ f.2.length = n)
include hF
theorem satL_spec (k : Nat) {s : SetB} (hs : s.length = n) (hk : zeros s < k) : (satL F k s).length = n ∧ Le s (satL F k s) ∧ okQ F (satL F k s) = true ∧ ∀ t, t.length = n → okQ F t = true → Le s t → Le (satL F k s) t := by
  induction k generalizing s with
  | zero => omega
  | succ k ih =>
    rw [satL]
    split
    · next h =>
      obtain ⟨a, b, c, d⟩ := ih (s := satPass F s) (by rw [satPass_len]; exact hs) (by omega)
      exact ⟨a, (satPass_Le F s).trans b, c, fun t ht hq hst => d t ht hq (satPass_in hF hs ht hq hst)⟩
    · next h =>
      obtain ⟨e, q⟩ := satPass_fix hF hs h
      rw [e]
      exact ⟨hs, Le.refl _, q, fun _ _ _ h => h⟩
theorem sat_spec {s : SetB} (hs : s.length = n) : (sat F s).length = n ∧ Le s (sat F s) ∧ okQ F (sat F s) = true ∧ ∀ t, t.length = n → okQ F t = true → Le s t → Le (sat F s) t :=
  satL_spec hF _ hs (by have := zeros_le s; omega)
theorem sat_fix {s : SetB} (hs : s.length = n) : sat F s = s ↔ okQ F s = true := by
  obtain ⟨a, b, c, d⟩ := sat_spec hF hs
  constructor
  · intro e; rw [e] at c; exact c
  · intro h; exact Le.antisymm (by omega) (d s hs h (Le.refl _)) b
theorem sat_cl : IsCl n (sat F) := by
  refine ⟨fun s hs => (sat_spec hF hs).1, fun s hs => (sat_spec hF hs).2.1, fun s t hs ht h => ?_, fun s hs => ?_⟩
  · obtain ⟨a, b, c, d⟩ := sat_spec hF ht
    exact (sat_spec hF hs).2.2.2 _ a c (h.trans b)
  · exact (sat_fix hF (sat_spec hF hs).1).2 (sat_spec hF hs).2.2.1
end

/-! ### set by set -/
def stemStep (O : SetB → SetB) (st : List PairB × Nat) (t : SetB) : List PairB × Nat :=
  if okQ st.1 t = true then (if O t = t then st.1 else st.1 ++ [(t, O t)], st.2 + 1) else st
def stemTo (O : SetB → SetB) (n v : Nat) : List PairB × Nat := ((subsetsB n).take v).foldl (stemStep O) ([], 0)
def stemB (O : SetB → SetB) (n : Nat) : List PairB × Nat := (subsetsB n).foldl (stemStep O) ([], 0)
theorem subsetsB_val (n : Nat) : (subsetsB n).map val = List.range (2 ^ n) := by
  induction n with
  | zero => rfl
  | succ n ih =>
    have hl : ∀ t ∈ subsetsB n, t.length = n := fun t ht => mem_subsetsB.1 ht
    simp only [subsetsB, List.map_append, List.map_map]
    have e1 : (subsetsB n).map (val ∘ (false :: ·)) = List.range (2 ^ n) := by
      rw [← ih]
      apply List.map_congr_left
      intro t _
      simp [val]
    have e2 : (subsetsB n).map (val ∘ (true :: ·)) = (List.range (2 ^ n)).map (2 ^ n + ·) := by
      rw [← ih, List.map_map]
      apply List.map_congr_left
      intro t ht
      simp [val, hl t ht]
    rw [e1, e2, Nat.pow_succ, Nat.mul_two, List.range_add]
theorem subsetsB_length (n : Nat) : (subsetsB n).length = 2 ^ n := by
  have := congrArg List.length (subsetsB_val n)
  simpa using this
theorem subsetsB_at {n : Nat} {s : SetB} (hs : s.length = n) : (subsetsB n)[val s]? = some s := by
  obtain ⟨i, hi⟩ := List.mem_iff_getElem?.1 (mem_subsetsB.2 hs)
  have hil := (List.getElem?_eq_some_iff.1 hi).1
  rw [subsetsB_length] at hil
  have e : ((subsetsB n).map val)[i]? = some (val s) := by rw [List.getElem?_map, hi]; rfl
  rw [subsetsB_val, List.getElem?_range hil] at e
  injection e with e
  rw [← e]; exact hi
theorem subsetsB_nth {n v : Nat} (h : v < 2 ^ n) : ∃ t, t.length = n ∧ val t = v ∧ (subsetsB n)[v]? = some t := by
  have hl : v < (subsetsB n).length := by rw [subsetsB_length]; exact h
  refine ⟨(subsetsB n)[v], mem_subsetsB.1 (List.getElem_mem hl), ?_, List.getElem?_eq_getElem hl⟩
  have e : ((subsetsB n).map val)[v]? = some (val (subsetsB n)[v]) := by rw [List.getElem?_map, List.getElem?_eq_getElem hl]; rfl
  rw [subsetsB_val, List.getElem?_range h] at e
  injection e with e
  exact e.symm
theorem stemTo_succ {O : SetB → SetB} {n : Nat} {s : SetB} (hs : s.length = n) : stemTo O n (val s + 1) = stemStep O (stemTo O n (val s)) s := by
  unfold stemTo
  have := subsetsB_at hs
  obtain ⟨hl, he⟩ := List.getElem?_eq_some_iff.1 this
  rw [List.take_succ_eq_append_getElem hl, List.foldl_append, he]
  rfl
theorem stemTo_all (O : SetB → SetB) (n v : Nat) (h : 2 ^ n ≤ v) : stemTo O n v = stemB O n := by
  unfold stemTo stemB
  rw [List.take_of_length_le (by rw [subsetsB_length]; exact h)]
/-- what the state holds: pairs of sets of n places and their closures, of sets before v -/
theorem stemTo_mem {O : SetB → SetB} {n : Nat} (_hO : IsCl n O) (v : Nat) : ∀ f ∈ (stemTo O n v).1, f.1.length = n ∧ f.2 = O f.1 ∧ val f.1 < v := by
  induction v with
  | zero => intro f hf; simp [stemTo] at hf
  | succ v ih =>
    by_cases hv : v < 2 ^ n
    · obtain ⟨t, ht, hvt, _⟩ := subsetsB_nth hv
      subst hvt
      rw [stemTo_succ ht]
      intro f hf
      unfold stemStep at hf
      split at hf
      · simp only at hf
        split at hf
        · have := ih f hf; exact ⟨this.1, this.2.1, by omega⟩
        · rcases List.mem_append.1 hf with hf | hf
          · have := ih f hf; exact ⟨this.1, this.2.1, by omega⟩
          · rw [List.mem_singleton] at hf
            subst hf
            exact ⟨ht, rfl, by simp⟩
      · have := ih f hf; exact ⟨this.1, this.2.1, by omega⟩
    · intro f hf
      rw [stemTo_all O n _ (by omega), ← stemTo_all O n v (by omega)] at hf
      have := ih f hf
      exact ⟨this.1, this.2.1, by omega⟩
theorem stemTo_lens {O : SetB → SetB} {n : Nat} (hO : IsCl n O) (v : Nat) : ∀ f ∈ (stemTo O n v).1, f.1.length = n ∧ f.2.length = n := fun f hf => by
  have := stemTo_mem hO v f hf
  exact ⟨this.1, by rw [this.2.1]; exact hO.len _ this.1⟩
/-- no set between: the state stays -/
theorem stemTo_skip {O : SetB → SetB} {n : Nat} (a d : Nat) (h : ∀ t : SetB, t.length = n → a ≤ val t → val t < a + d → okQ (stemTo O n a).1 t = false) : stemTo O n (a + d) = stemTo O n a := by
  induction d with
  | zero => rfl
  | succ d ih =>
    have hd := ih fun t ht h1 h2 => h t ht h1 (by omega)
    by_cases hv : a + d < 2 ^ n
    · obtain ⟨t, ht, hvt, _⟩ := subsetsB_nth hv
      have := h t ht (by omega) (by omega)
      show stemTo O n (a + d + 1) = _
      rw [← hvt, stemTo_succ ht, hvt, hd]
      unfold stemStep
      rw [this]
      rfl
    · rw [← hd]
      show stemTo O n (a + d + 1) = _
      rw [stemTo_all O n _ (by omega), stemTo_all O n _ (by omega)]
/-- the state after a set and what lies after it in lectic order -/
theorem stem_next {O : SetB → SetB} {n : Nat} (hO : IsCl n O) {s nx : SetB} (hs : s.length = n) (h : afterL (sat (stemTo O n (val s + 1)).1) s = some nx) :
    nx.length = n ∧ val s < val nx ∧ stemTo O n (val nx) = stemTo O n (val s + 1) ∧ okQ (stemTo O n (val nx)).1 nx = true := by
  have hF := stemTo_lens hO (val s + 1)
  obtain ⟨h1, h2, h3, h4⟩ := after_some (sat_cl hF) hs h
  have e : stemTo O n (val nx) = stemTo O n (val s + 1) := by
    have := stemTo_skip (O := O) (n := n) (val s + 1) (val nx - (val s + 1)) fun t ht ha hb => by
      rw [Bool.eq_false_iff]
      intro hq
      have := h4 t ht ((sat_fix hF ht).2 hq) (by omega)
      omega
    rw [show val s + 1 + (val nx - (val s + 1)) = val nx by omega] at this
    exact this
  exact ⟨h1, h3, e, by rw [e]; exact (sat_fix hF h1).1 h2⟩
theorem stem_last {O : SetB → SetB} {n : Nat} (hO : IsCl n O) {s : SetB} (hs : s.length = n) (h : afterL (sat (stemTo O n (val s + 1)).1) s = none) : stemB O n = stemTo O n (val s + 1) := by
  have hF := stemTo_lens hO (val s + 1)
  have h4 := after_none (sat_cl hF) hs h
  have := stemTo_skip (O := O) (n := n) (val s + 1) (2 ^ n) fun t ht ha hb => by
    rw [Bool.eq_false_iff]
    intro hq
    have := h4 t ht ((sat_fix hF ht).2 hq)
    omega
  rw [← this, stemTo_all O n _ (by omega)]
theorem stem_first (O : SetB → SetB) (n : Nat) : stemTo O n (val (List.replicate n false)) = ([], 0) := by
  have : val (List.replicate n false) = 0 := by
    induction n with
    | zero => rfl
    | succ n ih => rw [List.replicate_succ, val, ih]; simp
  rw [this]; rfl
theorem stemStep_cnt {O : SetB → SetB} (st : List PairB × Nat) (t : SetB) : st.2 ≤ (stemStep O st t).2 ∧ (stemStep O st t).2 ≤ st.2 + 1 := by
  unfold stemStep; split <;> simp
theorem stemTo_mono {O : SetB → SetB} {n : Nat} (v d : Nat) : (stemTo O n v).2 ≤ (stemTo O n (v + d)).2 := by
  induction d with
  | zero => exact Nat.le_refl _
  | succ d ih =>
    by_cases hv : v + d < 2 ^ n
    · obtain ⟨t, ht, hvt, _⟩ := subsetsB_nth hv
      refine Nat.le_trans ih ?_
      show _ ≤ (stemTo O n (v + d + 1)).2
      rw [← hvt, stemTo_succ ht]
      exact (stemStep_cnt _ _).1
    · rw [show v + (d + 1) = v + d + 1 from rfl, stemTo_all O n (v + d + 1) (by omega), ← stemTo_all O n (v + d) (by omega)]
      exact ih
theorem stemTo_le {O : SetB → SetB} {n : Nat} (v : Nat) : (stemTo O n v).2 ≤ v ∧ (stemTo O n v).1.length ≤ (stemTo O n v).2 := by
  induction v with
  | zero => simp [stemTo]
  | succ v ih =>
    by_cases hv : v < 2 ^ n
    · obtain ⟨t, ht, hvt, _⟩ := subsetsB_nth hv
      subst hvt
      rw [stemTo_succ ht]
      unfold stemStep
      split
      · simp only
        split
        · exact ⟨by omega, by omega⟩
        · simp only [List.length_append, List.length_singleton]; exact ⟨by omega, by omega⟩
      · exact ⟨by omega, by omega⟩
    · rw [stemTo_all O n _ (by omega), ← stemTo_all O n v (by omega)]
      exact ⟨by omega, by omega⟩
theorem stemTo_final {O : SetB → SetB} {n v : Nat} : (stemTo O n v).2 ≤ (stemB O n).2 := by
  have := stemTo_mono (O := O) (n := n) v (2 ^ n)
  rwa [stemTo_all O n (v + 2 ^ n) (by omega)] at this
theorem stemB_le (O : SetB → SetB) (n : Nat) : (stemB O n).2 ≤ 2 ^ n ∧ (stemB O n).1.length ≤ (stemB O n).2 := by
  have := stemTo_le (O := O) (n := n) (2 ^ n)
  rwa [stemTo_all O n _ (Nat.le_refl _)] at this
end Go.Proofs.Ythgplaledmccgaa
