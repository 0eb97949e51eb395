/-
  Plain laws: the canonical basis set by set is the one of the definition by sizes; how many sets there are.
-/
import Derived.Test.YthgplaledmccgaaSpec17
import Derived.Test.YthgplaledmccgaaSpec13
namespace Go.Proofs.Ythgplaledmccgaa
theorem val_lt_of {s t : SetB} (hl : t.length = s.length) (h : Le t s) (hne : t ≠ s) : val t < val s := by
  have h1 := val_le_of_Le hl h
  rcases Nat.lt_or_ge (val t) (val s) with h2 | h2
  · exact h2
  · exact absurd (val_inj hl (by omega)) hne
section
variable {O : SetB → SetB} {n : Nat}
theorem stemTo_step {v : Nat} (h : v < 2 ^ n) : ∃ t, t.length = n ∧ val t = v ∧ (subsetsB n)[v]? = some t ∧ stemTo O n (v + 1) = stemStep O (stemTo O n v) t := by
  obtain ⟨t, ht, hv, hn⟩ := subsetsB_nth h
  refine ⟨t, ht, hv, hn, ?_⟩
  rw [← hv, stemTo_succ ht]
theorem stemStep_mem {st : List PairB × Nat} {t : SetB} {f : PairB} : f ∈ (stemStep O st t).1 ↔ f ∈ st.1 ∨ (okQ st.1 t = true ∧ O t ≠ t ∧ f = (t, O t)) := by
  unfold stemStep
  by_cases h1 : okQ st.1 t = true
  · rw [if_pos h1]
    by_cases h2 : O t = t
    · simp [h2]
    · simp [h1, h2]
  · rw [if_neg h1]; simp [h1]
theorem stemTo_keep {f : PairB} {v : Nat} (d : Nat) (h : f ∈ (stemTo O n v).1) : f ∈ (stemTo O n (v + d)).1 := by
  induction d with
  | zero => exact h
  | succ d ih =>
    by_cases hv : v + d < 2 ^ n
    · obtain ⟨t, _, _, _, he⟩ := stemTo_step (O := O) hv
      show f ∈ (stemTo O n (v + d + 1)).1
      rw [he]
      exact stemStep_mem.2 (.inl ih)
    · show f ∈ (stemTo O n (v + d + 1)).1
      rw [stemTo_all O n _ (by omega), ← stemTo_all O n (v + d) (by omega)]
      exact ih
theorem stemTo_back {f : PairB} {v : Nat} (d : Nat) (h : f ∈ (stemTo O n (v + d)).1) (hf : val f.1 < v) : f ∈ (stemTo O n v).1 := by
  induction d with
  | zero => exact h
  | succ d ih =>
    by_cases hv : v + d < 2 ^ n
    · obtain ⟨t, _, hvt, _, he⟩ := stemTo_step (O := O) hv
      have h : f ∈ (stemTo O n (v + d + 1)).1 := h
      rw [he] at h
      rcases stemStep_mem.1 h with h | ⟨_, _, rfl⟩
      · exact ih h
      · simp only at hf; omega
    · have h : f ∈ (stemTo O n (v + d + 1)).1 := h
      rw [stemTo_all O n _ (by omega), ← stemTo_all O n (v + d) (by omega)] at h
      exact ih h
theorem stemB_iff {f : PairB} {v : Nat} (hf : val f.1 < v) : f ∈ (stemB O n).1 ↔ f ∈ (stemTo O n v).1 := by
  rw [← stemTo_all O n (v + 2 ^ n) (by omega)]
  exact ⟨fun h => stemTo_back _ h hf, fun h => stemTo_keep _ h⟩
/-- s is pseudo-closed -/
def psB (O : SetB → SetB) (n : Nat) (s : SetB) : Bool := decide ((s, O s) ∈ (stemB O n).1)
theorem psB_step (s : SetB) (hs : s.length = n) : psB O n s = true ↔ okQ (stemTo O n (val s)).1 s = true ∧ O s ≠ s := by
  unfold psB
  rw [decide_eq_true_eq, stemB_iff (v := val s + 1) (by simp), stemTo_succ hs, stemStep_mem]
  constructor
  · rintro (h | ⟨h1, h2, _⟩)
    · have : (s, O s) ∈ (stemTo O n (val s)).1 := h
      exfalso
      have hlt : ∀ f ∈ (stemTo O n (val s)).1, val f.1 < val s := by
        intro f hf
        have : ∀ v, ∀ f ∈ (stemTo O n v).1, val f.1 < v := by
          intro v
          induction v with
          | zero => intro f hf; simp [stemTo] at hf
          | succ v ih =>
            intro f hf
            by_cases hv : v < 2 ^ n
            · obtain ⟨t, _, hvt, _, he⟩ := stemTo_step (O := O) hv
              rw [he] at hf
              rcases stemStep_mem.1 hf with hf | ⟨_, _, rfl⟩
              · have := ih f hf; omega
              · simp only; omega
            · rw [stemTo_all O n _ (by omega), ← stemTo_all O n v (by omega)] at hf
              have := ih f hf; omega
        exact this _ f hf
      have := hlt _ this
      simp at this
    · exact ⟨h1, h2⟩
  · rintro ⟨h1, h2⟩
    exact .inr ⟨h1, h2, rfl⟩
theorem psB_rec (hO : IsCl n O) {s : SetB} (hs : s.length = n) : psB O n s = true ↔ O s ≠ s ∧ ∀ t, t.length = n → Le t s → t ≠ s → psB O n t = true → Le (O t) s := by
  rw [psB_step s hs]
  constructor
  · rintro ⟨h1, h2⟩
    refine ⟨h2, fun t ht hts hne hp => ?_⟩
    have hlt := val_lt_of (by omega) hts hne
    unfold psB at hp
    rw [decide_eq_true_eq, stemB_iff (v := val s) hlt] at hp
    exact okQ_iff.1 h1 _ hp hts hne
  · rintro ⟨h2, h3⟩
    refine ⟨okQ_iff.2 fun f hf hts hne => ?_, h2⟩
    obtain ⟨e1, e2, e3⟩ := stemTo_mem hO _ f hf
    obtain ⟨t, c⟩ := f
    simp only at e1 e2 e3 hts hne ⊢
    subst e2
    refine h3 t e1 hts hne ?_
    unfold psB
    rw [decide_eq_true_eq, stemB_iff (v := val s) e3]
    exact hf
theorem take_filter_step {α : Type} {l : List α} {v : Nat} {t : α} (p : α → Bool) (h : l[v]? = some t) : (l.take (v + 1)).filter p = (l.take v).filter p ++ (if p t = true then [t] else []) := by
  obtain ⟨hl, he⟩ := List.getElem?_eq_some_iff.1 h
  rw [List.take_succ_eq_append_getElem hl, List.filter_append, he]
  congr 1
  cases hp : p t <;> simp [hp]
theorem stemTo_list (v : Nat) (hv : v ≤ 2 ^ n) : (stemTo O n v).1 = (((subsetsB n).take v).filter (psB O n)).map fun s => (s, O s) := by
  induction v with
  | zero => simp [stemTo]
  | succ v ih =>
    obtain ⟨t, ht, hvt, hn, he⟩ := stemTo_step (O := O) (n := n) (v := v) (by omega)
    rw [he, take_filter_step _ hn, List.map_append, ← ih (by omega)]
    have hp := psB_step (O := O) t ht
    rw [hvt] at hp
    unfold stemStep
    by_cases h1 : okQ (stemTo O n v).1 t = true
    · rw [if_pos h1]
      by_cases h2 : O t = t
      · rw [if_pos h2, if_neg (c := psB O n t = true) (by rw [hp]; exact fun h => h.2 h2)]; simp
      · rw [if_neg h2, if_pos (c := psB O n t = true) (hp.2 ⟨h1, h2⟩)]; simp
    · rw [if_neg h1, if_neg (c := psB O n t = true) (by rw [hp]; exact fun h => h1 h.1)]; simp
theorem stemB_list : (stemB O n).1 = ((subsetsB n).filter (psB O n)).map fun s => (s, O s) := by
  rw [← stemTo_all O n (2 ^ n) (Nat.le_refl _), stemTo_list _ (Nat.le_refl _), List.take_of_length_le (by rw [subsetsB_length]; exact Nat.le_refl _)]
theorem closed_okQ (hO : IsCl n O) {s : SetB} (hs : s.length = n) (h : O s = s) (v : Nat) : okQ (stemTo O n v).1 s = true :=
  okQ_iff.2 fun f hf hts _ => by
    obtain ⟨e1, e2, _⟩ := stemTo_mem hO v f hf
    rw [e2, ← h]
    exact hO.mono _ _ e1 hs hts
theorem stemTo_count (hO : IsCl n O) (v : Nat) (hv : v ≤ 2 ^ n) : (stemTo O n v).2 = (stemTo O n v).1.length + (((subsetsB n).take v).filter fun s => decide (O s = s)).length := by
  induction v with
  | zero => simp [stemTo]
  | succ v ih =>
    obtain ⟨t, ht, hvt, hn, he⟩ := stemTo_step (O := O) (n := n) (v := v) (by omega)
    rw [he, take_filter_step _ hn, List.length_append]
    have ih := ih (by omega)
    unfold stemStep
    by_cases h2 : O t = t
    · rw [if_pos (closed_okQ hO ht h2 v)]
      simp [h2]; omega
    · by_cases h1 : okQ (stemTo O n v).1 t = true
      · rw [if_pos h1]; simp [h2]; omega
      · rw [if_neg h1]; simp [h2]; omega
theorem stemB_count (hO : IsCl n O) : (stemB O n).2 = (stemB O n).1.length + ((subsetsB n).filter fun s => decide (O s = s)).length := by
  have := stemTo_count hO (2 ^ n) (Nat.le_refl _)
  rwa [stemTo_all O n (2 ^ n) (Nat.le_refl _), List.take_of_length_le (by rw [subsetsB_length]; exact Nat.le_refl _)] at this
end

/-! ### names -/
theorem memB_names {u : NmL} {s : SetB} (ha : ascB u = true) (hs : s.length = u.length) : memB u (namesOf u s) = s := by
  unfold memB
  apply List.ext_getElem (by simp [hs])
  intro i h1 h2
  simp only [List.getElem_map]
  have hi : i < u.length := by omega
  have hx : u[i]? = some u[i] := List.getElem?_eq_getElem hi
  have hm := mem_namesOf_ix (s := s) ha (List.getElem_mem hi)
  have hix := ascB_inj ha hx (ixI_of_mem ha (List.getElem_mem hi)).2
  rw [← hix, List.getD_eq_getElem?_getD, List.getElem?_eq_getElem h2] at hm
  cases hb : s[i] with
  | true => rw [hb] at hm; simpa using hm.2 rfl
  | false => rw [hb] at hm; simpa using fun h => hm.1 h
theorem names_Le {u : NmL} {s t : SetB} (ha : ascB u = true) (_hs : s.length = u.length) (ht : t.length = u.length) : (∀ x ∈ namesOf u t, x ∈ namesOf u s) ↔ Le t s := by
  constructor
  · intro h i hi
    have hil : i < u.length := by
      by_cases hi2 : i < u.length
      · exact hi2
      · rw [List.getD_eq_getElem?_getD, List.getElem?_eq_none (by omega)] at hi; simp at hi
    have hx : u[i]? = some u[i] := List.getElem?_eq_getElem hil
    have hix := ascB_inj ha hx (ixI_of_mem ha (List.getElem_mem hil)).2
    have := h u[i] (mem_namesOf.2 ⟨i, hx, hi⟩)
    rw [mem_namesOf_ix ha (List.getElem_mem hil), ← hix] at this
    exact this
  · intro h x hx
    obtain ⟨i, hu, hi⟩ := mem_namesOf.1 hx
    exact mem_namesOf.2 ⟨i, hu, h i hi⟩
theorem names_length (u : NmL) (s : SetB) (hs : s.length = u.length) : (namesOf u s).length + zeros s = u.length := by
  induction u generalizing s with
  | nil => cases s with
    | nil => rfl
    | cons => simp at hs
  | cons x u ih =>
    cases s with
    | nil => simp at hs
    | cons b s =>
      have := ih s (by simpa using hs)
      rw [namesOf_cons]
      have e : zeros (b :: s) = zeros s + (if b = true then 0 else 1) := by unfold zeros; rw [List.countP_cons]; cases b <;> simp
      rw [e]
      cases b
      · simp; omega
      · simp; omega
section
variable {u : NmL} {rs : List RuleN}
def psN (u : NmL) (rs : List RuleN) (l : NmL) : Bool := psB (closeO u rs) u.length (memB u l)
def stemR (u : NmL) (rs : List RuleN) : List (NmL × NmL) := ((subsetsN u).filter (psN u rs)).map fun l => (l, closeR u rs l)
theorem names_close (h0 : checkE u rs = 0) {s : SetB} (hs : s.length = u.length) : namesOf u (closeO u rs s) = closeR u rs (namesOf u s) := by
  rw [← close_eq h0 (fun x hx => namesOf_sub hx)]
  unfold closeN
  rw [memB_names (checkE_ok.1 h0).2.1 hs]
theorem closeO_cl (h0 : checkE u rs = 0) : IsCl u.length (closeO u rs) := chain_cl (okH_of (checkE_ok.1 h0).2.1 (checkE_ok.1 h0).2.2)
theorem closed_names (h0 : checkE u rs = 0) {s : SetB} (hs : s.length = u.length) : closedN rs (namesOf u s) = decide (closeO u rs s = s) := by
  obtain ⟨_, ha, hr⟩ := checkE_ok.1 h0
  rw [Bool.eq_iff_iff, closedN_iff ha hr, decide_eq_true_eq]
  exact (chain_fix (okH_of ha hr) hs).symm
theorem psN_rec (h0 : checkE u rs = 0) {l : NmL} (hl : l ∈ subsetsN u) :
    psN u rs l = (!closedN rs l && (subsetsN u).all fun k => !(psN u rs k && decide (k.length < l.length) && decide (∀ x ∈ k, x ∈ l) && !decide (∀ x ∈ closeR u rs k, x ∈ l))) := by
  have ha := (checkE_ok.1 h0).2.1
  rw [← subsets_map] at hl ⊢
  obtain ⟨s, hs, rfl⟩ := List.mem_map.1 hl
  have hs := mem_subsetsB.1 hs
  rw [closed_names h0 hs, Bool.eq_iff_iff, Bool.and_eq_true, List.all_eq_true]
  have e1 : psN u rs (namesOf u s) = psB (closeO u rs) u.length s := by unfold psN; rw [memB_names ha hs]
  rw [e1, psB_rec (closeO_cl h0) hs]
  simp only [Bool.not_eq_true', decide_eq_false_iff_not]
  refine and_congr Iff.rfl ?_
  constructor
  · intro H k hk
    obtain ⟨t, ht, rfl⟩ := List.mem_map.1 hk
    have ht := mem_subsetsB.1 ht
    rw [Bool.eq_false_iff]
    intro hb
    simp only [Bool.and_eq_true, decide_eq_true_eq, Bool.not_eq_true', decide_eq_false_iff_not] at hb
    obtain ⟨⟨⟨b1, b2⟩, b3⟩, b4⟩ := hb
    apply b4
    rw [← names_close h0 ht]
    rw [names_Le ha hs ((closeO_cl h0).len _ ht)]
    refine H t ht ((names_Le ha hs ht).1 b3) (fun e => ?_) (by unfold psN at b1; rwa [memB_names ha ht] at b1)
    subst e
    omega
  · intro H t ht hts hne hp
    have := H (namesOf u t) (List.mem_map_of_mem (mem_subsetsB.2 ht))
    rw [Bool.eq_false_iff] at this
    rw [← names_Le ha hs ((closeO_cl h0).len _ ht), names_close h0 ht]
    apply Classical.byContradiction
    intro hc
    apply this
    simp only [Bool.and_eq_true, decide_eq_true_eq, Bool.not_eq_true', decide_eq_false_iff_not]
    refine ⟨⟨⟨by unfold psN; rw [memB_names ha ht]; exact hp, ?_⟩, (names_Le ha hs ht).2 hts⟩, hc⟩
    have z1 := names_length u s hs
    have z2 := names_length u t ht
    have z3 := zeros_Le (ht.trans hs.symm) hts
    have z4 : zeros s ≠ zeros t := fun e => hne (z3.2 e)
    omega
theorem psN_open (h0 : checkE u rs = 0) {l : NmL} (hl : l ∈ subsetsN u) (hp : psN u rs l = true) : closedN rs l = false := by
  rw [psN_rec h0 hl, Bool.and_eq_true] at hp
  simpa using hp.1
theorem stem_eq (h0 : checkE u rs = 0) : (stemB (closeO u rs) u.length).1.map (fun f : PairB => (namesOf u f.1, namesOf u f.2)) = stemR u rs := by
  have ha := (checkE_ok.1 h0).2.1
  unfold stemR
  rw [stemB_list, ← subsets_map, List.filter_map, List.map_map, List.map_map]
  have e : (subsetsB u.length).filter (psN u rs ∘ namesOf u) = (subsetsB u.length).filter (psB (closeO u rs) u.length) := by
    apply List.filter_congr
    intro s hs
    show psN u rs (namesOf u s) = _
    unfold psN
    rw [memB_names ha (mem_subsetsB.1 hs)]
  rw [e]
  apply List.map_congr_left
  intro s hs
  have hs := mem_subsetsB.1 (List.mem_filter.1 hs).1
  simp only [Function.comp]
  rw [names_close h0 hs]
theorem stem_count (h0 : checkE u rs = 0) : (stemB (closeO u rs) u.length).2 = (allRef u rs).length + (stemR u rs).length := by
  rw [stemB_count (closeO_cl h0), ← stem_eq h0, List.length_map, Nat.add_comm]
  congr 1
  unfold allRef
  rw [← subsets_map, List.filter_map, List.length_map]
  congr 1
  apply List.filter_congr
  intro s hs
  exact (closed_names h0 (mem_subsetsB.1 hs)).symm
end
end Go.Proofs.Ythgplaledmccgaa
