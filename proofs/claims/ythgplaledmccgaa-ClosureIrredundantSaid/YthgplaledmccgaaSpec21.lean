/-
  Plain laws: the reduced rules are equivalent to the rules, and nothing in them can go.
-/
import Derived.Test.YthgplaledmccgaaSpec20
import Derived.Test.YthgplaledmccgaaSpec19
namespace Go.Proofs.Ythgplaledmccgaa
section
variable {u : NmL} {a b rs : List RuleN}
theorem check_of (h0 : checkE u rs = 0) (hb : ∀ r ∈ b, okRule u r) : checkE u b = 0 := by rw [checkE_other' h0]; exact rulesE_ok.2 hb
theorem ok_of (h0 : checkE u rs = 0) : ∀ r ∈ rs, okRule u r := (checkE_ok.1 h0).2.2
/-- what a entails of a premise, b entails of a larger premise, where b entails every rule of a -/
theorem close_le (ha : checkE u a = 0) (hb : checkE u b = 0) (h : ∀ r ∈ a, entR u b r = true) {l c : NmL} (hl : ∀ x ∈ l, x ∈ u) (hc : ∀ x ∈ c, x ∈ u) (hlc : ∀ x ∈ l, x ∈ c) : ∀ x ∈ closeR u a l, x ∈ closeR u b c := by
  refine closeR_least ha hl closeR_sub (fun x hx => closeR_ext hb hc x (hlc x hx)) ?_
  rw [closedN_iff']
  intro r hr hx
  exact closeR_least hb (ok_of ha r hr).2.1 closeR_sub hx (closeR_closed hb hc) _ (entR_iff.1 (h r hr))
theorem ent_le (ha : checkE u a = 0) (hb : checkE u b = 0) (h : ∀ r ∈ a, entR u b r = true) {l c : NmL} {th : List UInt8} (hl : ∀ x ∈ l, x ∈ u) (hc : ∀ x ∈ c, x ∈ u) (hlc : ∀ x ∈ l, x ∈ c) (he : entR u a (l, th) = true) : entR u b (c, th) = true :=
  entR_iff.2 (close_le ha hb h hl hc hlc _ (entR_iff.1 he))
theorem ent_self (h0 : checkE u rs = 0) {r : RuleN} (hr : r ∈ rs) : entR u rs r = true := by
  rw [entR_iff]
  have ho := (ok_of h0 r hr).2.1
  exact closedN_iff'.1 (closeR_closed h0 ho) r hr (closeR_ext h0 ho)
theorem ent_of_sub (ha : checkE u a = 0) (hb : checkE u b = 0) (h : ∀ r ∈ a, r ∈ b) {r : RuleN} (hr : ∀ x ∈ r.1, x ∈ u) (he : entR u a r = true) : entR u b r = true :=
  ent_le ha hb (fun r hr => ent_self hb (h r hr)) hr hr (fun _ h => h) he

/-! Shortened rules -/
theorem shortStepR_ent {th : List UInt8} {sh : NmL} {x : List UInt8} (h : entR u rs (sh, th) = true) : entR u rs (shortStepR u rs th sh x, th) = true := by
  unfold shortStepR
  split
  · next h => exact h
  · exact h
theorem fold_ent {th : List UInt8} (l sh : NmL) (h : entR u rs (sh, th) = true) : entR u rs (l.foldl (shortStepR u rs th) sh, th) = true := by
  induction l generalizing sh with
  | nil => exact h
  | cons x t ih => exact ih _ (shortStepR_ent h)
theorem short_ent (h0 : checkE u rs = 0) : ∀ s ∈ rs.map (shortR u rs), entR u rs s = true := by
  intro s hs
  obtain ⟨r, hr, rfl⟩ := List.mem_map.1 hs
  exact fold_ent r.1 r.1 (ent_self h0 hr)
theorem short_back (h0 : checkE u rs = 0) : ∀ r ∈ rs, entR u (rs.map (shortR u rs)) r = true := by
  intro r hr
  have hc := check_of h0 (shortR_ok (ok_of h0))
  have hm : shortR u rs r ∈ rs.map (shortR u rs) := List.mem_map.2 ⟨r, hr, rfl⟩
  have hsub := (shortR_sub u rs r).subset
  have ho := (ok_of h0 r hr).2.1
  exact ent_le hc hc (fun _ h => ent_self hc h) (fun x hx => ho x (hsub hx)) ho (fun x hx => hsub hx) (ent_self hc hm)
/-- no name of the first ones that is left can go -/
theorem fold_tight (h0 : checkE u rs = 0) {th : List UInt8} (l sh : NmL) (hsh : ∀ x ∈ sh, x ∈ u) (P : NmL) (hP : ∀ y ∈ P, y ∈ sh → entR u rs (sh.filter fun z => !decide (z = y), th) = false) :
    ∀ y, y ∈ P ∨ y ∈ l → y ∈ l.foldl (shortStepR u rs th) sh → entR u rs ((l.foldl (shortStepR u rs th) sh).filter fun z => !decide (z = y), th) = false := by
  induction l generalizing sh P with
  | nil =>
    intro y hy hys
    rcases hy with hy | hy
    · exact hP y hy hys
    · simp at hy
  | cons x t ih =>
    intro y hy hys
    have hsub := (shortStepR_sub u rs th sh x).subset
    refine ih (shortStepR u rs th sh x) (fun z hz => hsh z (hsub hz)) (P ++ [x]) ?_ y ?_ hys
    · intro z hz hzs
      by_cases he : entR u rs (sh.filter fun w => !decide (w = x), th) = true
      · have e : shortStepR u rs th sh x = sh.filter fun w => !decide (w = x) := by unfold shortStepR; rw [if_pos he]
        rw [e] at hzs ⊢
        rcases List.mem_append.1 hz with hz | hz
        · have hf := hP z hz (List.mem_filter.1 hzs).1
          rw [← Bool.not_eq_true] at hf ⊢
          intro ht
          refine hf (ent_le h0 h0 (fun _ h => ent_self h0 h) ?_ ?_ ?_ ht)
          · intro w hw; exact hsh w (List.mem_filter.1 (List.mem_filter.1 hw).1).1
          · intro w hw; exact hsh w (List.mem_filter.1 hw).1
          · intro w hw
            have h1 := List.mem_filter.1 hw
            exact List.mem_filter.2 ⟨(List.mem_filter.1 h1.1).1, h1.2⟩
        · rw [List.mem_singleton] at hz
          subst hz
          simp at hzs
      · have e : shortStepR u rs th sh x = sh := by unfold shortStepR; rw [if_neg he]
        rw [e] at hzs ⊢
        rcases List.mem_append.1 hz with hz | hz
        · exact hP z hz hzs
        · rw [List.mem_singleton] at hz
          subst hz
          simpa using he
    · rcases hy with hy | hy
      · exact .inl (List.mem_append_left _ hy)
      · rcases List.mem_cons.1 hy with rfl | hy
        · exact .inl (by simp)
        · exact .inr hy
theorem short_tight (h0 : checkE u rs = 0) {s : RuleN} (hs : s ∈ rs.map (shortR u rs)) {y : List UInt8} (hy : y ∈ s.1) : entR u rs (s.1.filter fun z => !decide (z = y), s.2) = false := by
  obtain ⟨r, hr, rfl⟩ := List.mem_map.1 hs
  exact fold_tight h0 r.1 r.1 (ok_of h0 r hr).2.1 [] (by simp) y (.inr ((shortR_sub u rs r).subset hy)) hy

/-! Kept rules -/
theorem keep_mem (kept t : List RuleN) : ∀ r ∈ keepR u kept t, r ∈ kept ++ t := by
  induction t generalizing kept with
  | nil => intro r hr; rw [keepR] at hr; simpa using hr
  | cons s t ih =>
    intro r hr
    rw [keepR] at hr
    split at hr
    · have := ih _ r hr
      rw [List.mem_append] at this ⊢
      rcases this with h | h
      · exact .inl h
      · exact .inr (List.mem_cons_of_mem _ h)
    · have := ih _ r hr
      simpa using this
theorem keep_ent (h0 : checkE u rs = 0) (kept t : List RuleN) (ho : ∀ r ∈ kept ++ t, okRule u r) : ∀ r ∈ kept ++ t, entR u (keepR u kept t) r = true := by
  induction t generalizing kept with
  | nil => intro r hr; rw [keepR]; exact ent_self (check_of h0 fun r hr => ho r (by simpa using hr)) (by simpa using hr)
  | cons s t ih =>
    intro r hr
    rw [keepR]
    split
    · next he =>
      have ho' : ∀ r ∈ kept ++ t, okRule u r := fun r hr => ho r (by
        rw [List.mem_append] at hr ⊢
        rcases hr with h | h
        · exact .inl h
        · exact .inr (List.mem_cons_of_mem _ h))
      have ih := ih kept ho'
      have hck := check_of h0 (b := keepR u kept t) fun r hr => ho' r (keep_mem kept t r hr)
      have hor := ho r hr
      have hc' := check_of h0 ho'
      rcases List.mem_append.1 hr with hr | hr
      · exact ih r (List.mem_append_left _ hr)
      · rcases List.mem_cons.1 hr with rfl | hr
        · exact ent_le hc' hck ih hor.2.1 hor.2.1 (fun _ h => h) he
        · exact ih r (List.mem_append_right _ hr)
    · have e : kept ++ s :: t = (kept ++ [s]) ++ t := by simp
      rw [e] at hr ho
      exact ih (kept ++ [s]) ho r hr
theorem keep_irr (h0 : checkE u rs = 0) (kept t : List RuleN) (ho : ∀ r ∈ kept ++ t, okRule u r)
    (h : ∀ i (hi : i < kept.length), entR u ((kept.take i ++ kept.drop (i + 1)) ++ t) kept[i] = false) :
    ∀ i (hi : i < (keepR u kept t).length), entR u ((keepR u kept t).take i ++ (keepR u kept t).drop (i + 1)) (keepR u kept t)[i] = false := by
  induction t generalizing kept with
  | nil =>
    have e : keepR u kept [] = kept := by rw [keepR]
    rw [e]
    intro i hi
    simpa using h i hi
  | cons s t ih =>
    have hsub : ∀ r ∈ kept ++ t, r ∈ kept ++ s :: t := fun r hr => by
      rw [List.mem_append] at hr ⊢
      rcases hr with h | h
      · exact .inl h
      · exact .inr (List.mem_cons_of_mem _ h)
    by_cases he : entR u (kept ++ t) s = true
    · have e : keepR u kept (s :: t) = keepR u kept t := by rw [keepR, if_pos he]
      rw [e]
      refine ih kept (fun r hr => ho r (hsub r hr)) fun i hi => ?_
      have hf := h i hi
      rw [← Bool.not_eq_true] at hf ⊢
      intro ht
      refine hf (ent_of_sub ?_ ?_ ?_ (ho _ (List.mem_append_left _ (List.getElem_mem hi))).2.1 ht)
      · refine check_of h0 fun r hr => ho r ?_
        rcases List.mem_append.1 hr with hr | hr
        · rcases List.mem_append.1 hr with hr | hr
          · exact List.mem_append_left _ (List.mem_of_mem_take hr)
          · exact List.mem_append_left _ (List.mem_of_mem_drop hr)
        · exact List.mem_append_right _ (List.mem_cons_of_mem _ hr)
      · refine check_of h0 fun r hr => ho r ?_
        rcases List.mem_append.1 hr with hr | hr
        · rcases List.mem_append.1 hr with hr | hr
          · exact List.mem_append_left _ (List.mem_of_mem_take hr)
          · exact List.mem_append_left _ (List.mem_of_mem_drop hr)
        · exact List.mem_append_right _ hr
      · intro r hr
        rcases List.mem_append.1 hr with hr | hr
        · exact List.mem_append_left _ hr
        · exact List.mem_append_right _ (List.mem_cons_of_mem _ hr)
    · have e : keepR u kept (s :: t) = keepR u (kept ++ [s]) t := by rw [keepR, if_neg he]
      rw [e]
      have e2 : kept ++ s :: t = (kept ++ [s]) ++ t := by simp
      refine ih (kept ++ [s]) (by rw [← e2]; exact ho) fun i hi => ?_
      by_cases hik : i < kept.length
      · have hf := h i hik
        rw [List.getElem_append_left hik, List.take_append_of_le_length (by omega), List.drop_append_of_le_length (by omega)]
        simpa using hf
      · have hi' : i = kept.length := by simp at hi; omega
        subst hi'
        have hd : (kept ++ [s]).drop (kept.length + 1) = [] := List.drop_of_length_le (by simp)
        rw [hd, List.take_left' rfl]
        simpa using he

/-! The reduced rules -/
theorem reduceR_mem : ∀ r ∈ reduceR u rs, r ∈ rs.map (shortR u rs) := fun r hr => by simpa using keep_mem [] _ r hr
theorem reduceR_ok (h0 : checkE u rs = 0) : ∀ r ∈ reduceR u rs, okRule u r := fun r hr => shortR_ok (ok_of h0) r (reduceR_mem r hr)
theorem reduceR_ent (h0 : checkE u rs = 0) : ∀ r ∈ rs, entR u (reduceR u rs) r = true := by
  intro r hr
  have hk := keep_ent h0 [] (rs.map (shortR u rs)) (by simpa using shortR_ok (ok_of h0))
  have ho := (ok_of h0 r hr).2.1
  exact ent_le (check_of h0 (shortR_ok (ok_of h0))) (check_of h0 (reduceR_ok h0)) (fun s hs => hk s (by simpa using hs)) ho ho (fun _ h => h) (short_back h0 r hr)
theorem reduceR_eq (h0 : checkE u rs = 0) : eqR u rs (reduceR u rs) = true := by
  unfold eqR
  rw [Bool.and_eq_true, List.all_eq_true, List.all_eq_true]
  exact ⟨fun r hr => reduceR_ent h0 r hr, fun r hr => short_ent h0 r (reduceR_mem r hr)⟩
/-- no reduced rule is entailed by the others -/
theorem reduceR_irr (h0 : checkE u rs = 0) {i : Nat} (hi : i < (reduceR u rs).length) : entR u ((reduceR u rs).take i ++ (reduceR u rs).drop (i + 1)) (reduceR u rs)[i] = false :=
  keep_irr h0 [] (rs.map (shortR u rs)) (by simpa using shortR_ok (ok_of h0)) (by simp) i hi
/-- no premise of a reduced rule can go -/
theorem reduceR_tight (h0 : checkE u rs = 0) {r : RuleN} (hr : r ∈ reduceR u rs) {k : Nat} (hk : k < r.1.length) : entR u (reduceR u rs) (r.1.take k ++ r.1.drop (k + 1), r.2) = false := by
  have ho := reduceR_ok h0 r hr
  have hf := short_tight h0 (reduceR_mem r hr) (List.getElem_mem hk)
  rw [← Bool.not_eq_true] at hf ⊢
  intro ht
  have hmem : ∀ x ∈ r.1.take k ++ r.1.drop (k + 1), x ∈ r.1 := fun x hx => by
    rcases List.mem_append.1 hx with h | h
    · exact List.mem_of_mem_take h
    · exact List.mem_of_mem_drop h
  refine hf (ent_le (check_of h0 (reduceR_ok h0)) h0 (fun s hs => short_ent h0 s (reduceR_mem s hs)) (fun x hx => ho.2.1 x (hmem x hx)) (fun x hx => ho.2.1 x (List.mem_filter.1 hx).1) ?_ ht)
  have hnd : r.1.Nodup := (asc_pair ho.1).imp fun h => bl_ne h
  intro x hx
  refine List.mem_filter.2 ⟨hmem x hx, ?_⟩
  simp only [Bool.not_eq_true', decide_eq_false_iff_not]
  intro e
  have e2 : r.1 = r.1.take k ++ r.1[k] :: r.1.drop (k + 1) := by rw [← List.drop_eq_getElem_cons hk, List.take_append_drop]
  rw [e2] at hnd
  have := (List.perm_middle.nodup_iff.1 hnd)
  rw [List.nodup_cons] at this
  exact this.1 (e ▸ hx)
theorem less_ok {r : RuleN} (ho : okRule u r) (k : Nat) : okRule u (r.1.take k ++ r.1.drop (k + 1), r.2) := by
  refine okRule_sub ho ?_
  have : r.1.eraseIdx k = r.1.take k ++ r.1.drop (k + 1) := List.eraseIdx_eq_take_drop_succ r.1 k
  rw [← this]
  exact List.eraseIdx_sublist ..
end
end Go.Proofs.Ythgplaledmccgaa
