/-
  Plain law: a rule is entailed exactly if all closed sets are closed under it.
-/
import Derived.Test.YthgplaledmccgaaSpec13
import Derived.Test.YthgplaledmccgaaW19
namespace Go.Proofs.Ythgplaledmccgaa
theorem subsetsN_sublist {u c : NmL} (h : c ∈ subsetsN u) : c.Sublist u := by
  induction u generalizing c with
  | nil => simp [subsetsN] at h; subst h; exact List.Sublist.refl _
  | cons x t ih =>
    rw [subsetsN, List.mem_append, List.mem_map] at h
    rcases h with h | ⟨d, h, rfl⟩
    · exact (ih h).cons _
    · exact (ih h).cons_cons _
theorem filter_subsetsN (u : NmL) (p : List UInt8 → Bool) : u.filter p ∈ subsetsN u := by
  induction u with
  | nil => simp [subsetsN]
  | cons x t ih =>
    rw [subsetsN, List.mem_append, List.mem_map, List.filter_cons]
    split
    · exact .inr ⟨_, ih, rfl⟩
    · exact .inl ih
theorem asc_sublist {u c : NmL} (h : ascB u = true) (hs : c.Sublist u) : ascB c = true := pair_asc ((asc_pair h).sublist hs)
theorem allRef_mem {u : NmL} {rs : List RuleN} {c : NmL} (h : c ∈ allRef u rs) : c.Sublist u ∧ closedN rs c = true := by
  unfold allRef at h
  rw [List.mem_filter] at h
  exact ⟨subsetsN_sublist h.1, h.2⟩
theorem closeR_allRef {u : NmL} {rs : List RuleN} {l : NmL} (h0 : checkE u rs = 0) (hl : ∀ x ∈ l, x ∈ u) : closeR u rs l ∈ allRef u rs := by
  unfold allRef
  rw [List.mem_filter]
  exact ⟨filter_subsetsN _ _, closeR_closed h0 hl⟩
theorem closedN_one {r : RuleN} {c : NmL} : closedN [r] c = true ↔ ((∀ x ∈ r.1, x ∈ c) → r.2 ∈ c) := by
  unfold closedN
  simp only [List.all_cons, List.all_nil, Bool.and_true, Bool.or_eq_true, Bool.not_eq_true', decide_eq_false_iff_not, decide_eq_true_eq]
  constructor
  · rintro (h | h) hx
    · exact absurd hx h
    · exact h
  · intro h
    by_cases hx : ∀ x ∈ r.1, x ∈ c
    · exact .inr (h hx)
    · exact .inl hx
theorem complete_eq {u : NmL} {rs : List RuleN} {r : RuleN} (h0 : checkE u rs = 0) (ho : okRule u r) : entR u rs r = (allRef u rs).all fun c => closedN [r] c := by
  unfold entR
  rw [Bool.eq_iff_iff, decide_eq_true_eq, List.all_eq_true]
  constructor
  · intro h c hc
    obtain ⟨h1, h2⟩ := allRef_mem hc
    rw [closedN_one]
    intro hx
    exact closeR_least h0 ho.2.1 (fun x hx => h1.subset hx) hx h2 _ h
  · intro h
    have := h _ (closeR_allRef h0 ho.2.1)
    rw [closedN_one] at this
    exact this (closeR_ext h0 ho.2.1)
theorem checkE_other' {u : NmL} {a b : List RuleN} (h0 : checkE u a = 0) : checkE u b = rulesE u b := by
  obtain ⟨h1, h2, _⟩ := checkE_ok.1 h0
  unfold checkE; rw [h1, h2]; simp
theorem check2E_one {u : NmL} {rs : List RuleN} {r : RuleN} {c : NmL} (h0 : checkE u rs = 0) (ho : ruleE u r = 0) (hc : c.Sublist u) : check2E u [r] c = 0 := by
  unfold check2E setE
  rw [checkE_other' h0, if_pos (by rw [rulesE_one]; exact ho), asc_sublist (checkE_ok.1 h0).2.1 hc, if_neg (by decide), if_pos (fun x hx => hc.subset hx)]
end Go.Proofs.Ythgplaledmccgaa
