/-
  Plain law: closedness by places is closedness by names.
-/
import Derived.Test.YthgplaledmccgaaW10
import Derived.Test.YthgplaledmccgaaSpec9
namespace Go.Proofs.Ythgplaledmccgaa
theorem check2E_zero {u : List Nm} {rs : List RuleN} {l : List Nm} (h : check2E u rs l = 0) : checkE u rs = 0 ∧ ascB l = true ∧ ∀ x ∈ l, x ∈ u := by
  unfold check2E at h
  by_cases h0 : checkE u rs = 0
  · rw [if_pos h0] at h
    rcases setE_cases u l with ⟨_, h1, h2⟩ | ⟨h1, _⟩ | ⟨h1, _⟩
    · exact ⟨h0, h1, h2⟩
    · rw [h1] at h; exact absurd h (by decide)
    · rw [h1] at h; exact absurd h (by decide)
  · rw [if_neg h0] at h; exact absurd h h0
theorem closedB_eq {u : List Nm} {rs : List RuleN} {l : List Nm} (h : check2E u rs l = 0) : closedB u rs l = closedN rs l := by
  obtain ⟨h0, _, hl⟩ := check2E_zero h
  obtain ⟨_, ha, hr⟩ := checkE_ok.1 h0
  have hs := Same.start ha hl
  unfold closedB closedN
  rw [List.any_map]
  have : ∀ rs' : List RuleN, (∀ r ∈ rs', okRule u r) → (!rs'.any ((fun h => firesB (memB u l) h) ∘ toHorn u)) = rs'.all fun r => !decide (∀ x ∈ r.1, x ∈ l) || decide (r.2 ∈ l) := by
    intro rs'
    induction rs' with
    | nil => intro _; rfl
    | cons r rs' ih =>
      intro hk
      have h1 := ih fun r hr => hk r (by simp [hr])
      rw [List.any_cons, List.all_cons, Bool.not_or, h1]
      congr 1
      simp only [Function.comp]
      rw [hs.fires (hk r (by simp))]
      unfold firesR
      cases decide (r.2 ∈ l) <;> cases decide (∀ x ∈ r.1, x ∈ l) <;> rfl
  exact this rs hr
end Go.Proofs.Ythgplaledmccgaa
