/-
  Plain functions: forward chaining over sets of bools.
-/
import Derived.Test.YthgplaledmccgaaSpec2
namespace Go.Proofs.Ythgplaledmccgaa

/-- the first rule that may fire -/
def fireI (hs : List Horn) (U : Nat → Bool) (s : List Bool) : Option Nat := (List.range hs.length).find? fun i => U i && firesB s (hs.getD i ([], 0))
/-- forward chaining with fuel: the set, and the rules with their conclusions in the order in which they fired -/
def chainF (hs : List Horn) (U : Nat → Bool) : Nat → List Bool → List Bool × List (Nat × Nat)
  | 0, s => (s, [])
  | f + 1, s => match fireI hs U s with
    | none => (s, [])
    | some i => let r := chainF hs U f (s.set (hs.getD i ([], 0)).2 true); (r.1, (i, (hs.getD i ([], 0)).2) :: r.2)
def chainB (hs : List Horn) (U : Nat → Bool) (s : List Bool) : List Bool × List (Nat × Nat) := chainF hs U s.length s
/-- the rules speak of places below n -/
def okH (n : Nat) (hs : List Horn) : Prop := ∀ h ∈ hs, h.2 < n ∧ ∀ p ∈ h.1, p < n

theorem fireI_some {hs : List Horn} {U : Nat → Bool} {s : List Bool} {i : Nat} (h : fireI hs U s = some i) : i < hs.length ∧ U i = true ∧ firesB s (hs.getD i ([], 0)) = true := by
  have h1 := List.find?_some h
  have h2 := List.mem_of_find?_eq_some h
  simp only [Bool.and_eq_true] at h1
  exact ⟨by simpa using h2, h1.1, h1.2⟩
theorem fireI_of {hs : List Horn} {U : Nat → Bool} {s : List Bool} {k : Nat} (hk : k < hs.length) (hno : ∀ i < k, (U i && firesB s (hs.getD i ([], 0))) = false) (hy : (U k && firesB s (hs.getD k ([], 0))) = true) : fireI hs U s = some k := by
  unfold fireI
  rw [List.find?_range_eq_some]
  refine ⟨hy, by simpa using hk, fun j hj => ?_⟩
  rw [hno j hj]
  rfl
theorem fireI_none {hs : List Horn} {U : Nat → Bool} {s : List Bool} (hno : ∀ i < hs.length, (U i && firesB s (hs.getD i ([], 0))) = false) : fireI hs U s = none := by
  unfold fireI
  rw [List.find?_eq_none]
  intro i hi
  rw [hno i (by simpa using hi)]
  simp
theorem not_fire {hs : List Horn} {U : Nat → Bool} {s : List Bool} (h : fireI hs U s = none) : ∀ i < hs.length, (U i && firesB s (hs.getD i ([], 0))) = false := by
  intro i hi
  have := (List.find?_eq_none.1 h) i (by simpa using hi)
  simpa using this

/-- how many bits are not set -/
def zeros (s : List Bool) : Nat := s.countP (· == false)
theorem zeros_le (s : List Bool) : zeros s ≤ s.length := List.countP_le_length
theorem zeros_set {s : List Bool} {i : Nat} (hi : i < s.length) (h : s.getD i false = false) : zeros (s.set i true) + 1 = zeros s := by
  induction s generalizing i with
  | nil => simp at hi
  | cons a t ih =>
    cases i with
    | zero =>
      simp at h
      subst h
      simp [zeros]
    | succ i =>
      simp only [List.getD_cons_succ] at h
      have := ih (by simpa using hi) h
      simp only [zeros, List.set_cons_succ, List.countP_cons] at this ⊢
      omega
theorem fires_set {hs : List Horn} {U : Nat → Bool} {s : List Bool} {i : Nat} (hok : okH s.length hs) (h : fireI hs U s = some i) :
    (hs.getD i ([], 0)).2 < s.length ∧ s.getD (hs.getD i ([], 0)).2 false = false := by
  obtain ⟨h1, _, h3⟩ := fireI_some h
  have hm : hs.getD i ([], 0) ∈ hs := by
    rw [List.getD_eq_getElem?_getD, List.getElem?_eq_getElem h1]
    exact List.getElem_mem h1
  refine ⟨(hok _ hm).1, ?_⟩
  unfold firesB at h3
  simp only [Bool.and_eq_true, Bool.not_eq_true'] at h3
  exact h3.1
theorem chainF_stable {hs : List Horn} {U : Nat → Bool} {f : Nat} {s : List Bool} (hok : okH s.length hs) (hf : zeros s ≤ f) : chainF hs U (f + 1) s = chainF hs U f s := by
  induction f generalizing s with
  | zero =>
    cases hfi : fireI hs U s with
    | none => simp [chainF, hfi]
    | some i =>
      obtain ⟨h1, h2⟩ := fires_set hok hfi
      have := zeros_set h1 h2
      omega
  | succ f ih =>
    cases hfi : fireI hs U s with
    | none => simp [chainF, hfi]
    | some i =>
      obtain ⟨h1, h2⟩ := fires_set hok hfi
      have := zeros_set h1 h2
      have e := ih (s := s.set (hs.getD i ([], 0)).2 true) (by rw [List.length_set]; exact hok) (by omega)
      rw [chainF, hfi]
      simp only
      rw [e]
      conv => rhs; rw [chainF, hfi]
theorem chainF_more {hs : List Horn} {U : Nat → Bool} {f g : Nat} {s : List Bool} (hok : okH s.length hs) (hf : zeros s ≤ f) (hg : f ≤ g) : chainF hs U g s = chainF hs U f s := by
  induction hg with
  | refl => rfl
  | step hle ih => rw [chainF_stable hok (Nat.le_trans hf hle), ih]
theorem chainB_none {hs : List Horn} {U : Nat → Bool} {s : List Bool} (h : fireI hs U s = none) : chainB hs U s = (s, []) := by
  unfold chainB
  cases s.length with
  | zero => rfl
  | succ f => simp [chainF, h]
theorem chainB_some {hs : List Horn} {U : Nat → Bool} {s : List Bool} {i : Nat} (hok : okH s.length hs) (h : fireI hs U s = some i) :
    chainB hs U s = ((chainB hs U (s.set (hs.getD i ([], 0)).2 true)).1, (i, (hs.getD i ([], 0)).2) :: (chainB hs U (s.set (hs.getD i ([], 0)).2 true)).2) := by
  obtain ⟨h1, h2⟩ := fires_set hok h
  have hz := zeros_set h1 h2
  have hz2 := zeros_le s
  have e : chainB hs U (s.set (hs.getD i ([], 0)).2 true) = chainF hs U (s.length - 1) (s.set (hs.getD i ([], 0)).2 true) := by
    unfold chainB
    rw [List.length_set]
    exact chainF_more (by rw [List.length_set]; exact hok) (by omega) (by omega)
  rw [e]
  unfold chainB
  obtain ⟨m, hm⟩ : ∃ m, s.length = m + 1 := ⟨s.length - 1, by omega⟩
  rw [hm, chainF, h]
  rfl
theorem chainF_len {hs : List Horn} {U : Nat → Bool} (f : Nat) (s : List Bool) : (chainF hs U f s).1.length = s.length := by
  induction f generalizing s with
  | zero => rfl
  | succ f ih =>
    rw [chainF]
    split
    · rfl
    · simp only [ih, List.length_set]
theorem chainB_len {hs : List Horn} {U : Nat → Bool} {s : List Bool} : (chainB hs U s).1.length = s.length := chainF_len _ _
theorem chainF_steps {hs : List Horn} {U : Nat → Bool} (f : Nat) (s : List Bool) : (chainF hs U f s).2.length ≤ f := by
  induction f generalizing s with
  | zero => exact Nat.le_refl _
  | succ f ih =>
    rw [chainF]
    split
    · simp
    · simp only [List.length_cons]; exact Nat.succ_le_succ (ih _)
end Go.Proofs.Ythgplaledmccgaa
