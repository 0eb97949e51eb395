/-
  Plain law: equivalence by places is equivalence by names.
-/
import Derived.Test.YthgplaledmccgaaW19
import Derived.Test.YthgplaledmccgaaW20
namespace Go.Proofs.Ythgplaledmccgaa
theorem checkE_other {u : List Nm} {a b : List RuleN} (h0 : checkE u a = 0) : checkE u b = rulesE u b := by
  obtain ⟨h1, h2, _⟩ := checkE_ok.1 h0
  unfold checkE; rw [h1, h2]; simp
theorem eqB_eq {u : List Nm} {a b : List RuleN} (h0 : checkE u a = 0) (hb : rulesE u b = 0) : eqB u a b = eqR u a b := by
  obtain ⟨_, ha, hra⟩ := checkE_ok.1 h0
  have hrb := rulesE_ok.1 hb
  have k1 : ∀ k (h : k < a.length), eqK u a b k (toHorn u a[k]) = entR u b a[k] := by
    intro k h
    unfold eqK entR
    have e : (fun i => decide (i < a.length) != decide (k < a.length)) = (fun i => !decide (i < (a.map (toHorn u)).length)) := by
      funext i; rw [List.length_map]; cases decide (i < a.length) <;> simp [h]
    rw [e]
    exact ent_places ha hrb (hra _ (List.getElem_mem h)) (sel_second _ _)
  have k2 : ∀ k (h : k < b.length), eqK u a b (a.length + k) (toHorn u b[k]) = entR u a b[k] := by
    intro k h
    unfold eqK entR
    have e : (fun i => decide (i < a.length) != decide (a.length + k < a.length)) = (fun i => decide (i < (a.map (toHorn u)).length)) := by
      funext i; rw [List.length_map]
      have : ¬ a.length + k < a.length := by omega
      cases decide (i < a.length) <;> simp
    rw [e]
    exact ent_places ha hra (hrb _ (List.getElem_mem h)) (sel_first _ _)
  rw [Bool.eq_iff_iff]
  unfold eqB eqR
  rw [Bool.and_eq_true, List.all_eq_true, List.all_eq_true, List.all_eq_true]
  have g1 : ∀ k (h : k < a.length), (a.map (toHorn u) ++ b.map (toHorn u)).getD k ([], 0) = toHorn u a[k] := by
    intro k h
    rw [List.getD_eq_getElem?_getD, List.getElem?_append_left (by simpa using h), List.getElem?_map, List.getElem?_eq_getElem h]; rfl
  have g2 : ∀ k (h : k < b.length), (a.map (toHorn u) ++ b.map (toHorn u)).getD (a.length + k) ([], 0) = toHorn u b[k] := by
    intro k h
    rw [List.getD_eq_getElem?_getD, List.getElem?_append_right (by simp), List.length_map, Nat.add_sub_cancel_left, List.getElem?_map, List.getElem?_eq_getElem h]; rfl
  constructor
  · intro H
    constructor
    · intro r hr
      obtain ⟨k, hk, rfl⟩ := List.getElem_of_mem hr
      have := H k (List.mem_range.2 (by simp; omega))
      rwa [g1 k hk, k1 k hk] at this
    · intro r hr
      obtain ⟨k, hk, rfl⟩ := List.getElem_of_mem hr
      have := H (a.length + k) (List.mem_range.2 (by simp; omega))
      rwa [g2 k hk, k2 k hk] at this
  · rintro ⟨H1, H2⟩ k hk
    have hk := List.mem_range.1 hk
    simp only [List.length_append, List.length_map] at hk
    by_cases h : k < a.length
    · rw [g1 k h, k1 k h]; exact H1 _ (List.getElem_mem h)
    · obtain ⟨j, rfl⟩ : ∃ j, k = a.length + j := ⟨k - a.length, by omega⟩
      have hj : j < b.length := by omega
      rw [g2 j hj, k2 j hj]; exact H2 _ (List.getElem_mem hj)
end Go.Proofs.Ythgplaledmccgaa
