/-
  Plain laws: chaining with some of the rules is chaining with their list; consequences by places are consequences by names.
-/
import Derived.Test.YthgplaledmccgaaW11
import Derived.Test.YthgplaledmccgaaSpec9
namespace Go.Proofs.Ythgplaledmccgaa
/-- the rules that U accepts -/
def sel (hs : List Horn) (U : Nat → Bool) : List Horn := ((List.range hs.length).filter U).map fun i => hs.getD i ([], 0)
theorem fireI_find (hs : List Horn) (U : Nat → Bool) (s : List Bool) : (fireI hs U s).map (fun i => hs.getD i ([], 0)) = (sel hs U).find? (firesB s) := by
  unfold fireI sel
  rw [List.find?_map, List.find?_filter]
  have : (fun i => U i && firesB s (hs.getD i ([], 0))) = (fun a => decide (U a = true ∧ (firesB s ∘ fun i => hs.getD i ([], 0)) a = true)) := by
    funext i; simp only [Function.comp]; cases U i <;> simp
  rw [this]
def chainS (l : List Horn) : Nat → List Bool → List Bool
  | 0, s => s
  | f + 1, s => match l.find? (firesB s) with
    | none => s
    | some h => chainS l f (s.set h.2 true)
theorem chainF_sel (hs : List Horn) (U : Nat → Bool) (f : Nat) (s : List Bool) : (chainF hs U f s).1 = chainS (sel hs U) f s := by
  induction f generalizing s with
  | zero => rfl
  | succ f ih =>
    rw [chainF, chainS, ← fireI_find]
    cases fireI hs U s with
    | none => rfl
    | some i => exact ih _
theorem chainB_sel {hs hs' : List Horn} {U U' : Nat → Bool} (h : sel hs U = sel hs' U') (s : List Bool) : (chainB hs U s).1 = (chainB hs' U' s).1 := by
  unfold chainB; rw [chainF_sel, chainF_sel, h]
theorem sel_all (hs : List Horn) : sel hs (fun _ => true) = hs := by
  unfold sel
  rw [List.filter_eq_self.2 (by simp)]
  apply List.ext_getElem
  · simp
  · intro i h1 h2
    simp at h1 ⊢
    rw [List.getElem?_eq_getElem h2]; rfl
theorem sel_first (a b : List Horn) : sel (a ++ b) (fun i => decide (i < a.length)) = a := by
  unfold sel
  have e : (List.range (a ++ b).length).filter (fun i => decide (i < a.length)) = List.range a.length := by
    rw [List.length_append, List.range_add, List.filter_append]
    have h1 : (List.range a.length).filter (fun i => decide (i < a.length)) = List.range a.length := by
      rw [List.filter_eq_self]; intro i hi; simpa using hi
    have h2 : ((List.range b.length).map (a.length + ·)).filter (fun i => decide (i < a.length)) = [] := by
      rw [List.filter_eq_nil_iff]; intro i hi; obtain ⟨j, _, rfl⟩ := List.mem_map.1 hi; simp
    rw [h1, h2, List.append_nil]
  rw [e]
  apply List.ext_getElem
  · simp
  · intro i h1 h2
    simp at h1 ⊢
    rw [List.getElem?_append_left h2, List.getElem?_eq_getElem h2]; rfl
theorem sel_second (a b : List Horn) : sel (a ++ b) (fun i => !decide (i < a.length)) = b := by
  unfold sel
  have e : (List.range (a ++ b).length).filter (fun i => !decide (i < a.length)) = (List.range b.length).map (a.length + ·) := by
    rw [List.length_append, List.range_add, List.filter_append]
    have h1 : (List.range a.length).filter (fun i => !decide (i < a.length)) = [] := by
      rw [List.filter_eq_nil_iff]; intro i hi; simp at hi; simp; exact hi
    have h2 : ((List.range b.length).map (a.length + ·)).filter (fun i => !decide (i < a.length)) = (List.range b.length).map (a.length + ·) := by
      rw [List.filter_eq_self]; intro i hi; obtain ⟨j, _, rfl⟩ := List.mem_map.1 hi; simp
    rw [h1, h2, List.nil_append]
  rw [e]
  apply List.ext_getElem
  · simp
  · intro i h1 h2
    simp at h1 ⊢
    rw [List.getElem?_append_right (by omega), Nat.add_sub_cancel_left, List.getElem?_eq_getElem h2]; rfl

theorem Same.of_set {u l : NmL} (ha : ascB u = true) (hl : ∀ x ∈ l, x ∈ u) : Same u (setOf u.length (l.map (ixN u))) l := by
  have h0 : Same u (setOf u.length []) [] := by
    refine ⟨by simp [setOf], by simp, fun x hx => ?_⟩
    have hlt := ixN_lt ha hx
    simp only [setOf, List.foldl_nil]
    rw [List.getD_eq_getElem?_getD, List.getElem?_replicate]
    simp [hlt]
  have : ∀ (k : NmL) (l0 : NmL), (∀ x ∈ k, x ∈ u) → Same u (setOf u.length (l0.map (ixN u))) l0 → Same u (setOf u.length ((l0 ++ k).map (ixN u))) (l0 ++ k) := by
    intro k
    induction k with
    | nil => intro l0 _ h; simpa using h
    | cons y k ih =>
      intro l0 hk h
      have h1 := h.add ha (hk y (by simp))
      rw [← setOf_snoc, show l0.map (ixN u) ++ [ixN u y] = (l0 ++ [y]).map (ixN u) by simp] at h1
      have := ih (l0 ++ [y]) (fun x hx => hk x (by simp [hx])) h1
      simpa using this
  simpa using this l [] hl h0
theorem mem_sortedN {u l : NmL} {x : List UInt8} : x ∈ sortedN u l ↔ x ∈ u ∧ x ∈ l := by unfold sortedN; simp
/-- r follows from the rules: by places -/
theorem ent_places {u : NmL} {rs : List RuleN} {r : RuleN} (ha : ascB u = true) (hr : ∀ r ∈ rs, okRule u r) (ho : okRule u r) {hs : List Horn} {U : Nat → Bool} (hsel : sel hs U = rs.map (toHorn u)) :
    (chainB hs U (setOf u.length (toHorn u r).1)).1.getD (toHorn u r).2 false = decide (r.2 ∈ closeR u rs r.1) := by
  rw [chainB_sel (hs' := rs.map (toHorn u)) (U' := fun _ => true) (by rw [hsel, sel_all])]
  obtain ⟨h1, _⟩ := (Same.of_set ha ho.2.1).chain ha hr _ (Nat.le_refl _)
  rw [Bool.eq_iff_iff, decide_eq_true_eq, closeR, mem_sortedN]
  have := h1.2.2 r.2 ho.2.2
  constructor
  · intro h; exact ⟨ho.2.2, this.2 h⟩
  · intro h; exact this.1 h.2
theorem entB_eq {u : NmL} {rs : List RuleN} {r : RuleN} (h0 : checkE u rs = 0) (ho : okRule u r) : entB u rs r = decide (r.2 ∈ closeR u rs r.1) := by
  obtain ⟨_, ha, hr⟩ := checkE_ok.1 h0
  unfold entB
  have := sel_first (rs.map (toHorn u)) [toHorn u r]
  rw [List.length_map] at this
  exact ent_places ha hr ho this
end Go.Proofs.Ythgplaledmccgaa
