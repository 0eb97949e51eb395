/-
  Plain laws: sets of names and sets of bools are one.
-/
import Derived.Test.YthgplaledmccgaaSpec7
namespace Go.Proofs.Ythgplaledmccgaa
def closedN (rs : List RuleN) (l : List (List UInt8)) : Bool := rs.all fun r => !decide (∀ x ∈ r.1, x ∈ l) || decide (r.2 ∈ l)
def subsetsN : List (List UInt8) → List (List (List UInt8))
  | [] => [[]]
  | x :: t => subsetsN t ++ (subsetsN t).map (x :: ·)
theorem subsetsN_len (u : List (List UInt8)) : (subsetsN u).length = 2 ^ u.length := by
  induction u with
  | nil => rfl
  | cons x t ih => simp [subsetsN, ih, Nat.pow_succ]; omega
theorem subsetsN_le (u : List (List UInt8)) : ∀ l ∈ subsetsN u, l.length ≤ u.length := by
  induction u with
  | nil => simp [subsetsN]
  | cons x t ih =>
    intro l hl
    simp only [subsetsN, List.mem_append, List.mem_map] at hl
    rcases hl with hl | ⟨y, hy, rfl⟩
    · have := ih l hl; simp; omega
    · have := ih y hy; simp; omega
def allRef (u : List (List UInt8)) (rs : List RuleN) : List (List (List UInt8)) := (subsetsN u).filter fun l => closedN rs l
abbrev closeO (u : List (List UInt8)) (rs : List RuleN) : List Bool → List Bool := fun s => (chainB (rs.map (toHorn u)) (fun _ => true) s).1
/-- all closed sets, as lists of names -/
def allN (u : List (List UInt8)) (rs : List RuleN) : List (List (List UInt8)) := (allB (closeO u rs) u.length).map (namesOf u)

theorem mem_namesOf {u : List (List UInt8)} {s : List Bool} {x : List UInt8} : x ∈ namesOf u s ↔ ∃ i, u[i]? = some x ∧ s.getD i false = true := by
  unfold namesOf
  rw [List.mem_filterMap]
  constructor
  · rintro ⟨⟨y, b⟩, hm, hb⟩
    obtain ⟨i, hi⟩ := List.mem_iff_getElem?.1 hm
    rw [List.zip, List.getElem?_zipWith] at hi
    cases hu : u[i]? with
    | none => rw [hu] at hi; simp at hi
    | some z =>
      cases hs : s[i]? with
      | none => rw [hu, hs] at hi; simp at hi
      | some c =>
        rw [hu, hs] at hi
        simp at hi
        obtain ⟨rfl, rfl⟩ := hi
        simp at hb
        obtain ⟨rfl, rfl⟩ := hb
        exact ⟨i, hu, by rw [List.getD_eq_getElem?_getD, hs]; rfl⟩
  · rintro ⟨i, hu, hs⟩
    rw [List.getD_eq_getElem?_getD] at hs
    cases hsi : s[i]? with
    | none => rw [hsi] at hs; simp at hs
    | some c =>
      rw [hsi] at hs
      simp at hs
      subst hs
      refine ⟨(x, true), List.mem_iff_getElem?.2 ⟨i, ?_⟩, by simp⟩
      rw [List.zip, List.getElem?_zipWith, hu, hsi]
theorem mem_namesOf_ix {u : List (List UInt8)} {s : List Bool} {x : List UInt8} (ha : ascB u = true) (hx : x ∈ u) : x ∈ namesOf u s ↔ s.getD (ixN u x) false = true := by
  obtain ⟨_, hi⟩ := ixI_of_mem ha hx
  rw [mem_namesOf]
  constructor
  · rintro ⟨i, hu, hs⟩
    have := ascB_inj ha hu hi
    rw [← this]; exact hs
  · intro h; exact ⟨_, hi, h⟩
theorem namesOf_sub {u : List (List UInt8)} {s : List Bool} {x : List UInt8} (h : x ∈ namesOf u s) : x ∈ u := by
  obtain ⟨i, hu, _⟩ := mem_namesOf.1 h
  exact List.mem_of_getElem? hu
theorem firesB_names {u : List (List UInt8)} {s : List Bool} {r : RuleN} (ha : ascB u = true) (hr : okRule u r) :
    firesB s (toHorn u r) = (decide (∀ x ∈ r.1, x ∈ namesOf u s) && !decide (r.2 ∈ namesOf u s)) := by
  obtain ⟨_, h2, h3⟩ := hr
  unfold firesB toHorn
  simp only
  have e1 : s.getD (ixN u r.2) false = decide (r.2 ∈ namesOf u s) := by
    rw [Bool.eq_iff_iff, decide_eq_true_eq]
    exact (mem_namesOf_ix ha h3).symm
  have e2 : ((r.1.map (ixN u)).all fun p => s.getD p false) = decide (∀ x ∈ r.1, x ∈ namesOf u s) := by
    rw [Bool.eq_iff_iff, decide_eq_true_eq, List.all_eq_true]
    constructor
    · intro h x hx
      exact (mem_namesOf_ix ha (h2 x hx)).2 (h _ (List.mem_map_of_mem hx))
    · intro h p hp
      obtain ⟨x, hx, rfl⟩ := List.mem_map.1 hp
      exact (mem_namesOf_ix ha (h2 x hx)).1 (h x hx)
  rw [e1, e2, Bool.and_comm]
theorem fireI_iff {hs : List Horn} {s : List Bool} : fireI hs (fun _ => true) s = none ↔ ∀ h ∈ hs, firesB s h = false := by
  constructor
  · intro h x hx
    obtain ⟨i, hi, rfl⟩ := List.mem_iff_getElem.1 hx
    have := not_fire h i hi
    rw [Bool.true_and, List.getD_eq_getElem?_getD, List.getElem?_eq_getElem hi] at this
    exact this
  · intro h
    refine fireI_none fun i hi => ?_
    rw [Bool.true_and, List.getD_eq_getElem?_getD, List.getElem?_eq_getElem hi]
    exact h _ (List.getElem_mem hi)
theorem closedN_iff {u : List (List UInt8)} {rs : List RuleN} {s : List Bool} (ha : ascB u = true) (hr : ∀ r ∈ rs, okRule u r) :
    closedN rs (namesOf u s) = true ↔ fireI (rs.map (toHorn u)) (fun _ => true) s = none := by
  rw [fireI_iff]
  unfold closedN
  rw [List.all_eq_true]
  constructor
  · intro h x hx
    obtain ⟨r, hr', rfl⟩ := List.mem_map.1 hx
    rw [firesB_names ha (hr r hr')]
    have := h r hr'
    cases h1 : decide (∀ x ∈ r.1, x ∈ namesOf u s) <;> cases h2 : decide (r.2 ∈ namesOf u s) <;> simp_all
  · intro h r hr'
    have := h _ (List.mem_map_of_mem hr')
    rw [firesB_names ha (hr r hr')] at this
    cases h1 : decide (∀ x ∈ r.1, x ∈ namesOf u s) <;> cases h2 : decide (r.2 ∈ namesOf u s) <;> simp_all
theorem namesOf_cons (x : List UInt8) (u : List (List UInt8)) (b : Bool) (s : List Bool) : namesOf (x :: u) (b :: s) = if b = true then x :: namesOf u s else namesOf u s := by
  unfold namesOf
  cases b <;> simp
theorem subsets_map (u : List (List UInt8)) : (subsetsB u.length).map (namesOf u) = subsetsN u := by
  induction u with
  | nil => rfl
  | cons x t ih =>
    simp only [List.length_cons, subsetsB, List.map_append, List.map_map, subsetsN, ← ih]
    congr 1
theorem all_eq {u : List (List UInt8)} {rs : List RuleN} (h0 : checkE u rs = 0) : allN u rs = allRef u rs := by
  obtain ⟨_, ha, hr⟩ := checkE_ok.1 h0
  have hok : okH u.length (rs.map (toHorn u)) := okH_of ha hr
  unfold allN allRef
  rw [allB_eq (chain_cl hok), ← subsets_map, List.filter_map]
  congr 1
  apply List.filter_congr
  intro s hs
  have hl := mem_subsetsB.1 hs
  show decide ((chainB (rs.map (toHorn u)) (fun _ => true) s).1 = s) = closedN rs (namesOf u s)
  rw [Bool.eq_iff_iff, decide_eq_true_eq, chain_fix hok hl, closedN_iff ha hr]
end Go.Proofs.Ythgplaledmccgaa
