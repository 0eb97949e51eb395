/-
  Plain laws: forward chaining over names, as the reference does it, is forward chaining over places.
-/
import Derived.Test.YthgplaledmccgaaSpec8
namespace Go.Proofs.Ythgplaledmccgaa
abbrev NmL := List (List UInt8)
def firesR (out : NmL) (r : RuleN) : Bool := decide (∀ x ∈ r.1, x ∈ out) && !decide (r.2 ∈ out)
def fireR (rs : List RuleN) (out : NmL) : Option Nat := (List.range rs.length).find? fun i => firesR out (rs.getD i ([], []))
def chainRF (rs : List RuleN) : Nat → NmL → NmL × List Nat
  | 0, out => (out, [])
  | f + 1, out => match fireR rs out with
    | none => (out, [])
    | some i => let r := chainRF rs f (out ++ [(rs.getD i ([], [])).2]); (r.1, i :: r.2)
def chainR (rs : List RuleN) (out : NmL) : NmL × List Nat := chainRF rs rs.length out

theorem fireR_some {rs : List RuleN} {out : NmL} {i : Nat} (h : fireR rs out = some i) : i < rs.length ∧ firesR out (rs.getD i ([], [])) = true := by
  have h1 := List.find?_some h
  have h2 := List.mem_of_find?_eq_some h
  exact ⟨by simpa using h2, h1⟩
theorem fireR_of {rs : List RuleN} {out : NmL} {k : Nat} (hk : k < rs.length) (hno : ∀ i < k, firesR out (rs.getD i ([], [])) = false) (hy : firesR out (rs.getD k ([], [])) = true) : fireR rs out = some k := by
  unfold fireR
  rw [List.find?_range_eq_some]
  refine ⟨hy, by simpa using hk, fun j hj => ?_⟩
  rw [hno j hj]
  rfl
theorem fireR_none {rs : List RuleN} {out : NmL} (hno : ∀ i < rs.length, firesR out (rs.getD i ([], [])) = false) : fireR rs out = none := by
  unfold fireR
  rw [List.find?_eq_none]
  intro i hi
  rw [hno i (by simpa using hi)]
  simp
/-- how many rules' conclusions are missing -/
def missing (rs : List RuleN) (out : NmL) : Nat := rs.countP fun r => !decide (r.2 ∈ out)
theorem missing_le (rs : List RuleN) (out : NmL) : missing rs out ≤ rs.length := List.countP_le_length
theorem countP_lt {α : Type} {p q : α → Bool} {l : List α} (hpq : ∀ x ∈ l, q x = true → p x = true) {x : α} (hx : x ∈ l) (h1 : p x = true) (h2 : q x = false) : l.countP q < l.countP p := by
  induction l with
  | nil => simp at hx
  | cons a t ih =>
    rcases List.mem_cons.1 hx with rfl | hx
    · rw [List.countP_cons_of_pos h1, List.countP_cons_of_neg (by simp [h2])]
      have := List.countP_mono_left (l := t) (p := q) (q := p) fun y hy => hpq y (List.mem_cons_of_mem _ hy)
      omega
    · have h3 := ih (fun y hy => hpq y (List.mem_cons_of_mem _ hy)) hx
      rw [List.countP_cons, List.countP_cons]
      have h4 := hpq a (by simp)
      cases hq : q a <;> cases hp : p a <;> simp_all <;> omega
theorem missing_lt {rs : List RuleN} {out : NmL} {i : Nat} (h : fireR rs out = some i) : missing rs (out ++ [(rs.getD i ([], [])).2]) < missing rs out := by
  obtain ⟨h1, h2⟩ := fireR_some h
  have hm : rs.getD i ([], []) ∈ rs := by
    rw [List.getD_eq_getElem?_getD, List.getElem?_eq_getElem h1]
    exact List.getElem_mem h1
  unfold firesR at h2
  simp only [Bool.and_eq_true, Bool.not_eq_true', decide_eq_false_iff_not] at h2
  unfold missing
  refine countP_lt (fun r _ hr => ?_) hm ?_ ?_
  · simp only [Bool.not_eq_true', decide_eq_false_iff_not, List.mem_append] at hr ⊢
    exact fun hx => hr (.inl hx)
  · simpa using h2.2
  · simp
theorem chainRF_stable {rs : List RuleN} {f : Nat} {out : NmL} (hf : missing rs out ≤ f) : chainRF rs (f + 1) out = chainRF rs f out := by
  induction f generalizing out with
  | zero =>
    cases hfi : fireR rs out with
    | none => simp [chainRF, hfi]
    | some i => have := missing_lt hfi; omega
  | succ f ih =>
    cases hfi : fireR rs out with
    | none => simp [chainRF, hfi]
    | some i =>
      have := missing_lt hfi
      have e := ih (out := out ++ [(rs.getD i ([], [])).2]) (by omega)
      rw [chainRF, hfi]
      simp only
      rw [e]
      conv => rhs; rw [chainRF, hfi]
theorem chainRF_more {rs : List RuleN} {f g : Nat} {out : NmL} (hf : missing rs out ≤ f) (hg : f ≤ g) : chainRF rs g out = chainRF rs f out := by
  induction hg with
  | refl => rfl
  | step hle ih => rw [chainRF_stable (Nat.le_trans hf hle), ih]
theorem chainR_none {rs : List RuleN} {out : NmL} (h : fireR rs out = none) : chainR rs out = (out, []) := by
  unfold chainR
  cases rs.length with
  | zero => rfl
  | succ f => simp [chainRF, h]
theorem chainR_some {rs : List RuleN} {out : NmL} {i : Nat} (h : fireR rs out = some i) :
    chainR rs out = ((chainR rs (out ++ [(rs.getD i ([], [])).2])).1, i :: (chainR rs (out ++ [(rs.getD i ([], [])).2])).2) := by
  have hz := missing_lt h
  have hz2 := missing_le rs out
  have e : chainR rs (out ++ [(rs.getD i ([], [])).2]) = chainRF rs (rs.length - 1) (out ++ [(rs.getD i ([], [])).2]) := chainRF_more (by omega) (by omega)
  rw [e]
  unfold chainR
  obtain ⟨m, hm⟩ : ∃ m, rs.length = m + 1 := ⟨rs.length - 1, by omega⟩
  rw [hm, chainRF, h]
  rfl

/-! ### names and places -/
/-- s holds the places of the names of out -/
def Same (u : NmL) (s : List Bool) (out : NmL) : Prop := s.length = u.length ∧ (∀ x ∈ out, x ∈ u) ∧ ∀ x ∈ u, (x ∈ out ↔ s.getD (ixN u x) false = true)
theorem Same.start {u l : NmL} (ha : ascB u = true) (hl : ∀ x ∈ l, x ∈ u) : Same u (memB u l) l := by
  refine ⟨by simp [memB], hl, fun x hx => ?_⟩
  obtain ⟨_, hi⟩ := ixI_of_mem ha hx
  rw [List.getD_eq_getElem?_getD, memB, List.getElem?_map, hi]
  simp
theorem ixN_inj {u : NmL} (ha : ascB u = true) {x y : List UInt8} (hx : x ∈ u) (hy : y ∈ u) (h : ixN u x = ixN u y) : x = y := by
  have h1 := (ixI_of_mem ha hx).2
  have h2 := (ixI_of_mem ha hy).2
  rw [h, h2] at h1
  exact (Option.some.inj h1).symm
theorem Same.add {u : NmL} {s : List Bool} {out : NmL} (ha : ascB u = true) (h : Same u s out) {y : List UInt8} (hy : y ∈ u) : Same u (s.set (ixN u y) true) (out ++ [y]) := by
  obtain ⟨h1, h2, h3⟩ := h
  have hlt := ixN_lt ha hy
  refine ⟨by rw [List.length_set]; exact h1, fun x hx => ?_, fun x hx => ?_⟩
  · rw [List.mem_append, List.mem_singleton] at hx
    rcases hx with hx | rfl
    · exact h2 x hx
    · exact hy
  · rw [List.mem_append, List.mem_singleton]
    by_cases hxy : x = y
    · subst hxy
      simp only [or_true, true_iff]
      exact getD_set_self (by omega)
    · rw [getD_set_ne (fun e => hxy (ixN_inj ha hx hy e.symm)), ← h3 x hx]
      simp [hxy]
theorem Same.fires {u : NmL} {s : List Bool} {out : NmL} (h : Same u s out) {r : RuleN} (hr : okRule u r) : firesB s (toHorn u r) = firesR out r := by
  obtain ⟨h1, h2, h3⟩ := h
  obtain ⟨_, r2, r3⟩ := hr
  unfold firesB firesR toHorn
  simp only
  have e1 : s.getD (ixN u r.2) false = decide (r.2 ∈ out) := by
    rw [Bool.eq_iff_iff, decide_eq_true_eq]; exact (h3 _ r3).symm
  have e2 : ((r.1.map (ixN u)).all fun p => s.getD p false) = decide (∀ x ∈ r.1, x ∈ out) := by
    rw [Bool.eq_iff_iff, decide_eq_true_eq, List.all_eq_true]
    constructor
    · intro h x hx
      exact (h3 x (r2 x hx)).2 (h _ (List.mem_map_of_mem hx))
    · intro h p hp
      obtain ⟨x, hx, rfl⟩ := List.mem_map.1 hp
      exact (h3 x (r2 x hx)).1 (h x hx)
  rw [e1, e2, Bool.and_comm]
theorem getD_map {α β : Type} (f : α → β) (l : List α) (i : Nat) (d : α) (d' : β) (h : i < l.length) : (l.map f).getD i d' = f (l.getD i d) := by
  rw [List.getD_eq_getElem?_getD, List.getD_eq_getElem?_getD, List.getElem?_map, List.getElem?_eq_getElem h]; rfl
theorem find_congr {α : Type} {p q : α → Bool} {l : List α} (h : ∀ x ∈ l, p x = q x) : l.find? p = l.find? q := by
  induction l with
  | nil => rfl
  | cons a t ih =>
    rw [List.find?_cons, List.find?_cons, h a (by simp), ih fun x hx => h x (List.mem_cons_of_mem _ hx)]
theorem Same.fireI {u : NmL} {s : List Bool} {out : NmL} {rs : List RuleN} (h : Same u s out) (hr : ∀ r ∈ rs, okRule u r) : fireI (rs.map (toHorn u)) (fun _ => true) s = fireR rs out := by
  unfold Go.Proofs.Ythgplaledmccgaa.fireI fireR
  rw [List.length_map]
  refine find_congr fun i hi => ?_
  have hi : i < rs.length := by simpa using hi
  rw [Bool.true_and, getD_map _ _ _ ([], []) _ hi]
  refine h.fires (hr _ ?_)
  rw [List.getD_eq_getElem?_getD, List.getElem?_eq_getElem hi]
  exact List.getElem_mem hi
theorem Same.chain {u : NmL} {rs : List RuleN} (ha : ascB u = true) (hr : ∀ r ∈ rs, okRule u r) (n : Nat) {s : List Bool} {out : NmL} (h : Same u s out) (hn : zeros s ≤ n) :
    Same u (chainB (rs.map (toHorn u)) (fun _ => true) s).1 (chainR rs out).1 ∧ (chainB (rs.map (toHorn u)) (fun _ => true) s).2.map (·.1) = (chainR rs out).2 := by
  have hok : okH s.length (rs.map (toHorn u)) := by rw [h.1]; exact okH_of ha hr
  have hfe := h.fireI hr
  induction n generalizing s out with
  | zero =>
    cases hf : fireR rs out with
    | none =>
      rw [chainB_none (hfe.trans hf), chainR_none hf]
      exact ⟨h, rfl⟩
    | some i =>
      obtain ⟨h1, h2⟩ := fires_set hok (hfe.trans hf)
      have := zeros_set h1 h2
      omega
  | succ n ih =>
    cases hf : fireR rs out with
    | none =>
      rw [chainB_none (hfe.trans hf), chainR_none hf]
      exact ⟨h, rfl⟩
    | some i =>
      obtain ⟨h1, h2⟩ := fires_set hok (hfe.trans hf)
      have hz := zeros_set h1 h2
      obtain ⟨hi, _⟩ := fireR_some hf
      have hm : rs.getD i ([], []) ∈ rs := by
        rw [List.getD_eq_getElem?_getD, List.getElem?_eq_getElem hi]
        exact List.getElem_mem hi
      have hg : (rs.map (toHorn u)).getD i ([], 0) = toHorn u (rs.getD i ([], [])) := getD_map _ _ _ _ _ hi
      rw [chainB_some hok (hfe.trans hf), chainR_some hf, hg]
      have hs' := h.add ha (hr _ hm).2.2
      have hlen : (s.set (toHorn u (rs.getD i ([], []))).2 true).length = s.length := by rw [List.length_set]
      rw [hg] at hz
      obtain ⟨a, b⟩ := ih (s := s.set (toHorn u (rs.getD i ([], []))).2 true) (out := out ++ [(rs.getD i ([], [])).2]) hs' (by omega) (by rw [hlen]; exact hok) (hs'.fireI hr)
      exact ⟨a, by simp only [List.map_cons, b]⟩
def sortedN (u l : NmL) : NmL := u.filter fun x => decide (x ∈ l)
theorem namesOf_filter (u : NmL) (s : List Bool) (p : List UInt8 → Bool) (hl : s.length = u.length) (h : ∀ i x, u[i]? = some x → s.getD i false = p x) : namesOf u s = u.filter p := by
  induction u generalizing s with
  | nil => rfl
  | cons x u ih =>
    cases s with
    | nil => simp at hl
    | cons b s =>
      have h0 := h 0 x rfl
      simp at h0
      subst h0
      rw [namesOf_cons, List.filter_cons]
      have := ih s (by simpa using hl) fun i y hi => by have := h (i + 1) y (by simpa using hi); simpa using this
      rw [this]
theorem Same.names {u : NmL} {s : List Bool} {out : NmL} (ha : ascB u = true) (h : Same u s out) : namesOf u s = sortedN u out := by
  obtain ⟨h1, h2, h3⟩ := h
  refine namesOf_filter u s _ h1 fun i x hi => ?_
  have hx := List.mem_of_getElem? hi
  have := (ixI_of_mem ha hx).2
  rw [ascB_inj ha hi this, Bool.eq_iff_iff, decide_eq_true_eq]
  exact (h3 x hx).symm
/-- the reference's closure of a set of names -/
def closeR (u : NmL) (rs : List RuleN) (l : NmL) : NmL := sortedN u (chainR rs l).1
def closeN (u : NmL) (rs : List RuleN) (l : NmL) : NmL := namesOf u (chainB (rs.map (toHorn u)) (fun _ => true) (memB u l)).1
theorem close_eq {u : NmL} {rs : List RuleN} {l : NmL} (h0 : checkE u rs = 0) (hl : ∀ x ∈ l, x ∈ u) : closeN u rs l = closeR u rs l := by
  obtain ⟨_, ha, hr⟩ := checkE_ok.1 h0
  obtain ⟨h1, _⟩ := (Same.start ha hl).chain ha hr _ (Nat.le_refl _)
  exact h1.names ha
end Go.Proofs.Ythgplaledmccgaa
