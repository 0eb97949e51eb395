/-
  Plain functions: rules over names, their errors, their places.
-/
import Derived.Test.YthgplaledmccgaaSpec3
namespace Go.Proofs.Ythgplaledmccgaa
abbrev RuleN := List (List UInt8) × List UInt8
def ixN (u : List (List UInt8)) (x : List UInt8) : Nat := (ixI u x).toNat
def toHorn (u : List (List UInt8)) (r : RuleN) : Horn := (r.1.map (ixN u), ixN u r.2)
def ruleE (u : List (List UInt8)) (r : RuleN) : Int := if ascB r.1 = false then 1 else if (∀ x ∈ r.1, x ∈ u) ∧ r.2 ∈ u then 0 else 3
def rulesE (u : List (List UInt8)) : List RuleN → Int
  | [] => 0
  | r :: rs => if ruleE u r = 0 then rulesE u rs else ruleE u r
def okRule (u : List (List UInt8)) (r : RuleN) : Prop := ascB r.1 = true ∧ (∀ x ∈ r.1, x ∈ u) ∧ r.2 ∈ u
instance (u : List (List UInt8)) (r : RuleN) : Decidable (okRule u r) := by unfold okRule; infer_instance
theorem ruleE_ok {u : List (List UInt8)} {r : RuleN} : ruleE u r = 0 ↔ okRule u r := by
  unfold ruleE okRule
  cases ascB r.1 <;> simp
theorem rulesE_ok {u : List (List UInt8)} {rs : List RuleN} : rulesE u rs = 0 ↔ ∀ r ∈ rs, okRule u r := by
  induction rs with
  | nil => simp [rulesE]
  | cons r rs ih =>
    unfold rulesE
    by_cases h : ruleE u r = 0
    · rw [if_pos h, ih]
      simp [ruleE_ok.1 h]
    · rw [if_neg h]
      simp [h]
      intro h2
      exact absurd (ruleE_ok.2 h2) h
theorem rulesE_skip {u : List (List UInt8)} {rs rs' : List RuleN} (h : ∀ r ∈ rs, okRule u r) : rulesE u (rs ++ rs') = rulesE u rs' := by
  induction rs with
  | nil => rfl
  | cons r rs ih =>
    rw [List.cons_append, rulesE, if_pos (ruleE_ok.2 (h r (by simp)))]
    exact ih fun r hr => h r (by simp [hr])
theorem ixI_of_mem {u : List (List UInt8)} {x : List UInt8} (h : ascB u = true) (hx : x ∈ u) : ixI u x = ((ixN u x : Nat) : Int) ∧ u[ixN u x]? = some x := by
  obtain ⟨i, hi, hu⟩ := ixI_mem h hx
  unfold ixN
  rw [hi]
  exact ⟨by simp, by simpa using hu⟩
theorem ixN_lt {u : List (List UInt8)} {x : List UInt8} (h : ascB u = true) (hx : x ∈ u) : ixN u x < u.length :=
  (List.getElem?_eq_some_iff.1 (ixI_of_mem h hx).2).1
theorem okH_of {u : List (List UInt8)} {rs : List RuleN} (h : ascB u = true) (hr : ∀ r ∈ rs, okRule u r) : okH u.length (rs.map (toHorn u)) := by
  intro x hx
  obtain ⟨r, hr', rfl⟩ := List.mem_map.1 hx
  obtain ⟨_, h2, h3⟩ := hr r hr'
  refine ⟨ixN_lt h h3, fun p hp => ?_⟩
  obtain ⟨y, hy, rfl⟩ := List.mem_map.1 hp
  exact ixN_lt h (h2 y hy)
theorem ruleE_asc {u : List (List UInt8)} {r : RuleN} (h : ascB r.1 = false) : ruleE u r = 1 := by unfold ruleE; rw [if_pos h]
theorem ruleE_name {u : List (List UInt8)} {r : RuleN} (h : ascB r.1 = true) (hn : ¬ ((∀ x ∈ r.1, x ∈ u) ∧ r.2 ∈ u)) : ruleE u r = 3 := by
  unfold ruleE; rw [if_neg (by rw [h]; decide), if_neg hn]
theorem rulesE_head {u : List (List UInt8)} {r : RuleN} {rs : List RuleN} {e : Int} (h : ruleE u r = e) (he : e ≠ 0) : rulesE u (r :: rs) = e := by
  unfold rulesE; rw [if_neg (by rw [h]; exact he), h]
/-- the error of a universe and rules -/
def checkE (u : List (List UInt8)) (rs : List RuleN) : Int := if u.all okName = false then 3 else if ascB u = false then 1 else rulesE u rs
theorem checkE_ok {u : List (List UInt8)} {rs : List RuleN} : checkE u rs = 0 ↔ u.all okName = true ∧ ascB u = true ∧ ∀ r ∈ rs, okRule u r := by
  unfold checkE
  cases u.all okName <;> cases ascB u <;> simp [rulesE_ok]
end Go.Proofs.Ythgplaledmccgaa
