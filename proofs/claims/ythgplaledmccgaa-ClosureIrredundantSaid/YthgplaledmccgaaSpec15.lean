/-
  Plain law: the derivation walked backwards over places is the one walked backwards over names.
-/
import Derived.Test.YthgplaledmccgaaSpec10
namespace Go.Proofs.Ythgplaledmccgaa
def setAll (s : List Bool) (l : List Nat) : List Bool := l.foldl (fun s p => s.set p true) s
theorem setAll_len (s : List Bool) (l : List Nat) : (setAll s l).length = s.length := by
  unfold setAll
  induction l generalizing s with
  | nil => rfl
  | cons a t ih => rw [List.foldl_cons, ih, List.length_set]
theorem setAll_snoc (s : List Bool) (l : List Nat) (p : Nat) : setAll s (l ++ [p]) = (setAll s l).set p true := by
  unfold setAll; rw [List.foldl_append]; rfl
/-- the rules needed, the last first -/
def backB (hs : List Horn) : List (Nat × Nat) → List Bool → List Nat → List Nat
  | [], _, why => why
  | st :: t, need, why => if need.getD st.2 false = true then backB hs t (setAll need (hs.getD st.1 ([], 0)).1) (why ++ [st.1]) else backB hs t need why
def backR (rs : List RuleN) : List Nat → NmL → List Nat → List Nat
  | [], _, out => out
  | i :: t, needed, out => if (rs.getD i ([], [])).2 ∈ needed then backR rs t (needed ++ (rs.getD i ([], [])).1) (i :: out) else backR rs t needed out
def whyB (u : NmL) (rs : List RuleN) (l : NmL) (name : List UInt8) : List Nat :=
  (backB (rs.map (toHorn u)) (chainB (rs.map (toHorn u)) (fun _ => true) (memB u l)).2.reverse ((List.replicate u.length false).set (ixN u name) true) []).reverse
def whyR (rs : List RuleN) (l : NmL) (name : List UInt8) : List Nat := backR rs (chainR rs l).2.reverse [name] []

theorem Same.addAll {u : NmL} {s : List Bool} {out : NmL} (ha : ascB u = true) (h : Same u s out) {l : NmL} (hl : ∀ x ∈ l, x ∈ u) : Same u (setAll s (l.map (ixN u))) (out ++ l) := by
  induction l generalizing s out with
  | nil => simpa [setAll] using h
  | cons y t ih =>
    have := ih (h.add ha (hl y (by simp))) fun x hx => hl x (by simp [hx])
    rw [List.append_assoc] at this
    exact this
theorem chainF_named {hs : List Horn} {U : Nat → Bool} (f : Nat) (s : List Bool) : ∀ p ∈ (chainF hs U f s).2, p.1 < hs.length ∧ p.2 = (hs.getD p.1 ([], 0)).2 := by
  induction f generalizing s with
  | zero => intro p hp; simp [chainF] at hp
  | succ f ih =>
    intro p hp
    rw [chainF] at hp
    split at hp
    · simp at hp
    · next i hi =>
      rcases List.mem_cons.1 hp with rfl | hp
      · exact ⟨(fireI_some hi).1, rfl⟩
      · exact ih _ p hp
theorem back_eq {u : NmL} {rs : List RuleN} (ha : ascB u = true) (hr : ∀ r ∈ rs, okRule u r) (st : List (Nat × Nat)) (hst : ∀ p ∈ st, p.1 < rs.length ∧ p.2 = ((rs.map (toHorn u)).getD p.1 ([], 0)).2)
    {need : List Bool} {needed : NmL} (h : Same u need needed) (why : List Nat) : (backB (rs.map (toHorn u)) st need why).reverse = backR rs (st.map (·.1)) needed why.reverse := by
  induction st generalizing need needed why with
  | nil => rfl
  | cons p t ih =>
    obtain ⟨h1, h2⟩ := hst p (by simp)
    have hm : rs.getD p.1 ([], []) ∈ rs := by
      rw [List.getD_eq_getElem?_getD, List.getElem?_eq_getElem h1]
      exact List.getElem_mem h1
    have hg : (rs.map (toHorn u)).getD p.1 ([], 0) = toHorn u (rs.getD p.1 ([], [])) := getD_map _ _ _ _ _ h1
    obtain ⟨o1, o2, o3⟩ := hr _ hm
    have ht : ∀ q ∈ t, q.1 < rs.length ∧ q.2 = ((rs.map (toHorn u)).getD q.1 ([], 0)).2 := fun q hq => hst q (by simp [hq])
    rw [hg] at h2
    have hiff : (rs.getD p.1 ([], [])).2 ∈ needed ↔ need.getD (toHorn u (rs.getD p.1 ([], []))).2 false = true := h.2.2 _ o3
    rw [List.map_cons, backB, backR, hg, h2]
    by_cases hn : (rs.getD p.1 ([], [])).2 ∈ needed
    · rw [if_pos hn, if_pos (hiff.1 hn)]
      have := ih ht (h.addAll ha o2) (why ++ [p.1])
      rw [List.reverse_append] at this
      exact this
    · rw [if_neg hn, if_neg (fun hx => hn (hiff.2 hx))]
      exact ih ht h why
theorem why_eq {u : NmL} {rs : List RuleN} {l : NmL} {name : List UInt8} (h0 : checkE u rs = 0) (hl : ∀ x ∈ l, x ∈ u) (hn : name ∈ u) : whyB u rs l name = whyR rs l name := by
  obtain ⟨_, ha, hr⟩ := checkE_ok.1 h0
  have hc := (Same.start ha hl).chain ha hr _ (Nat.le_refl _)
  have hs : Same u ((List.replicate u.length false).set (ixN u name) true) [name] := by
    have := Same.of_set (l := [name]) ha (by intro x hx; rw [List.mem_singleton] at hx; rw [hx]; exact hn)
    exact this
  unfold whyB whyR
  rw [back_eq ha hr _ (fun p hp => by
    have := chainF_named _ _ p (List.mem_reverse.1 hp)
    rwa [List.length_map] at this) hs [], List.map_reverse, hc.2]
  rfl
theorem why_in {u : NmL} {rs : List RuleN} {l : NmL} {name : List UInt8} (h0 : checkE u rs = 0) (hl : ∀ x ∈ l, x ∈ u) (hn : name ∈ u) :
    (chainB (rs.map (toHorn u)) (fun _ => true) (memB u l)).1.getD (ixN u name) false = decide (name ∈ (chainR rs l).1) := by
  obtain ⟨_, ha, hr⟩ := checkE_ok.1 h0
  have hc := (Same.start ha hl).chain ha hr _ (Nat.le_refl _)
  rw [Bool.eq_iff_iff, decide_eq_true_eq]
  exact (hc.1.2.2 _ hn).symm
theorem chainR_len {u : NmL} {rs : List RuleN} {l : NmL} (h0 : checkE u rs = 0) (hl : ∀ x ∈ l, x ∈ u) : (chainR rs l).2.length ≤ u.length := by
  obtain ⟨_, ha, hr⟩ := checkE_ok.1 h0
  have hc := (Same.start ha hl).chain ha hr _ (Nat.le_refl _)
  rw [← hc.2, List.length_map]
  have := chainF_steps (hs := rs.map (toHorn u)) (U := fun _ => true) (memB u l).length (memB u l)
  have e : (memB u l).length = u.length := by simp [memB]
  unfold chainB
  omega
end Go.Proofs.Ythgplaledmccgaa
