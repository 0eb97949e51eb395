/-
  Plain laws: reduced rules over places are the reduced rules over names.
-/
import Derived.Test.YthgplaledmccgaaSpec14
namespace Go.Proofs.Ythgplaledmccgaa
def ent (hs : List Horn) (U : Nat → Bool) (n : Nat) (h : Horn) : Bool := (chainB hs U (setOf n h.1)).1.getD h.2 false
def shortStep (hs : List Horn) (n : Nat) (th : Nat) (sh : List Nat) (p : Nat) : List Nat := if ent hs (fun _ => true) n (sh.filter fun x => !decide (x = p), th) = true then sh.filter fun x => !decide (x = p) else sh
def shortF (hs : List Horn) (n : Nat) (h : Horn) : List Nat := h.1.foldl (shortStep hs n h.2) h.1
def hs2F (hs : List Horn) (n : Nat) : List Horn := hs.map fun h => (shortF hs n h, h.2)
def goneF (hs2 : List Horn) (n : Nat) : Nat → List Bool
  | 0 => List.replicate hs2.length false
  | k + 1 => (goneF hs2 n k).set k (ent hs2 (fun i => decide (i ≠ k) && !((goneF hs2 n k).getD i false)) n (hs2.getD k ([], 0)))
theorem goneF_len (hs2 : List Horn) (n k : Nat) : (goneF hs2 n k).length = hs2.length := by
  induction k with
  | zero => simp [goneF]
  | succ k ih => rw [goneF, List.length_set, ih]
def ruleOf (u : NmL) (h : Horn) : RuleN := (h.1.map fun p => u.getD p [], u.getD h.2 [])
/-- the rules before place k that are not gone -/
def leftF (hs2 : List Horn) (g : List Bool) (k : Nat) : List Horn := ((List.range k).filter fun i => !(g.getD i false)).map fun i => hs2.getD i ([], 0)
def reduceB (u : NmL) (rs : List RuleN) : List RuleN :=
  (leftF (hs2F (rs.map (toHorn u)) u.length) (goneF (hs2F (rs.map (toHorn u)) u.length) u.length rs.length) rs.length).map (ruleOf u)

def shortStepR (u : NmL) (rs : List RuleN) (th : List UInt8) (sh : NmL) (x : List UInt8) : NmL := if entR u rs (sh.filter fun y => !decide (y = x), th) = true then sh.filter fun y => !decide (y = x) else sh
def shortR (u : NmL) (rs : List RuleN) (r : RuleN) : RuleN := (r.1.foldl (shortStepR u rs r.2) r.1, r.2)
def keepR (u : NmL) : List RuleN → List RuleN → List RuleN
  | kept, [] => kept
  | kept, r :: t => if entR u (kept ++ t) r = true then keepR u kept t else keepR u (kept ++ [r]) t
def reduceR (u : NmL) (rs : List RuleN) : List RuleN := keepR u [] (rs.map (shortR u rs))

theorem shortStepR_sub (u : NmL) (rs : List RuleN) (th : List UInt8) (sh : NmL) (x : List UInt8) : (shortStepR u rs th sh x).Sublist sh := by
  unfold shortStepR; split
  · exact List.filter_sublist
  · exact List.Sublist.refl _
theorem foldR_sub (u : NmL) (rs : List RuleN) (th : List UInt8) (l sh : NmL) : (l.foldl (shortStepR u rs th) sh).Sublist sh := by
  induction l generalizing sh with
  | nil => exact List.Sublist.refl _
  | cons x t ih => exact (ih _).trans (shortStepR_sub u rs th sh x)
theorem shortR_sub (u : NmL) (rs : List RuleN) (r : RuleN) : (shortR u rs r).1.Sublist r.1 := foldR_sub _ _ _ _ _
theorem okRule_sub {u : NmL} {r : RuleN} (h : okRule u r) {l : NmL} (hl : l.Sublist r.1) : okRule u (l, r.2) :=
  ⟨asc_sublist h.1 hl, fun x hx => h.2.1 x (hl.subset hx), h.2.2⟩
section
variable {u : NmL} {rs : List RuleN}
theorem ent_names (ha : ascB u = true) (hr : ∀ r ∈ rs, okRule u r) {r : RuleN} (ho : okRule u r) {hs : List Horn} {U : Nat → Bool} (hsel : sel hs U = rs.map (toHorn u)) : ent hs U u.length (toHorn u r) = entR u rs r := ent_places ha hr ho hsel
theorem filter_ix (ha : ascB u = true) {l : NmL} {x : List UInt8} (hl : ∀ y ∈ l, y ∈ u) (hx : x ∈ u) : (l.map (ixN u)).filter (fun i => !decide (i = ixN u x)) = (l.filter fun y => !decide (y = x)).map (ixN u) := by
  induction l with
  | nil => rfl
  | cons y t ih =>
    have ih := ih fun z hz => hl z (by simp [hz])
    by_cases h : y = x
    · subst h
      simp only [List.map_cons, List.filter_cons, decide_true, Bool.not_true]
      simpa using ih
    · have h2 : ixN u y ≠ ixN u x := fun e => h (ixN_inj ha (hl y (by simp)) hx e)
      simp only [List.map_cons, List.filter_cons, decide_eq_false h, decide_eq_false h2, Bool.not_false, if_true, ih]
theorem short_eq (ha : ascB u = true) (hr : ∀ r ∈ rs, okRule u r) {th : List UInt8} (hth : th ∈ u) (l sh : NmL) (hl : ∀ x ∈ l, x ∈ u) (hs : ascB sh = true) (hsu : ∀ x ∈ sh, x ∈ u) :
    (l.map (ixN u)).foldl (shortStep (rs.map (toHorn u)) u.length (ixN u th)) (sh.map (ixN u)) = (l.foldl (shortStepR u rs th) sh).map (ixN u) := by
  induction l generalizing sh with
  | nil => rfl
  | cons x t ih =>
    have hx := hl x (by simp)
    rw [List.map_cons, List.foldl_cons, List.foldl_cons]
    have e : shortStep (rs.map (toHorn u)) u.length (ixN u th) (sh.map (ixN u)) (ixN u x) = (shortStepR u rs th sh x).map (ixN u) := by
      unfold shortStep shortStepR
      rw [filter_ix ha hsu hx]
      have he : ent (rs.map (toHorn u)) (fun _ => true) u.length ((sh.filter fun y => !decide (y = x)).map (ixN u), ixN u th) = entR u rs (sh.filter fun y => !decide (y = x), th) :=
        ent_names ha hr (r := (sh.filter fun y => !decide (y = x), th)) ⟨asc_filter hs _, fun y hy => hsu y (List.mem_filter.1 hy).1, hth⟩ (sel_all _)
      rw [he]
      split <;> rfl
    rw [e]
    exact ih _ (fun y hy => hl y (by simp [hy])) (asc_sublist hs (shortStepR_sub u rs th sh x)) (fun y hy => hsu y ((shortStepR_sub u rs th sh x).subset hy))
theorem hs2_eq (ha : ascB u = true) (hr : ∀ r ∈ rs, okRule u r) : hs2F (rs.map (toHorn u)) u.length = (rs.map (shortR u rs)).map (toHorn u) := by
  unfold hs2F
  rw [List.map_map, List.map_map]
  apply List.map_congr_left
  intro r hrm
  obtain ⟨o1, o2, o3⟩ := hr r hrm
  simp only [Function.comp]
  unfold shortF shortR toHorn
  simp only
  congr 1
  exact short_eq ha hr o3 r.1 r.1 o2 o1 o2
theorem ruleOf_horn (ha : ascB u = true) {r : RuleN} (ho : okRule u r) : ruleOf u (toHorn u r) = r := by
  have e : ∀ x ∈ u, u.getD (ixN u x) [] = x := fun x hx => by rw [List.getD_eq_getElem?_getD, (ixI_of_mem ha hx).2]; rfl
  unfold ruleOf toHorn
  simp only [List.map_map]
  rw [e _ ho.2.2]
  have : (r.1.map ((fun p => u.getD p []) ∘ ixN u)) = r.1 := by
    conv => rhs; rw [← List.map_id r.1]
    apply List.map_congr_left
    intro x hx
    exact e x (ho.2.1 x hx)
  rw [this]
end
theorem leftF_succ (hs2 : List Horn) (g : List Bool) (k : Nat) : leftF hs2 g (k + 1) = leftF hs2 g k ++ (if g.getD k false = true then [] else [hs2.getD k ([], 0)]) := by
  unfold leftF
  rw [List.range_succ, List.filter_append, List.map_append]
  congr 1
  by_cases h : g.getD k false = true
  · rw [if_pos h, List.filter_cons, if_neg (by rw [h]; decide)]; rfl
  · have h2 : g.getD k false = false := by simpa using h
    rw [if_neg h, List.filter_cons, if_pos (by rw [h2]; rfl)]; rfl
theorem leftF_set (hs2 : List Horn) (g : List Bool) (k : Nat) (b : Bool) : leftF hs2 (g.set k b) k = leftF hs2 g k := by
  unfold leftF
  congr 1
  apply List.filter_congr
  intro i hi
  have hik : i < k := List.mem_range.1 hi
  rw [List.getD_eq_getElem?_getD, List.getD_eq_getElem?_getD, List.getElem?_set_ne (by omega)]
theorem goneF_later (hs2 : List Horn) (n k i : Nat) (hi : k ≤ i) : (goneF hs2 n k).getD i false = false := by
  induction k with
  | zero =>
    rw [goneF, List.getD_eq_getElem?_getD, List.getElem?_replicate]
    split <;> rfl
  | succ k ih =>
    rw [goneF, List.getD_eq_getElem?_getD, List.getElem?_set_ne (by omega), ← List.getD_eq_getElem?_getD]
    exact ih (by omega)
theorem drop_map_range (hs2 : List Horn) (k : Nat) (hk : k ≤ hs2.length) : ((List.range (hs2.length - k)).map (k + ·)).map (fun i => hs2.getD i ([], 0)) = hs2.drop k := by
  apply List.ext_getElem
  · simp
  · intro i h1 h2
    simp at h1 ⊢
    rw [List.getElem?_eq_getElem (by omega)]; rfl
theorem sel_gone (hs2 : List Horn) (n k : Nat) (hk : k < hs2.length) : sel hs2 (fun i => decide (i ≠ k) && !((goneF hs2 n k).getD i false)) = leftF hs2 (goneF hs2 n k) k ++ hs2.drop (k + 1) := by
  unfold sel leftF
  have e : List.range hs2.length = List.range k ++ ([k] ++ (List.range (hs2.length - (k + 1))).map (k + 1 + ·)) := by
    have h1 : hs2.length = k + (1 + (hs2.length - (k + 1))) := by omega
    conv => lhs; rw [h1, List.range_add, List.range_add]
    simp [List.range_succ, Function.comp_def, Nat.add_assoc]
  rw [e, List.filter_append, List.filter_append, List.map_append, List.map_append]
  congr 1
  · congr 1
    apply List.filter_congr
    intro i hi
    have : i ≠ k := by have := List.mem_range.1 hi; omega
    simp [this]
  · have h1 : [k].filter (fun i => decide (i ≠ k) && !((goneF hs2 n k).getD i false)) = [] := by simp
    have h2 : ((List.range (hs2.length - (k + 1))).map (k + 1 + ·)).filter (fun i => decide (i ≠ k) && !((goneF hs2 n k).getD i false)) = (List.range (hs2.length - (k + 1))).map (k + 1 + ·) := by
      rw [List.filter_eq_self]
      intro i hi
      obtain ⟨j, _, rfl⟩ := List.mem_map.1 hi
      rw [goneF_later _ _ _ _ (by omega)]
      simp; omega
    rw [h1, h2]
    exact drop_map_range hs2 (k + 1) (by omega)
theorem keep_eq {u : NmL} (ha : ascB u = true) (ss : List RuleN) (ho : ∀ r ∈ ss, okRule u r) (d k : Nat) (hk : k + d = ss.length) :
    ∃ kept, leftF (ss.map (toHorn u)) (goneF (ss.map (toHorn u)) u.length k) k = kept.map (toHorn u) ∧ (∀ r ∈ kept, r ∈ ss) ∧ keepR u [] ss = keepR u kept (ss.drop k) := by
  induction k generalizing d with
  | zero => exact ⟨[], rfl, by simp, by simp⟩
  | succ k ih =>
    obtain ⟨kept, h1, h2, h3⟩ := ih (d + 1) (by omega)
    have hks : k < ss.length := by omega
    have hlen : (ss.map (toHorn u)).length = ss.length := by simp
    have hget : (ss.map (toHorn u)).getD k ([], 0) = toHorn u ss[k] := by
      rw [List.getD_eq_getElem?_getD, List.getElem?_map, List.getElem?_eq_getElem hks]; rfl
    have hsel := sel_gone (ss.map (toHorn u)) u.length k (by rw [hlen]; exact hks)
    rw [h1, ← List.map_drop, ← List.map_append] at hsel
    have hok : ∀ r ∈ kept ++ ss.drop (k + 1), okRule u r := by
      intro r hr
      rcases List.mem_append.1 hr with hr | hr
      · exact ho r (h2 r hr)
      · exact ho r (List.mem_of_mem_drop hr)
    have hent := ent_names ha hok (ho _ (List.getElem_mem hks)) hsel
    rw [List.drop_eq_getElem_cons hks, keepR] at h3
    have hl : leftF (ss.map (toHorn u)) (goneF (ss.map (toHorn u)) u.length (k + 1)) (k + 1) = kept.map (toHorn u) ++ (if entR u (kept ++ ss.drop (k + 1)) ss[k] = true then [] else [toHorn u ss[k]]) := by
      rw [leftF_succ, goneF, hget, hent, leftF_set, h1]
      congr 1
      rw [List.getD_eq_getElem?_getD, List.getElem?_set_self (by rw [goneF_len, hlen]; exact hks)]
      rfl
    by_cases he : entR u (kept ++ ss.drop (k + 1)) ss[k] = true
    · rw [if_pos he] at h3 hl
      exact ⟨kept, by rw [hl, List.append_nil], h2, h3⟩
    · rw [if_neg he] at h3 hl
      refine ⟨kept ++ [ss[k]], by rw [hl]; simp, fun r hr => ?_, h3⟩
      rcases List.mem_append.1 hr with hr | hr
      · exact h2 r hr
      · rw [List.mem_singleton] at hr; subst hr; exact List.getElem_mem hks
theorem shortR_ok {u : NmL} {rs : List RuleN} (hr : ∀ r ∈ rs, okRule u r) : ∀ r ∈ rs.map (shortR u rs), okRule u r := by
  intro r hm
  obtain ⟨s, hs, rfl⟩ := List.mem_map.1 hm
  exact okRule_sub (hr s hs) (shortR_sub u rs s)
theorem reduce_eq {u : NmL} {rs : List RuleN} (h0 : checkE u rs = 0) : reduceB u rs = reduceR u rs := by
  obtain ⟨_, ha, hr⟩ := checkE_ok.1 h0
  unfold reduceB reduceR
  rw [hs2_eq ha hr]
  obtain ⟨kept, h1, h2, h3⟩ := keep_eq ha (rs.map (shortR u rs)) (shortR_ok hr) 0 rs.length (by simp)
  rw [h1, h3, List.drop_of_length_le (by simp), keepR, List.map_map]
  conv => rhs; rw [← List.map_id kept]
  apply List.map_congr_left
  intro r hrk
  exact ruleOf_horn ha (shortR_ok hr r (h2 r hrk))
end Go.Proofs.Ythgplaledmccgaa
