/-
  Plain laws of the closure over names: it ascends, contains its set, is closed, and is the least such.
-/
import Derived.Test.YthgplaledmccgaaSpec12
import Derived.Test.YthgplaledmccgaaSpec10
namespace Go.Proofs.Ythgplaledmccgaa
theorem asc_pair {l : NmL} (h : ascB l = true) : l.Pairwise fun a b => Op.bytesLess a b = true := by
  induction l with
  | nil => exact List.Pairwise.nil
  | cons a t ih => exact List.Pairwise.cons (ascB_head h) (ih (ascB_tail h))
theorem pair_asc {l : NmL} (h : l.Pairwise fun a b => Op.bytesLess a b = true) : ascB l = true := by
  refine ascB_get fun i h0 => ?_
  exact List.pairwise_iff_getElem.1 h i (i + 1) (by omega) h0 (by omega)
theorem asc_filter {l : NmL} (h : ascB l = true) (p : List UInt8 → Bool) : ascB (l.filter p) = true := pair_asc ((asc_pair h).filter p)
theorem mem_closeR {u : NmL} {rs : List RuleN} {l : NmL} {x : List UInt8} : x ∈ closeR u rs l ↔ x ∈ u ∧ x ∈ (chainR rs l).1 := mem_sortedN
theorem closeR_sub {u : NmL} {rs : List RuleN} {l : NmL} : ∀ x ∈ closeR u rs l, x ∈ u := fun _ h => (mem_closeR.1 h).1
theorem closeR_asc {u : NmL} {rs : List RuleN} {l : NmL} (h0 : checkE u rs = 0) : ascB (closeR u rs l) = true := asc_filter (checkE_ok.1 h0).2.1 _
theorem closeR_check {u : NmL} {rs : List RuleN} {l : NmL} (h0 : checkE u rs = 0) : check2E u rs (closeR u rs l) = 0 := by
  unfold check2E setE
  rw [if_pos h0, closeR_asc h0, if_neg (by decide), if_pos closeR_sub]
/-- the bits of the closure -/
theorem closeR_bits {u : NmL} {rs : List RuleN} {l : NmL} (h0 : checkE u rs = 0) (hl : ∀ x ∈ l, x ∈ u) {x : List UInt8} (hx : x ∈ u) :
    x ∈ closeR u rs l ↔ (chainB (rs.map (toHorn u)) (fun _ => true) (memB u l)).1.getD (ixN u x) false = true := by
  rw [← close_eq h0 hl]
  exact mem_namesOf_ix (checkE_ok.1 h0).2.1 hx
theorem closeR_ext {u : NmL} {rs : List RuleN} {l : NmL} (h0 : checkE u rs = 0) (hl : ∀ x ∈ l, x ∈ u) : ∀ x ∈ l, x ∈ closeR u rs l := by
  intro x hx
  rw [closeR_bits h0 hl (hl x hx)]
  apply chainB_ext
  exact ((Same.start (checkE_ok.1 h0).2.1 hl).2.2 x (hl x hx)).1 hx
theorem closeR_closed {u : NmL} {rs : List RuleN} {l : NmL} (h0 : checkE u rs = 0) (hl : ∀ x ∈ l, x ∈ u) : closedN rs (closeR u rs l) = true := by
  obtain ⟨_, ha, hr⟩ := checkE_ok.1 h0
  rw [← close_eq h0 hl]
  unfold closeN
  rw [closedN_iff ha hr]
  exact chainF_done (by rw [memB_len]; exact okH_of ha hr) (zeros_le _)
theorem fireI_closed {u : NmL} {rs : List RuleN} {c : NmL} (h0 : checkE u rs = 0) (hc : ∀ x ∈ c, x ∈ u) (h : closedN rs c = true) : fireI (rs.map (toHorn u)) (fun _ => true) (memB u c) = none := by
  obtain ⟨_, ha, hr⟩ := checkE_ok.1 h0
  rw [(Same.start ha hc).fireI hr]
  refine fireR_none fun i hi => ?_
  unfold closedN at h
  rw [List.all_eq_true] at h
  have hm : rs.getD i ([], []) ∈ rs := by
    rw [List.getD_eq_getElem?_getD, List.getElem?_eq_getElem hi]; exact List.getElem_mem hi
  have := h _ hm
  unfold firesR
  cases h1 : decide ((rs.getD i ([], [])).2 ∈ c) <;> cases h2 : decide (∀ x ∈ (rs.getD i ([], [])).1, x ∈ c) <;> rw [h1, h2] at this <;> simp_all
theorem closeR_least {u : NmL} {rs : List RuleN} {l c : NmL} (h0 : checkE u rs = 0) (hl : ∀ x ∈ l, x ∈ u) (hc : ∀ x ∈ c, x ∈ u) (hlc : ∀ x ∈ l, x ∈ c) (h : closedN rs c = true) : ∀ x ∈ closeR u rs l, x ∈ c := by
  obtain ⟨_, ha, hr⟩ := checkE_ok.1 h0
  intro x hx
  have hxu := closeR_sub x hx
  rw [closeR_bits h0 hl hxu] at hx
  have hle : Le (memB u l) (memB u c) := by
    intro i hi
    unfold memB at hi ⊢
    rw [List.getD_eq_getElem?_getD, List.getElem?_map] at hi ⊢
    cases hu : u[i]? with
    | none => rw [hu] at hi; simp at hi
    | some y =>
      rw [hu] at hi
      simp at hi ⊢
      exact hlc y hi
  have := chainF_least (fireI_closed h0 hc h) (memB u l).length hle _ hx
  exact ((Same.start ha hc).2.2 x hxu).2 this
theorem filter_same {u : NmL} {p q : List UInt8 → Bool} (h : ∀ x ∈ u, (p x = true ↔ q x = true)) : u.filter p = u.filter q :=
  List.filter_congr fun x hx => by rw [Bool.eq_iff_iff]; exact h x hx
theorem closeR_idem {u : NmL} {rs : List RuleN} {l : NmL} (h0 : checkE u rs = 0) (hl : ∀ x ∈ l, x ∈ u) : closeR u rs (closeR u rs l) = closeR u rs l := by
  refine filter_same (u := u) (p := fun x => decide (x ∈ (chainR rs (closeR u rs l)).1)) (q := fun x => decide (x ∈ (chainR rs l).1)) fun x hx => ?_
  rw [decide_eq_true_eq, decide_eq_true_eq]
  constructor
  · intro h
    exact (mem_closeR.1 (closeR_least h0 closeR_sub closeR_sub (fun _ h => h) (closeR_closed h0 hl) x (mem_closeR.2 ⟨hx, h⟩))).2
  · intro h
    exact (mem_closeR.1 (closeR_ext h0 closeR_sub x (mem_closeR.2 ⟨hx, h⟩))).2
theorem closeR_mono {u : NmL} {rs : List RuleN} {l c : NmL} (h0 : checkE u rs = 0) (hl : ∀ x ∈ l, x ∈ u) (hc : ∀ x ∈ c, x ∈ u) (hlc : ∀ x ∈ l, x ∈ c) : ∀ x ∈ closeR u rs l, x ∈ closeR u rs c :=
  closeR_least h0 hl closeR_sub (fun x hx => closeR_ext h0 hc x (hlc x hx)) (closeR_closed h0 hc)
theorem closed_inter {rs : List RuleN} {a b : NmL} (ha : closedN rs a = true) (hb : closedN rs b = true) : closedN rs (a.filter fun x => decide (x ∈ b)) = true := by
  unfold closedN at *
  rw [List.all_eq_true] at *
  intro r hr
  have h1 := ha r hr
  have h2 := hb r hr
  simp only [Bool.or_eq_true, Bool.not_eq_true', decide_eq_false_iff_not, decide_eq_true_eq, List.mem_filter] at *
  by_cases h : ∀ x ∈ r.1, x ∈ a ∧ x ∈ b
  · refine .inr ⟨?_, ?_⟩
    · exact h1.resolve_left fun hn => hn fun x hx => (h x hx).1
    · exact h2.resolve_left fun hn => hn fun x hx => (h x hx).2
  · exact .inl h
end Go.Proofs.Ythgplaledmccgaa
