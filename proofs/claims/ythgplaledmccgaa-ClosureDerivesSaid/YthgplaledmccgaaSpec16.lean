/-
  Plain laws: a derivation derives its name, nothing of it can be left out, and its last rule concludes the name.
-/
import Derived.Test.YthgplaledmccgaaSpec15
namespace Go.Proofs.Ythgplaledmccgaa
abbrev cnc (rs : List RuleN) (i : Nat) : List UInt8 := (rs.getD i ([], [])).2
abbrev prm (rs : List RuleN) (i : Nat) : NmL := (rs.getD i ([], [])).1
/-- the rules l, one after the other, but the one at skip, from the place k on -/
def derS (rs : List RuleN) (name : List UInt8) (skip : Int) : Nat → List Nat → NmL → Bool
  | _, [], have_ => decide (name ∈ have_)
  | k, i :: t, have_ => if (k : Int) = skip then derS rs name skip (k + 1) t have_ else if ∀ x ∈ prm rs i, x ∈ have_ then derS rs name skip (k + 1) t (have_ ++ [cnc rs i]) else false
def OkRun (rs : List RuleN) : NmL → List Nat → Prop
  | _, [] => True
  | h, i :: t => (∀ x ∈ prm rs i, x ∈ h) ∧ OkRun rs (h ++ [cnc rs i]) t
theorem derS_past {rs : List RuleN} {name : List UInt8} {skip : Int} {k : Nat} {l : List Nat} {h : NmL} (hk : skip < (k : Int)) : derS rs name skip k l h = true ↔ OkRun rs h l ∧ name ∈ h ++ l.map (cnc rs) := by
  induction l generalizing k h with
  | nil => simp [derS, OkRun]
  | cons i t ih =>
    rw [derS, if_neg (by omega)]
    by_cases hp : ∀ x ∈ prm rs i, x ∈ h
    · rw [if_pos hp, ih (by omega), OkRun, List.map_cons, List.append_assoc]
      simp only [List.singleton_append]
      constructor
      · rintro ⟨a, b⟩; exact ⟨⟨hp, a⟩, b⟩
      · rintro ⟨⟨_, a⟩, b⟩; exact ⟨a, b⟩
    · rw [if_neg hp]
      constructor
      · intro h; cases h
      · rintro ⟨⟨a, _⟩, _⟩; exact absurd a hp
theorem derS_skip {rs : List RuleN} {name : List UInt8} {k j : Nat} {l : List Nat} {h : NmL} (hj : j < l.length) : derS rs name ((k + j : Nat) : Int) k l h = true ↔ OkRun rs h (l.eraseIdx j) ∧ name ∈ h ++ (l.eraseIdx j).map (cnc rs) := by
  induction l generalizing k j h with
  | nil => simp at hj
  | cons i t ih =>
    cases j with
    | zero =>
      rw [derS, if_pos (by simp), List.eraseIdx_zero, List.tail_cons]
      exact derS_past (by omega)
    | succ j =>
      rw [derS, if_neg (by omega), List.eraseIdx_cons_succ]
      have e : k + (j + 1) = (k + 1) + j := by omega
      by_cases hp : ∀ x ∈ prm rs i, x ∈ h
      · rw [if_pos hp, e, ih (by simpa using hj), OkRun, List.map_cons, List.append_assoc]
        simp only [List.singleton_append]
        constructor
        · rintro ⟨a, b⟩; exact ⟨⟨hp, a⟩, b⟩
        · rintro ⟨⟨_, a⟩, b⟩; exact ⟨a, b⟩
      · rw [if_neg hp]
        constructor
        · intro h; cases h
        · rintro ⟨⟨a, _⟩, _⟩; exact absurd a hp
/-- what is needed, and the rules that are taken -/
def bk (rs : List RuleN) : List Nat → NmL → NmL × List Nat
  | [], nd => (nd, [])
  | i :: t, nd => if cnc rs i ∈ (bk rs t nd).1 then ((bk rs t nd).1 ++ prm rs i, i :: (bk rs t nd).2) else bk rs t nd
theorem backR_append (rs : List RuleN) (a b : List Nat) (nd : NmL) (out : List Nat) : ∃ nd', backR rs (a ++ b) nd out = backR rs b nd' (backR rs a nd out) ∧ ∀ c, backR rs (a ++ c) nd out = backR rs c nd' (backR rs a nd out) := by
  induction a generalizing nd out with
  | nil => exact ⟨nd, rfl, fun _ => rfl⟩
  | cons i t ih =>
    simp only [List.cons_append, backR]
    split
    · exact ih _ _
    · exact ih _ _
theorem backR_bk (rs : List RuleN) (l : List Nat) (nd : NmL) : ∀ c out, backR rs (l.reverse ++ c) nd out = backR rs c (bk rs l nd).1 ((bk rs l nd).2 ++ out) := by
  induction l with
  | nil => intro c out; rfl
  | cons i t ih =>
    intro c out
    rw [List.reverse_cons, List.append_assoc, ih, List.singleton_append, backR, bk]
    split <;> rfl
theorem backR_eq (rs : List RuleN) (l : List Nat) (nd : NmL) : backR rs l.reverse nd [] = (bk rs l nd).2 := by
  have := backR_bk rs l nd [] []
  simpa [backR] using this
def ValidC (rs : List RuleN) : NmL → List Nat → Prop
  | _, [] => True
  | h, i :: t => (∀ x ∈ prm rs i, x ∈ h) ∧ cnc rs i ∉ h ∧ ValidC rs (h ++ [cnc rs i]) t
theorem ValidC.notin {rs : List RuleN} {h : NmL} {l : List Nat} (hv : ValidC rs h l) : ∀ x ∈ h, x ∉ l.map (cnc rs) := by
  induction l generalizing h with
  | nil => simp
  | cons i t ih =>
    intro x hx hm
    rw [List.map_cons, List.mem_cons] at hm
    rcases hm with rfl | hm
    · exact hv.2.1 hx
    · exact ih hv.2.2 x (List.mem_append_left _ hx) hm
theorem bk_sound {rs : List RuleN} {l : List Nat} {h nd h' : NmL} (hv : ValidC rs h l) (hn : ∀ x ∈ nd, x ∈ h ++ l.map (cnc rs)) (hh : ∀ x ∈ (bk rs l nd).1, x ∈ h → x ∈ h') :
    OkRun rs h' (bk rs l nd).2 ∧ ∀ x ∈ nd, x ∈ h' ++ (bk rs l nd).2.map (cnc rs) := by
  induction l generalizing h h' with
  | nil =>
    refine ⟨trivial, fun x hx => ?_⟩
    have := hn x hx
    simp at this
    exact List.mem_append_left _ (hh x hx this)
  | cons i t ih =>
    have hn' : ∀ x ∈ nd, x ∈ (h ++ [cnc rs i]) ++ t.map (cnc rs) := by
      intro x hx
      have := hn x hx
      simpa using this
    rw [bk] at hh ⊢
    by_cases hc : cnc rs i ∈ (bk rs t nd).1
    · rw [if_pos hc] at hh ⊢
      simp only at hh ⊢
      obtain ⟨a, b⟩ := ih (h' := h' ++ [cnc rs i]) hv.2.2 hn' fun x hx hxh => by
        rw [List.mem_append] at hxh ⊢
        rcases hxh with hxh | hxh
        · exact .inl (hh x (List.mem_append_left _ hx) hxh)
        · exact .inr hxh
      refine ⟨⟨fun x hx => hh x (List.mem_append_right _ hx) (hv.1 x hx), a⟩, fun x hx => ?_⟩
      have := b x hx
      rw [List.append_assoc] at this
      exact this
    · rw [if_neg hc] at hh ⊢
      refine ih hv.2.2 hn' fun x hx hxh => ?_
      rw [List.mem_append, List.mem_singleton] at hxh
      rcases hxh with hxh | rfl
      · exact hh x hx hxh
      · exact absurd hx hc
theorem bk_needs {rs : List RuleN} {l : List Nat} {nd h' : NmL} {c : List UInt8} (hc : c ∈ (bk rs l nd).1) (h1 : c ∉ h') (h2 : c ∉ l.map (cnc rs)) :
    ¬ (OkRun rs h' (bk rs l nd).2 ∧ ∀ x ∈ nd, x ∈ h' ++ (bk rs l nd).2.map (cnc rs)) := by
  induction l generalizing h' with
  | nil =>
    rintro ⟨_, h⟩
    have := h c hc
    simp [bk] at this
    exact h1 this
  | cons i t ih =>
    rw [List.map_cons, List.mem_cons, not_or] at h2
    rw [bk] at hc ⊢
    by_cases hi : cnc rs i ∈ (bk rs t nd).1
    · rw [if_pos hi] at hc ⊢
      simp only at hc ⊢
      rintro ⟨⟨a, b⟩, d⟩
      rcases List.mem_append.1 hc with hc | hc
      · refine ih (h' := h' ++ [cnc rs i]) hc ?_ h2.2 ⟨b, fun x hx => ?_⟩
        · rw [List.mem_append, List.mem_singleton]
          rintro (h | h)
          · exact h1 h
          · exact h2.1 h
        · have := d x hx
          rw [List.append_assoc]
          exact this
      · exact h1 (a c hc)
    · rw [if_neg hi] at hc ⊢
      exact ih hc h1 h2.2
theorem bk_tight {rs : List RuleN} {l : List Nat} {h nd h' : NmL} (hv : ValidC rs h l) (hh : ∀ x ∈ h', x ∈ h) {j : Nat} (hj : j < (bk rs l nd).2.length) :
    ¬ (OkRun rs h' ((bk rs l nd).2.eraseIdx j) ∧ ∀ x ∈ nd, x ∈ h' ++ ((bk rs l nd).2.eraseIdx j).map (cnc rs)) := by
  induction l generalizing h h' j with
  | nil => simp [bk] at hj
  | cons i t ih =>
    rw [bk] at hj ⊢
    by_cases hc : cnc rs i ∈ (bk rs t nd).1
    · rw [if_pos hc] at hj ⊢
      simp only at hj ⊢
      cases j with
      | zero =>
        rw [List.eraseIdx_zero, List.tail_cons]
        exact bk_needs hc (fun hx => hv.2.1 (hh _ hx)) (hv.2.2.notin _ (by simp))
      | succ j =>
        rw [List.eraseIdx_cons_succ]
        rintro ⟨⟨_, b⟩, d⟩
        refine ih (h := h ++ [cnc rs i]) (h' := h' ++ [cnc rs i]) (j := j) hv.2.2 ?_ (by simpa using hj) ⟨b, fun x hx => ?_⟩
        · intro x hx
          rw [List.mem_append] at hx ⊢
          rcases hx with hx | hx
          · exact .inl (hh x hx)
          · exact .inr hx
        · have := d x hx
          rw [List.append_assoc]
          exact this
    · rw [if_neg hc] at hj ⊢
      exact ih hv.2.2 (fun x hx => List.mem_append_left _ (hh x hx)) hj
theorem bk_sub (rs : List RuleN) (l : List Nat) (nd : NmL) : (bk rs l nd).2.Sublist l := by
  induction l with
  | nil => exact List.Sublist.refl _
  | cons i t ih =>
    rw [bk]
    split
    · exact ih.cons_cons _
    · exact ih.cons _
theorem bk_nil {rs : List RuleN} {l : List Nat} {nd : NmL} (h : (bk rs l nd).2 = []) : (bk rs l nd).1 = nd := by
  induction l with
  | nil => rfl
  | cons i t ih =>
    rw [bk] at h ⊢
    split at h
    · simp at h
    · rw [if_neg (by assumption)]; exact ih h
theorem bk_last {rs : List RuleN} {l : List Nat} {name : List UInt8} : ∀ i, (bk rs l [name]).2.getLast? = some i → cnc rs i = name := by
  induction l with
  | nil => simp [bk]
  | cons k t ih =>
    intro i hi
    rw [bk] at hi
    by_cases hc : cnc rs k ∈ (bk rs t [name]).1
    · rw [if_pos hc] at hi
      simp only at hi
      cases hs : (bk rs t [name]).2 with
      | nil =>
        rw [hs] at hi
        simp at hi
        subst hi
        rw [bk_nil hs] at hc
        simpa using hc
      | cons a b =>
        rw [hs, List.getLast?_cons_cons] at hi
        exact ih i (by rw [hs]; exact hi)
    · rw [if_neg hc] at hi
      exact ih i hi
theorem chainRF_valid (rs : List RuleN) (f : Nat) (h : NmL) : ValidC rs h (chainRF rs f h).2 ∧ (chainRF rs f h).1 = h ++ (chainRF rs f h).2.map (cnc rs) ∧ ∀ i ∈ (chainRF rs f h).2, i < rs.length := by
  induction f generalizing h with
  | zero => simp [chainRF, ValidC]
  | succ f ih =>
    rw [chainRF]
    cases hf : fireR rs h with
    | none => simp [ValidC]
    | some i =>
      obtain ⟨h1, h2⟩ := fireR_some hf
      unfold firesR at h2
      simp only [Bool.and_eq_true, decide_eq_true_eq, Bool.not_eq_true', decide_eq_false_iff_not] at h2
      obtain ⟨a, b, c⟩ := ih (h ++ [cnc rs i])
      refine ⟨⟨h2.1, h2.2, a⟩, ?_, ?_⟩
      · simp only [List.map_cons]
        rw [b, List.append_assoc]
        rfl
      · intro j hj
        rcases List.mem_cons.1 hj with rfl | hj
        · exact h1
        · exact c j hj
section
variable {u : NmL} {rs : List RuleN} {l : NmL} {name : List UInt8}
theorem whyR_bk : whyR rs l name = (bk rs (chainR rs l).2 [name]).2 := backR_eq _ _ _
theorem why_lt : ∀ i ∈ whyR rs l name, i < rs.length := by
  intro i hi
  rw [whyR_bk] at hi
  exact (chainRF_valid rs _ l).2.2 i ((bk_sub _ _ _).subset hi)
theorem why_derives (hn : name ∈ (chainR rs l).1) : derS rs name (-1) 0 (whyR rs l name) l = true := by
  rw [derS_past (by omega), whyR_bk]
  obtain ⟨a, b, _⟩ := chainRF_valid rs rs.length l
  have := bk_sound (nd := [name]) (h' := l) a (by
    intro x hx
    rw [List.mem_singleton] at hx
    subst hx
    rw [← b]; exact hn) fun x _ h => h
  exact ⟨this.1, this.2 name (by simp)⟩
theorem why_tight {j : Nat} (hj : j < (whyR rs l name).length) : derS rs name (j : Int) 0 (whyR rs l name) l = false := by
  rw [Bool.eq_false_iff]
  intro h
  have e : (j : Int) = ((0 + j : Nat) : Int) := by simp
  rw [e, derS_skip hj] at h
  rw [whyR_bk] at h hj
  obtain ⟨a, _, _⟩ := chainRF_valid rs rs.length l
  refine bk_tight (nd := [name]) (h' := l) a (fun _ h => h) hj ⟨h.1, fun x hx => ?_⟩
  rw [List.mem_singleton] at hx
  subst hx
  exact h.2
theorem why_last {i : Nat} (h : (whyR rs l name).getLast? = some i) : (rs.getD i ([], [])).2 = name := by
  rw [whyR_bk] at h
  exact bk_last i h
theorem why_len (h0 : checkE u rs = 0) (hl : ∀ x ∈ l, x ∈ u) : (whyR rs l name).length ≤ u.length := by
  rw [whyR_bk]
  exact Nat.le_trans (bk_sub _ _ _).length_le (chainR_len h0 hl)
end
end Go.Proofs.Ythgplaledmccgaa
