/-
  Plain functions: all sets that an operator leaves unchanged, one after the other; the numbers of sets.
-/
import Derived.Test.YthgplaledmccgaaSpec5
namespace Go.Proofs.Ythgplaledmccgaa
/-- a set as a number, the least place counting most -/
def val : List Bool → Nat
  | [] => 0
  | b :: t => (if b = true then 2 ^ t.length else 0) + val t
theorem val_lt (s : List Bool) : val s < 2 ^ s.length := by
  induction s with
  | nil => simp [val]
  | cons b t ih =>
    simp only [val, List.length_cons, Nat.pow_succ]
    split <;> omega
theorem val_less {s t : List Bool} (hl : s.length = t.length) {i : Nat} (hi : i < s.length) (hp : t.take i = s.take i) (hs : s.getD i false = false) (ht : t.getD i false = true) : val s < val t := by
  induction i generalizing s t with
  | zero =>
    cases s with
    | nil => simp at hi
    | cons a s =>
      cases t with
      | nil => simp at hl
      | cons b t =>
        simp at hs ht
        subst hs ht
        simp only [val]
        have := val_lt s
        simp at hl
        rw [hl] at this
        simp
        omega
  | succ i ih =>
    cases s with
    | nil => simp at hi
    | cons a s =>
      cases t with
      | nil => simp at hl
      | cons b t =>
        simp only [List.take_succ_cons, List.cons.injEq] at hp
        obtain ⟨rfl, hp⟩ := hp
        simp at hl
        have := ih hl (by simpa using hi) hp (by simpa using hs) (by simpa using ht)
        simp only [val, hl]
        omega

theorem afterFrom_some {O : List Bool → List Bool} {s nx : List Bool} {k : Nat} (h : afterFrom O s k = some nx) : ∃ i, i < k ∧ s.getD i false = false ∧ nx = O (cand s i) ∧ nx.take i = s.take i := by
  induction k with
  | zero => cases h
  | succ k ih =>
    unfold afterFrom at h
    by_cases h1 : s.getD k false = true
    · rw [if_pos h1] at h
      obtain ⟨i, hi, r⟩ := ih h
      exact ⟨i, by omega, r⟩
    · rw [if_neg h1] at h
      by_cases h2 : (O (cand s k)).take k = s.take k
      · rw [if_pos h2] at h
        cases h
        exact ⟨k, by omega, by simpa using h1, rfl, h2⟩
      · rw [if_neg h2] at h
        obtain ⟨i, hi, r⟩ := ih h
        exact ⟨i, by omega, r⟩
/-- O adds, takes nothing away, keeps the length -/
def Extensive (O : List Bool → List Bool) : Prop := ∀ s i, s.getD i false = true → (O s).getD i false = true
theorem cand_at (s : List Bool) (i : Nat) (h : i < s.length) : (cand s i).getD i false = true := by
  unfold cand
  rw [List.getD_eq_getElem?_getD, List.getElem?_set_self (by simp; omega)]
  rfl
theorem afterL_val {O : List Bool → List Bool} {s nx : List Bool} (hO : Extensive O) (hl : ∀ t, (O t).length = t.length) (h : afterL O s = some nx) : val s < val nx ∧ nx.length = s.length := by
  obtain ⟨i, hi, hs, rfl, hp⟩ := afterFrom_some h
  have hlen : (O (cand s i)).length = s.length := by rw [hl, cand_len _ _ (by omega)]
  exact ⟨val_less hlen.symm hi hp hs (hO _ _ (cand_at s i hi)), hlen⟩

theorem getD_set (s : List Bool) (i j : Nat) (h : s.getD i false = true) : (s.set j true).getD i false = true := by
  rw [List.getD_eq_getElem?_getD] at h ⊢
  rw [List.getElem?_set]
  split
  · split
    · rfl
    · next h1 h2 =>
      subst h1
      rw [List.getElem?_eq_none (by omega)] at h
      simp at h
  · exact h
theorem chainF_ext {hs : List Horn} {U : Nat → Bool} (f : Nat) : Extensive fun s => (chainF hs U f s).1 := by
  induction f with
  | zero => intro s i h; exact h
  | succ f ih =>
    intro s i h
    show (chainF hs U (f + 1) s).1.getD i false = true
    rw [chainF]
    split
    · exact h
    · exact ih _ i (getD_set _ _ _ h)
theorem chainB_ext {hs : List Horn} {U : Nat → Bool} : Extensive fun s => (chainB hs U s).1 := fun s i h => chainF_ext s.length s i h

/-- the sets from s on -/
def allFrom (O : List Bool → List Bool) : Nat → List Bool → List (List Bool)
  | 0, _ => []
  | f + 1, s => s :: match afterL O s with
    | none => []
    | some nx => allFrom O f nx
def allB (O : List Bool → List Bool) (n : Nat) : List (List Bool) := allFrom O (2 ^ n) (O (List.replicate n false))
theorem allFrom_len (O : List Bool → List Bool) (f : Nat) (s : List Bool) : (allFrom O f s).length ≤ f := by
  induction f generalizing s with
  | zero => simp [allFrom]
  | succ f ih =>
    rw [allFrom]
    split
    · simp
    · next nx _ => simp only [List.length_cons]; exact Nat.succ_le_succ (ih nx)
end Go.Proofs.Ythgplaledmccgaa
