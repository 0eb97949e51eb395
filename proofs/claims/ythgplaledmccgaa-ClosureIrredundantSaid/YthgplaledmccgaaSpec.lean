/-
  Plain functions: what the functions of the program and of the references compute over names and lists of names.
-/
import GoSem.Op.String
namespace Go.Proofs.Ythgplaledmccgaa

def okByte (c : UInt8) : Bool := (97 ≤ c && c ≤ 122) || (48 ≤ c && c ≤ 57) || c == 45
def okFirst (c : UInt8) : Bool := 97 ≤ c && c ≤ 122
def okName (x : List UInt8) : Bool := decide (1 ≤ x.length) && decide (x.length ≤ 16) && okFirst (x.getD 0 0) && x.all okByte

/-- strictly ascending, neighbour by neighbour -/
def ascB : List (List UInt8) → Bool
  | a :: b :: t => Op.bytesLess a b && ascB (b :: t)
  | _ => true

theorem ascB_get {l : List (List UInt8)} (h : ∀ i (h0 : i + 1 < l.length), Op.bytesLess (l[i]'(by omega)) (l[i + 1]'h0) = true) : ascB l = true := by
  induction l with
  | nil => rfl
  | cons a t ih =>
    cases t with
    | nil => rfl
    | cons b t =>
      simp only [ascB, Bool.and_eq_true]
      exact ⟨h 0 (by simp), ih fun i h0 => h (i + 1) (by simp at h0 ⊢; omega)⟩

theorem get_ascB {l : List (List UInt8)} (h : ascB l = true) : ∀ i (h0 : i + 1 < l.length), Op.bytesLess (l[i]'(by omega)) (l[i + 1]'h0) = true := by
  induction l with
  | nil => intro i h0; simp at h0
  | cons a t ih =>
    cases t with
    | nil => intro i h0; simp at h0
    | cons b t =>
      simp only [ascB, Bool.and_eq_true] at h
      intro i h0
      cases i with
      | zero => exact h.1
      | succ i => exact ih h.2 i (by simp at h0 ⊢; omega)

theorem bl_irrefl (x : List UInt8) : Op.bytesLess x x = false := by
  induction x with
  | nil => rfl
  | cons a t ih => simp [Op.bytesLess, ih]
theorem bl_trans {x y z : List UInt8} (h : Op.bytesLess x y = true) (k : Op.bytesLess y z = true) : Op.bytesLess x z = true := by
  induction x generalizing y z with
  | nil =>
    cases z with
    | nil => cases y <;> simp [Op.bytesLess] at k
    | cons c z => rfl
  | cons a x ih =>
    cases y with
    | nil => simp [Op.bytesLess] at h
    | cons b y =>
      cases z with
      | nil => simp [Op.bytesLess] at k
      | cons c z =>
        simp only [Op.bytesLess, Bool.or_eq_true, decide_eq_true_eq, Bool.and_eq_true, beq_iff_eq] at h k ⊢
        rcases h with h | ⟨rfl, h⟩
        · rcases k with k | ⟨rfl, k⟩
          · exact .inl (UInt8.lt_trans h k)
          · exact .inl h
        · rcases k with k | ⟨rfl, k⟩
          · exact .inl k
          · exact .inr ⟨rfl, ih h k⟩
theorem bl_ne {x y : List UInt8} (h : Op.bytesLess x y = true) : x ≠ y := by
  rintro rfl; rw [bl_irrefl] at h; cases h
theorem bl_asymm {x y : List UInt8} (h : Op.bytesLess x y = true) : Op.bytesLess y x = false := by
  cases k : Op.bytesLess y x with
  | false => rfl
  | true => have := bl_trans h k; rw [bl_irrefl] at this; cases this
theorem bl_total {x y : List UInt8} (h : Op.bytesLess x y = false) (k : Op.bytesLess y x = false) : x = y := by
  induction x generalizing y with
  | nil => cases y with
    | nil => rfl
    | cons => simp [Op.bytesLess] at h
  | cons a x ih => cases y with
    | nil => simp [Op.bytesLess] at k
    | cons b y =>
      simp only [Op.bytesLess, Bool.or_eq_false_iff, decide_eq_false_iff_not, Bool.and_eq_false_iff, beq_eq_false_iff_ne] at h k
      have hab : a = b := by
        have h1 := UInt8.not_lt.1 h.1
        have h2 := UInt8.not_lt.1 k.1
        exact UInt8.le_antisymm h2 h1
      subst hab
      rw [ih (h.2.resolve_left (by simp)) (k.2.resolve_left (by simp))]

theorem ascB_tail {a : List UInt8} {l : List (List UInt8)} (h : ascB (a :: l) = true) : ascB l = true := by
  cases l with
  | nil => rfl
  | cons b t => simp only [ascB, Bool.and_eq_true] at h; exact h.2
theorem ascB_head {a : List UInt8} {l : List (List UInt8)} (h : ascB (a :: l) = true) : ∀ y ∈ l, Op.bytesLess a y = true := by
  induction l generalizing a with
  | nil => simp
  | cons b t ih =>
    have hab : Op.bytesLess a b = true := by simp only [ascB, Bool.and_eq_true] at h; exact h.1
    intro y hy
    rcases List.mem_cons.1 hy with rfl | hy
    · exact hab
    · exact bl_trans hab (ih (ascB_tail h) y hy)
theorem ascB_lt {l : List (List UInt8)} (h : ascB l = true) {i j : Nat} {x y : List UInt8} (hij : i < j) (hx : l[i]? = some x) (hy : l[j]? = some y) : Op.bytesLess x y = true := by
  induction l generalizing i j with
  | nil => simp at hx
  | cons a t ih =>
    cases j with
    | zero => omega
    | succ j =>
      rw [List.getElem?_cons_succ] at hy
      cases i with
      | zero =>
        rw [List.getElem?_cons_zero] at hx
        cases hx
        exact ascB_head h _ (List.mem_of_getElem? hy)
      | succ i =>
        rw [List.getElem?_cons_succ] at hx
        exact ih (ascB_tail h) (by omega) hx hy
theorem ascB_inj {l : List (List UInt8)} (h : ascB l = true) {i j : Nat} {x : List UInt8} (hx : l[i]? = some x) (hy : l[j]? = some x) : i = j := by
  rcases Nat.lt_trichotomy i j with hij | hij | hij
  · exact absurd rfl (bl_ne (ascB_lt h hij hx hy))
  · exact hij
  · exact absurd rfl (bl_ne (ascB_lt h hij hy hx))

end Go.Proofs.Ythgplaledmccgaa
