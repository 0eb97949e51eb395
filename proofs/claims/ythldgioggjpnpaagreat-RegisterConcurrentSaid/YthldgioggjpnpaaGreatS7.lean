/-
  Plain laws: the walk over two clocks is the table of all places; the reference's words are the program's.
-/
import Derived.Test.YthldgioggjpnpaaGreatS6
namespace Go.Proofs.YthldgioggjpnpaaGreat
open Go.RowKit

theorem getT_le {last : Int} {ts : List Tk} (h : goodF last ts = true) {p : Int} (hp : p ≤ last) : getT ts p = 0 := by
  induction ts generalizing last with
  | nil => rfl
  | cons t r ih =>
    rw [goodF_cons, Bool.and_eq_true] at h
    have h1 := h.1
    simp only [okTk, Bool.and_eq_true, decide_eq_true_eq] at h1
    rw [getT, if_neg (by omega)]
    exact ih h.2 (by omega)
theorem good_split {lo : Int} {ts : List Tk} (h : goodF (lo - 1) ts = true) : (∃ m r, ts = (lo, m) :: r ∧ goodF lo r = true) ∨ goodF lo ts = true := by
  cases ts with
  | nil => exact .inr rfl
  | cons t r =>
    obtain ⟨p, m⟩ := t
    rw [goodF_cons, Bool.and_eq_true] at h
    have h1 := h.1
    simp only [okTk, Bool.and_eq_true, decide_eq_true_eq] at h1
    by_cases hp : p = lo
    · subst hp; exact .inl ⟨m, r, rfl, h.2⟩
    · refine .inr ?_
      rw [goodF_cons, Bool.and_eq_true]
      refine ⟨?_, h.2⟩
      simp only [okTk, Bool.and_eq_true, decide_eq_true_eq]
      omega
theorem good_end {ts : List Tk} (h : goodF 63 ts = true) : ts = [] := by
  cases ts with
  | nil => rfl
  | cons t r =>
    rw [goodF_cons, Bool.and_eq_true] at h
    have h1 := h.1
    simp only [okTk, Bool.and_eq_true, decide_eq_true_eq] at h1
    omega

/-- f at all places from lo on -/
def tabT (f : Int → Int → Int) (a b : List Tk) (lo n : Nat) : List Int := (List.range' lo n).map fun (j : Nat) => f (getT a (j : Int)) (getT b (j : Int))
theorem tabT_succ (f : Int → Int → Int) (a b : List Tk) (lo n : Nat) : tabT f a b lo (n + 1) = f (getT a (lo : Int)) (getT b (lo : Int)) :: tabT f a b (lo + 1) n := by
  unfold tabT; rw [List.range'_succ]; rfl
theorem tabT_congr (f : Int → Int → Int) (a b a' b' : List Tk) (lo n : Nat) (ha : ∀ j : Nat, lo ≤ j → getT a (j : Int) = getT a' (j : Int)) (hb : ∀ j : Nat, lo ≤ j → getT b (j : Int) = getT b' (j : Int)) : tabT f a b lo n = tabT f a' b' lo n := by
  unfold tabT
  apply List.map_congr_left
  intro j hj
  rw [List.mem_range'_1] at hj
  rw [ha j hj.1, hb j hj.1]
theorem getT_tail (lo : Nat) (m : Int) (r : List Tk) (j : Nat) (hj : lo + 1 ≤ j) : getT (((lo : Int), m) :: r) (j : Int) = getT r (j : Int) := by
  rw [getT, if_neg (by show (lo : Int) ≠ _; omega)]
theorem getT_head (lo : Nat) (m : Int) (r : List Tk) : getT (((lo : Int), m) :: r) (lo : Int) = m := by
  rw [getT, if_pos rfl]
theorem ckT_ofT (lo : Nat) (x : Int) (xs : List Int) : ofT lo (x :: xs) = ckT (lo : Int) x ++ ofT (lo + 1) xs := by
  rw [ofT, ckT]
  split <;> rfl

theorem walkT_tab (f : Int → Int → Int) (h0 : f 0 0 = 0) (n : Nat) : ∀ (lo : Nat) (a b : List Tk), lo + n = 64 → goodF ((lo : Int) - 1) a = true → goodF ((lo : Int) - 1) b = true → walkT f a b = ofT lo (tabT f a b lo n) := by
  induction n with
  | zero =>
    intro lo a b hn ha hb
    obtain rfl : lo = 64 := by omega
    have e1 : a = [] := good_end ha
    have e2 : b = [] := good_end hb
    subst e1 e2
    rw [walkT]; rfl
  | succ n ih =>
    intro lo a b hn ha hb
    have hl : ((lo + 1 : Nat) : Int) - 1 = (lo : Int) := by omega
    rw [tabT_succ, ckT_ofT]
    rcases good_split ha with ⟨m, a', rfl, ga⟩ | ga
    · rcases good_split hb with ⟨k, b', rfl, gb⟩ | gb
      · rw [walkT, if_neg (Int.lt_irrefl _), if_neg (Int.lt_irrefl _), getT_head, getT_head]
        congr 1
        rw [ih (lo + 1) a' b' (by omega) (by rw [hl]; exact ga) (by rw [hl]; exact gb)]
        exact congrArg _ (tabT_congr f _ _ _ _ _ _ (fun j hj => (getT_tail lo m a' j hj).symm) (fun j hj => (getT_tail lo k b' j hj).symm))
      · have hz : getT b (lo : Int) = 0 := getT_le gb (Int.le_refl _)
        have hw : walkT f (((lo : Int), m) :: a') b = ckT (lo : Int) (f m 0) ++ walkT f a' b := by
          cases b with
          | nil => rw [walkT]
          | cons u b' =>
            rw [goodF_cons, Bool.and_eq_true] at gb
            have h1 := gb.1
            simp only [okTk, Bool.and_eq_true, decide_eq_true_eq] at h1
            rw [walkT, if_pos (by show (lo : Int) < _; omega)]
        rw [hw, getT_head, hz]
        congr 1
        rw [ih (lo + 1) a' b (by omega) (by rw [hl]; exact ga) (by rw [hl]; exact gb)]
        exact congrArg _ (tabT_congr f _ _ _ _ _ _ (fun j hj => (getT_tail lo m a' j hj).symm) (fun j hj => rfl))
    · have hz : getT a (lo : Int) = 0 := getT_le ga (Int.le_refl _)
      rcases good_split hb with ⟨k, b', rfl, gb⟩ | gb
      · have hw : walkT f a (((lo : Int), k) :: b') = ckT (lo : Int) (f 0 k) ++ walkT f a b' := by
          cases a with
          | nil => rw [walkT]
          | cons u a' =>
            rw [goodF_cons, Bool.and_eq_true] at ga
            have h1 := ga.1
            simp only [okTk, Bool.and_eq_true, decide_eq_true_eq] at h1
            rw [walkT, if_neg (by show ¬ _ < (lo : Int); omega), if_pos (by show (lo : Int) < _; omega)]
        rw [hw, getT_head, hz]
        congr 1
        rw [ih (lo + 1) a b' (by omega) (by rw [hl]; exact ga) (by rw [hl]; exact gb)]
        exact congrArg _ (tabT_congr f _ _ _ _ _ _ (fun j hj => rfl) (fun j hj => (getT_tail lo k b' j hj).symm))
      · have hz2 : getT b (lo : Int) = 0 := getT_le gb (Int.le_refl _)
        rw [hz, hz2, h0, ckT, if_neg (Int.lt_irrefl _), List.nil_append]
        exact ih (lo + 1) a b (by omega) (by rw [hl]; exact ga) (by rw [hl]; exact gb)

theorem mergeW_eq {a b : List Tk} (ha : validT a = true) (hb : validT b = true) : mergeW a b = walkT maxF a b := by
  rw [walkT_tab maxF (by decide) 64 0 a b rfl ha hb]
  unfold mergeW mixM tabT
  rw [List.range_eq_range']
  congr 1

theorem ofT_nil (lo : Nat) (xs : List Int) : ofT lo xs = [] ↔ ∀ x ∈ xs, ¬ 0 < x := by
  induction xs generalizing lo with
  | nil => simp [ofT]
  | cons x r ih =>
    rw [ofT]
    by_cases h : 0 < x
    · rw [if_pos h]; exact ⟨fun e => (List.cons_ne_nil _ _ e).elim, fun e => absurd h (e x List.mem_cons_self)⟩
    · rw [if_neg h, ih]; exact ⟨fun e y hy => by rcases List.mem_cons.1 hy with rfl | hy; exact h; exact e y hy, fun e y hy => e y (List.mem_cons_of_mem _ hy)⟩
theorem leqT_minus {a b : List Tk} (ha : validT a = true) (hb : validT b = true) : leqT a b = true ↔ (walkT minusF a b).length = 0 := by
  rw [List.length_eq_zero_iff, walkT_tab minusF (by decide) 64 0 a b rfl ha hb, ofT_nil, leqT_iff]
  unfold tabT
  constructor
  · intro h x hx
    rw [List.mem_map] at hx
    obtain ⟨j, hj, rfl⟩ := hx
    rw [List.mem_range'_1] at hj
    have := h j (by omega)
    unfold minusF
    rw [if_neg (by omega)]
    omega
  · intro h j hj
    have := h _ (List.mem_map.2 ⟨j, List.mem_range'_1.2 ⟨by omega, by omega⟩, rfl⟩)
    have g1 := goodF_get hb (j : Int)
    unfold minusF at this
    by_cases hc : getT b (j : Int) < getT a (j : Int)
    · rw [if_pos hc] at this; omega
    · omega
theorem cmpT_leq {a b : List Tk} (ha : validT a = true) (hb : validT b = true) : cmpT a b = if leqT a b = true then (if leqT b a = true then 0 else 1) else (if leqT b a = true then 2 else 3) := by
  unfold cmpT
  simp only [leqT_minus ha hb, leqT_minus hb ha]
theorem belowT_cmp {a b : List Tk} (ha : validT a = true) (hb : validT b = true) : belowT a b = (cmpT a b == 1) := by
  rw [cmpT_leq ha hb]
  unfold belowT
  rw [ha, hb]
  cases leqT a b <;> cases leqT b a <;> rfl
theorem clashT_below {a b : List Tk} (ha : validT a = true) (hb : validT b = true) : clashT a b = (belowT a b || belowT b a) := by
  unfold clashT
  rw [cmpT_leq ha hb]
  unfold belowT
  rw [ha, hb]
  cases leqT a b <;> cases leqT b a <;> rfl

theorem walkT_fst (a : List Tk) (last : Int) (ha : goodF last a = true) : walkT (fun m _ => m) a [] = a := by
  induction a generalizing last with
  | nil => rw [walkT]
  | cons t r ih =>
    rw [goodF_cons, Bool.and_eq_true] at ha
    have h1 := ha.1
    simp only [okTk, Bool.and_eq_true, decide_eq_true_eq] at h1
    rw [walkT, ih _ ha.2, ckT, if_pos (by omega)]
    rfl
theorem valid_ext {a b : List Tk} (ha : validT a = true) (hb : validT b = true) (h : ∀ j : Nat, j < 64 → getT a (j : Int) = getT b (j : Int)) : a = b := by
  rw [← walkT_fst a (-1) ha, ← walkT_fst b (-1) hb, walkT_tab (fun m _ => m) rfl 64 0 a [] rfl ha rfl, walkT_tab (fun m _ => m) rfl 64 0 b [] rfl hb rfl]
  congr 1
  unfold tabT
  apply List.map_congr_left
  intro j hj
  rw [List.mem_range'_1] at hj
  exact h j (by omega)
theorem leqT_anti {a b : List Tk} (ha : validT a = true) (hb : validT b = true) (h1 : leqT a b = true) (h2 : leqT b a = true) : a = b :=
  valid_ext ha hb fun j hj => by
    have e1 := (leqT_iff a b).1 h1 j hj
    have e2 := (leqT_iff b a).1 h2 j hj
    omega
theorem leqT_refl (a : List Tk) : leqT a a = true := (leqT_iff a a).2 fun _ _ => Int.le_refl _
theorem leqT_trans {a b c : List Tk} (h1 : leqT a b = true) (h2 : leqT b c = true) : leqT a c = true :=
  (leqT_iff a c).2 fun j hj => Int.le_trans ((leqT_iff a b).1 h1 j hj) ((leqT_iff b c).1 h2 j hj)
theorem cmpT_zero {a b : List Tk} (ha : validT a = true) (hb : validT b = true) : cmpT a b = 0 ↔ a = b := by
  rw [cmpT_leq ha hb]
  constructor
  · intro h
    by_cases h1 : leqT a b = true
    · by_cases h2 : leqT b a = true
      · exact leqT_anti ha hb h1 h2
      · rw [if_pos h1, if_neg h2] at h; omega
    · rw [if_neg h1] at h
      split at h <;> omega
  · rintro rfl
    rw [if_pos (leqT_refl a), if_pos (leqT_refl a)]

theorem regFrom_iff (pre r : List En) : regFrom pre r = true ↔ ∀ j e, r[j]? = some e → oneOk (pre ++ r.take j) e = true := by
  induction r generalizing pre with
  | nil => simp [regFrom]
  | cons x s ih =>
    rw [regFrom, Bool.and_eq_true, ih]
    constructor
    · rintro ⟨h1, h2⟩ j e he
      cases j with
      | zero => simp at he; subst he; simpa using h1
      | succ j =>
        have := h2 j e (by simpa using he)
        simpa using this
    · intro h
      refine ⟨by simpa using h 0 x rfl, fun j e he => ?_⟩
      have := h (j + 1) e (by simpa using he)
      simpa using this
theorem last_take (es : List En) (j : Nat) (hj : j < es.length) : (es.take j).getLast? = if 0 < j then es[j - 1]? else none := by
  by_cases h : 0 < j
  · rw [if_pos h, List.getLast?_eq_getElem?, List.length_take, Nat.min_eq_left (by omega), List.getElem?_take, if_pos (by omega)]
  · obtain rfl : j = 0 := by omega
    rfl
theorem oneOk_iff (pre : List En) (e : En) : oneOk pre e = true ↔ e.1 ≠ [] ∧ validT e.1 = true ∧ okName e.2 = true ∧ lastOk pre e = true ∧ ∀ d ∈ pre, clashT e.1 d.1 = false := by
  unfold oneOk
  simp only [Bool.and_eq_true, Bool.not_eq_true', List.all_eq_true]
  constructor
  · rintro ⟨h1, h2, h3, h4, h5⟩
    exact ⟨by intro h; rw [h] at h1; simp at h1, h2, h3, h4, h5⟩
  · rintro ⟨h1, h2, h3, h4, h5⟩
    exact ⟨by cases h : e.1 with | nil => exact absurd h h1 | cons => rfl, h2, h3, h4, h5⟩
theorem belowT_irrefl (a : List Tk) : belowT a a = false := by
  unfold belowT; rw [leqT_refl]; simp
theorem regB_iff (es : List En) : regB es = true ↔ ∀ j, okE es j := by
  unfold regB
  rw [regFrom_iff]
  have hl : ∀ j e, es[j]? = some e → (lastOk (es.take j) e = true ↔ ∀ d, 0 < j → es[j - 1]? = some d → cmpEn d e < 0) := fun j e he => by
    have hj := (List.getElem?_eq_some_iff.1 he).1
    unfold lastOk
    rw [last_take es j hj]
    by_cases h0 : 0 < j
    · rw [if_pos h0, List.getElem?_eq_getElem (by omega)]
      simp [h0]
    · rw [if_neg h0]
      simp [h0]
  constructor
  · intro h j e he
    have hj := (List.getElem?_eq_some_iff.1 he).1
    have ho := fun i d hd => (oneOk_iff _ _).1 (h i d hd)
    have h1 := ho j e he
    rw [List.nil_append] at h1
    refine ⟨h1.1, h1.2.1, h1.2.2.1, (hl j e he).1 h1.2.2.2.1, fun d hd => ?_⟩
    obtain ⟨i, hd⟩ := List.mem_iff_getElem?.1 hd
    have h2 := ho i d hd
    rw [List.nil_append] at h2
    rcases Nat.lt_trichotomy i j with hij | hij | hij
    · have := h1.2.2.2.2 d (by rw [List.mem_iff_getElem?]; exact ⟨i, by rw [List.getElem?_take, if_pos hij]; exact hd⟩)
      rw [clashT_below h1.2.1 h2.2.1, Bool.or_eq_false_iff] at this
      exact this.1
    · subst hij
      have := he.symm.trans hd
      injection this with this
      subst this
      exact belowT_irrefl _
    · have := h2.2.2.2.2 e (by rw [List.mem_iff_getElem?]; exact ⟨j, by rw [List.getElem?_take, if_pos hij]; exact he⟩)
      rw [clashT_below h2.2.1 h1.2.1, Bool.or_eq_false_iff] at this
      exact this.2
  · intro h j e he
    rw [List.nil_append, oneOk_iff]
    have h1 := h j e he
    refine ⟨h1.1, h1.2.1, h1.2.2.1, (hl j e he).2 h1.2.2.2.1, fun d hd => ?_⟩
    obtain ⟨i, hd⟩ := List.mem_iff_getElem?.1 hd
    rw [List.getElem?_take] at hd
    by_cases hij : i < j
    · rw [if_pos hij] at hd
      have h2 := h i d hd
      rw [clashT_below h1.2.1 h2.2.1, h1.2.2.2.2 d (List.mem_of_getElem? hd), h2.2.2.2.2 e (List.mem_of_getElem? he)]
      rfl
    · rw [if_neg hij] at hd; cases hd
theorem isReg_iff (N : Int) (nn np : Nat) (es : List En) : IsReg N nn np es ↔ isReg N nn np es = true := by
  unfold isReg usedB IsReg
  simp only [Bool.and_eq_true, decide_eq_true_eq, regB_iff]
  exact ⟨fun h => ⟨⟨h.1, h.2.1, h.2.2.1⟩, h.2.2.2⟩, fun h => ⟨h.1.1, h.1.2.1, h.1.2.2, h.2⟩⟩
end Go.Proofs.YthldgioggjpnpaaGreat
