/-
  Plain: tables as functions, first found, the words of the program on tables.
  Plain: finite lattices by their join tables: covers, meets, irreducible elements.
  Plain: each element of a finite lattice is the join of the irreducible elements at most it.
  Plain: heights in finite lattices; the words of the program's relaxation.
  Plain: the reach of covers (Warshall), row by row.
  Plain: the height of a finite lattice and its irreducible elements (Birkhoff).
-/
import Derived.Test.YtaecccdkjmipeaaGreatA4
namespace Go.Proofs.YtaecccdkjmipeaaGreat
open Go.RowKit

/-- a table as the model lists it -/
def tab (n : Nat) (f : Nat → Nat → Nat) : List (List Int) := (List.range n).map fun i => (List.range n).map fun j => (f i j : Int)
/-- has a list of lists the form of a table? -/
def isT (T : List (List Int)) : Bool := !(decide (T.length < 1) || decide (T.length > 256)) && T.all fun r => r.length == T.length && r.all fun x => !(decide (x < 0) || decide (x ≥ (T.length : Int)))
/-- a table's function -/
structure TabOf (T : List (List Int)) (n : Nat) (f : Nat → Nat → Nat) : Prop where
 eq : T = tab n f
 pos : 1 ≤ n
 le : n ≤ 256
 lt : ∀ i j, i < n → j < n → f i j < n

theorem isT_of {T : List (List Int)} (h : isT T = true) : ∃ n f, TabOf T n f := by
 simp only [isT, Bool.and_eq_true, Bool.not_eq_true', Bool.or_eq_false_iff, decide_eq_false_iff_not, List.all_eq_true, beq_iff_eq] at h
 obtain ⟨⟨h1, h2⟩, h3⟩ := h
 refine ⟨T.length, fun i j => (((T[i]?).getD [])[j]?.getD 0).toNat, ?_, by omega, by omega, fun i j hi hj => ?_⟩
 ·refine List.ext_getElem (by simp [tab]) fun i hi _ => ?_
  have hr := h3 T[i] (List.getElem_mem hi)
  simp only [tab, List.getElem_map, List.getElem_range]
  refine List.ext_getElem (by simp [hr.1]) fun j hj _ => ?_
  have hx := hr.2 T[i][j] (List.getElem_mem hj)
  simp only [List.getElem_map, List.getElem_range, List.getElem?_eq_getElem hi, List.getElem?_eq_getElem hj, Option.getD_some]
  omega
 have hr := h3 T[i] (List.getElem_mem hi)
 have hj' : j < T[i].length := by rw [hr.1]; exact hj
 have hx := hr.2 T[i][j] (List.getElem_mem hj')
 simp only [List.getElem?_eq_getElem hi, List.getElem?_eq_getElem hj', Option.getD_some]
 omega
theorem TabOf.is {T : List (List Int)} {n : Nat} {f : Nat → Nat → Nat} (h : TabOf T n f) : isT T = true := by
 have hl : T.length = n := by rw [h.eq]; simp [tab]
 simp only [isT, Bool.and_eq_true, Bool.not_eq_true', Bool.or_eq_false_iff, decide_eq_false_iff_not, List.all_eq_true, beq_iff_eq, hl]
 refine ⟨⟨by have := h.pos; omega, by have := h.le; omega⟩, fun r hr => ?_⟩
 rw [h.eq, tab, List.mem_map] at hr
 obtain ⟨i, hi, rfl⟩ := hr
 refine ⟨by simp, fun x hx => ?_⟩
 rw [List.mem_map] at hx
 obtain ⟨j, hj, rfl⟩ := hx
 have := h.lt i j (List.mem_range.1 hi) (List.mem_range.1 hj)
 omega

/-- the first result of p from k up to n -/
def ff {α : Type} (p : Nat → Option α) (n k : Nat) : Option α := (List.range' k (n - k)).findSome? p
section
variable {α : Type} {p : Nat → Option α} {n k : Nat}
theorem ff_lt (h : k < n) : ff p n k = (p k).or (ff p n (k + 1)) := by
 unfold ff
 rw [show n - k = (n - (k + 1)) + 1 by omega, List.range'_succ, List.findSome?_cons]
 cases p k <;> rfl
theorem ff_ge (h : n ≤ k) : ff p n k = none := by
 unfold ff
 rw [show n - k = 0 by omega]; rfl
theorem ff_none : ff p n k = none ↔ ∀ i, k ≤ i → i < n → p i = none := by
 unfold ff
 rw [List.findSome?_eq_none_iff]
 refine ⟨fun h i h1 h2 => h i (List.mem_range'_1.2 (by omega)), fun h x hx => ?_⟩
 have := List.mem_range'_1.1 hx
 exact h x this.1 (by omega)
end

variable (n : Nat) (f : Nat → Nat → Nat)
/-- is b neutral, as far as the elements below k show? -/
def neu (b k : Nat) : Bool := (List.range k).all fun i => f b i == i && f i b == i
theorem neu_succ (b k : Nat) : neu f b (k + 1) = (neu f b k && (f b k == k && f k b == k)) := by
 unfold neu
 rw [List.range_succ, List.all_append]
 simp
/-- the neutral element -/
def bot : Option Nat := ff (fun b => if neu f b n then some b else none) n 0
/-- the laws' first violations -/
def vio1 : Option (Nat × Nat × Nat × Nat) := ff (fun a => if f a a = a then none else some (1, a, 0, 0)) n 0
def vio2a (a : Nat) (b : Nat) : Option (Nat × Nat × Nat × Nat) := if f a b = f b a then none else some (2, a, b, 0)
def vio2 : Option (Nat × Nat × Nat × Nat) := ff (fun a => ff (vio2a f a) n (a + 1)) n 0
def vio3a (a b c : Nat) : Option (Nat × Nat × Nat × Nat) := if f (f a b) c = f a (f b c) then none else some (3, a, b, c)
def vio3 : Option (Nat × Nat × Nat × Nat) := ff (fun a => ff (fun b => ff (vio3a f a b) n 0) n 0) n 0
/-- the first violated law -/
def vio : Nat × Nat × Nat × Nat := (((vio1 n f).or (vio2 n f)).or (vio3 n f)).getD (if bot n f = none then (4, 0, 0, 0) else (0, 0, 0, 0))
def below (i j : Nat) : Bool := !(i == j) && f i j == j
def cov (i j : Nat) : Bool := below f i j && (List.range n).all fun k => !(below f i k && below f k j)
/-- the covering pairs of which the first is i -/
def covR (i : Nat) : List (Nat × Nat) := ((List.range n).filter (cov n f i)).map fun j => (i, j)
def covL : List (Nat × Nat) := (List.range n).flatMap (covR n f)
/-- the join of the common lower bounds below k -/
def meetK (z i j k : Nat) : Nat := (List.range k).foldl (fun m k => if f k i = i ∧ f k j = j then f m k else m) z
theorem meetK_succ (z i j k : Nat) : meetK f z i j (k + 1) = if f k i = i ∧ f k j = j then f (meetK f z i j k) k else meetK f z i j k := by
 unfold meetK
 rw [List.range_succ, List.foldl_append]; rfl
def tmeetF (i j : Nat) : Nat := meetK f ((bot n f).getD 0) i j n
/-- how often an element is the second of a covering pair -/
def lowN (L : List (Nat × Nat)) (i : Nat) : Nat := L.countP fun e => e.2 == i
def irrL : List Nat := (List.range n).filter fun i => lowN (covL n f) i == 1
def dist3 (m : Nat → Nat → Nat) (i j k : Nat) : Bool := m i (f j k) == f (m i j) (m i k)
def tdistB : Bool := (List.range n).all fun i => (List.range n).all fun j => (List.range n).all fun k => dist3 f (tmeetF n f) i j k
end Go.Proofs.YtaecccdkjmipeaaGreat

namespace Go.Proofs.YtaecccdkjmipeaaGreat
open Go.RowKit

structure LatF (n : Nat) (f : Nat → Nat → Nat) (z : Nat) : Prop where
 lt : ∀ i j, i < n → j < n → f i j < n
 idem : ∀ i, i < n → f i i = i
 comm : ∀ i j, i < n → j < n → f i j = f j i
 assoc : ∀ i j k, i < n → j < n → k < n → f (f i j) k = f i (f j k)
 zlt : z < n
 zl : ∀ i, i < n → f z i = i

variable {n : Nat} {f : Nat → Nat → Nat} {z : Nat}
theorem neu_iff {b k : Nat} : neu f b k = true ↔ ∀ i, i < k → f b i = i ∧ f i b = i := by
 simp [neu]
theorem bot_some {b : Nat} (h : bot n f = some b) : b < n ∧ neu f b n = true := by
 have key : ∀ m k, n - k = m → ff (fun b => if neu f b n then some b else none) n k = some b → b < n ∧ neu f b n = true := by
  intro m
  induction m with
  | zero => intro k h1 h2; rw [ff_ge (by omega)] at h2; cases h2
  | succ m ih =>
   intro k h1 h2
   rw [ff_lt (by omega)] at h2
   by_cases hk : neu f k n = true
   ·rw [if_pos hk] at h2
    cases h2
    exact ⟨by omega, hk⟩
   rw [if_neg hk] at h2
   exact ih (k + 1) (by omega) h2
 exact key n 0 rfl h
theorem vio_zero (hlt : ∀ i j, i < n → j < n → f i j < n) (h : (vio n f).1 = 0) : ∃ z, bot n f = some z ∧ LatF n f z := by
 have hff : ∀ {p : Nat → Option (Nat × Nat × Nat × Nat)} {c : Nat}, (∀ i r, p i = some r → r.1 = c) → ∀ m k r, n - k = m → ff p n k = some r → r.1 = c := by
  intro p c hp m
  induction m with
  | zero => intro k r h1 h2; rw [ff_ge (by omega)] at h2; cases h2
  | succ m ih =>
   intro k r h1 h2
   rw [ff_lt (by omega)] at h2
   cases hk : p k with
   | some x => rw [hk] at h2; cases h2; exact hp k _ hk
   | none => rw [hk] at h2; exact ih (k + 1) r (by omega) h2
 have c1 : ∀ r, vio1 n f = some r → r.1 = 1 := fun r hr => hff (c := 1) (fun i r h => by split at h <;> cases h; rfl) n 0 r rfl hr
 have c2 : ∀ r, vio2 n f = some r → r.1 = 2 := fun r hr => hff (c := 2) (fun i r h => hff (c := 2) (fun i r h => by unfold vio2a at h; split at h <;> cases h; rfl) _ _ r rfl h) n 0 r rfl hr
 have c3 : ∀ r, vio3 n f = some r → r.1 = 3 := fun r hr => hff (c := 3) (fun i r h => hff (c := 3) (fun i r h => hff (c := 3) (fun i r h => by unfold vio3a at h; split at h <;> cases h; rfl) _ _ r rfl h) _ _ r rfl h) n 0 r rfl hr
 unfold vio at h
 cases h1 : vio1 n f with
 | some r => rw [h1] at h; have := c1 r h1; simp [this] at h
 | none =>
  rw [h1] at h
  cases h2 : vio2 n f with
  | some r => rw [h2] at h; have := c2 r h2; simp [this] at h
  | none =>
   rw [h2] at h
   cases h3 : vio3 n f with
   | some r => rw [h3] at h; have := c3 r h3; simp [this] at h
   | none =>
    rw [h3] at h
    cases hb : bot n f with
    | none => rw [hb] at h; simp at h
    | some z =>
     obtain ⟨z1, z2⟩ := bot_some hb
     have comm : ∀ i j, i < j → j < n → f i j = f j i := fun i j hi hj => by
      have := ff_none.1 (ff_none.1 h2 i (Nat.zero_le _) (by omega)) j (by omega) hj
      unfold vio2a at this
      split at this
      ·assumption
      cases this
     have idem : ∀ i, i < n → f i i = i := fun i hi => by
      have := ff_none.1 h1 i (Nat.zero_le _) hi
      split at this
      ·assumption
      cases this
     have assoc : ∀ i j k, i < n → j < n → k < n → f (f i j) k = f i (f j k) := fun i j k hi hj hk => by
      have := ff_none.1 (ff_none.1 (ff_none.1 h3 i (Nat.zero_le _) hi) j (Nat.zero_le _) hj) k (Nat.zero_le _) hk
      unfold vio3a at this
      split at this
      ·assumption
      cases this
     refine ⟨z, rfl, hlt, idem, fun i j hi hj => ?_, assoc, z1, fun i hi => (neu_iff.1 z2 i hi).1⟩
     rcases Nat.lt_trichotomy i j with h | h | h
     ·exact comm i j h hj
     ·rw [h]
     ·exact (comm j i h hi).symm

namespace LatF
variable (L : LatF n f z)
include L
theorem le_trans {i j k : Nat} (hi : i < n) (hj : j < n) (hk : k < n) (h1 : f i j = j) (h2 : f j k = k) : f i k = k := by
 rw [← h2, ← L.assoc i j k hi hj hk, h1]
theorem le_anti {i j : Nat} (hi : i < n) (hj : j < n) (h1 : f i j = j) (h2 : f j i = i) : i = j := by
 rw [← h2, L.comm j i hj hi, h1]
theorem join_le {i j k : Nat} (hi : i < n) (hj : j < n) (hk : k < n) (h1 : f i k = k) (h2 : f j k = k) : f (f i j) k = k := by
 rw [L.assoc i j k hi hj hk, h2, h1]
theorem le_join {i j : Nat} (hi : i < n) (hj : j < n) : f i (f i j) = f i j := by
 rw [← L.assoc i i j hi hi hj, L.idem i hi]
theorem le_join2 {i j : Nat} (hi : i < n) (hj : j < n) : f j (f i j) = f i j := by
 rw [L.comm i j hi hj]; exact L.le_join hj hi
theorem below_iff {i j : Nat} : below f i j = true ↔ i ≠ j ∧ f i j = j := by
 have := L
 simp [below]
theorem below_trans {i j k : Nat} (hi : i < n) (hj : j < n) (hk : k < n) (h1 : below f i j = true) (h2 : below f j k = true) : below f i k = true := by
 rw [L.below_iff] at *
 refine ⟨fun e => ?_, L.le_trans hi hj hk h1.2 h2.2⟩
 subst e
 exact h1.1 (L.le_anti hi hj h1.2 h2.2)
/-! ### meets -/
theorem meetK_spec {i j : Nat} (hi : i < n) (hj : j < n) : ∀ k, k ≤ n → meetK f z i j k < n ∧ f (meetK f z i j k) i = i ∧ f (meetK f z i j k) j = j ∧ ∀ q, q < k → f q i = i → f q j = j → f q (meetK f z i j k) = meetK f z i j k
 | 0, _ => ⟨L.zlt, L.zl i hi, L.zl j hj, fun q hq => by omega⟩
 | k + 1, hk => by
  obtain ⟨h1, h2, h3, h4⟩ := meetK_spec hi hj k (by omega)
  rw [meetK_succ]
  by_cases hc : f k i = i ∧ f k j = j
  ·rw [if_pos hc]
   refine ⟨L.lt _ _ h1 (by omega), L.join_le h1 (by omega) hi h2 hc.1, L.join_le h1 (by omega) hj h3 hc.2, fun q hq g1 g2 => ?_⟩
   rcases Nat.lt_or_ge q k with h | h
   ·exact L.le_trans (by omega) h1 (L.lt _ _ h1 (by omega)) (h4 q h g1 g2) (L.le_join h1 (by omega))
   have : q = k := by omega
   subst this
   exact L.le_join2 h1 (by omega)
  rw [if_neg hc]
  refine ⟨h1, h2, h3, fun q hq g1 g2 => ?_⟩
  rcases Nat.lt_or_ge q k with h | h
  ·exact h4 q h g1 g2
  have : q = k := by omega
  subst this
  exact absurd ⟨g1, g2⟩ hc
/-! ### heights: how many elements are at most i -/
end LatF
def dn (n : Nat) (f : Nat → Nat → Nat) (i : Nat) : Nat := (List.range n).countP fun k => f k i == i
theorem countP_lt {α : Type} {p q : α → Bool} : ∀ {l : List α}, (∀ x ∈ l, p x = true → q x = true) → (∃ x ∈ l, q x = true ∧ p x = false) → l.countP p < l.countP q
 | [], _, ⟨_, h, _⟩ => by cases h
 | a :: l, h1, ⟨x, hx, h2, h3⟩ => by
  have hle : l.countP p ≤ l.countP q := List.countP_mono_left fun x hx => h1 x (.tail _ hx)
  rw [List.countP_cons, List.countP_cons]
  cases hx with
  | head => rw [h2, h3]; simp; omega
  | tail _ hx =>
   have ih := countP_lt (fun x hx => h1 x (.tail _ hx)) ⟨x, hx, h2, h3⟩
   have h4 := h1 a (.head _)
   cases hp : p a with
   | true => rw [h4 hp]; simp; omega
   | false => cases q a <;> simp <;> omega
namespace LatF
variable (L : LatF n f z)
include L
theorem dn_lt {i j : Nat} (hi : i < n) (hj : j < n) (h : below f i j = true) : dn n f i < dn n f j := by
 rw [L.below_iff] at h
 refine countP_lt (fun k hk hki => ?_) ⟨j, List.mem_range.2 hj, by simp [L.idem j hj], ?_⟩
 ·simp only [beq_iff_eq] at *
  exact L.le_trans (List.mem_range.1 hk) hi hj hki h.2
 simp only [beq_eq_false_iff_ne, ne_eq]
 intro e
 exact h.1 (L.le_anti hi hj h.2 e)
theorem dn_le (i : Nat) : dn n f i ≤ n := by
 have := L
 have h := List.countP_le_length (p := fun k => f k i == i) (l := List.range n)
 rwa [List.length_range] at h
/-! ### covers -/
theorem cov_iff {i j : Nat} : cov n f i j = true ↔ below f i j = true ∧ ∀ k, k < n → ¬ (below f i k = true ∧ below f k j = true) := by
 have := L
 simp only [cov, Bool.and_eq_true, List.all_eq_true, List.mem_range, Bool.not_eq_true', Bool.and_eq_false_iff]
 refine and_congr_right fun _ => forall_congr' fun k => forall_congr' fun _ => ?_
 cases below f i k <;> cases below f k j <;> simp
/-- what is below has a chain of covers -/
theorem cov_last {i j : Nat} (hi : i < n) (hj : j < n) (h : below f i j = true) : ∃ k, k < n ∧ (k = i ∨ below f i k = true) ∧ cov n f k j = true := by
 have key : ∀ m i, i < n → n - dn n f i = m → below f i j = true → ∃ k, k < n ∧ (k = i ∨ below f i k = true) ∧ cov n f k j = true := by
  intro m
  induction m using Nat.strongRecOn with
  | _ m ih =>
   intro i hi hm h
   by_cases hc : cov n f i j = true
   ·exact ⟨i, hi, .inl rfl, hc⟩
   have : ∃ k, k < n ∧ below f i k = true ∧ below f k j = true := by
    rw [L.cov_iff] at hc
    rcases Classical.em (∃ k, k < n ∧ below f i k = true ∧ below f k j = true) with h2 | h2
    ·exact h2
    exact absurd ⟨h, fun k hk hh => h2 ⟨k, hk, hh⟩⟩ hc
   obtain ⟨k, hk, h1, h2⟩ := this
   have hd := L.dn_lt hi hk h1
   have _ := hj
   have hd2 := L.dn_le k
   obtain ⟨q, q1, q2, q3⟩ := ih (n - dn n f k) (by omega) k hk rfl h2
   refine ⟨q, q1, .inr ?_, q3⟩
   rcases q2 with q2 | q2
   ·rw [q2]; exact h1
   exact L.below_trans hi hk q1 h1 q2
 exact key _ i hi rfl h
end LatF
/-- paths of covers through elements below k -/
def PW (n : Nat) (f : Nat → Nat → Nat) : Nat → Nat → Nat → Prop
 | 0, i, j => cov n f i j = true
 | k + 1, i, j => PW n f k i j ∨ (PW n f k i k ∧ PW n f k k j)
inductive Way (n : Nat) (f : Nat → Nat → Nat) : Nat → List Nat → Nat → Prop
 | one {i j} (h : cov n f i j = true) : Way n f i [] j
 | cons {i k l j} (hk : k < n) (h : cov n f i k = true) (r : Way n f k l j) : Way n f i (k :: l) j
namespace LatF
variable (L : LatF n f z)
include L
omit L in
theorem way_split {i j k : Nat} : ∀ {l1 l2 : List Nat}, Way n f i (l1 ++ k :: l2) j → Way n f i l1 k ∧ Way n f k l2 j ∧ k < n := by
 intro l1
 induction l1 generalizing i with
 | nil =>
  intro l2 h
  cases h with | cons hk h r => exact ⟨.one h, r, hk⟩
 | cons a l1 ih =>
  intro l2 h
  cases h with
  | cons hk h r =>
   obtain ⟨h1, h2, h3⟩ := ih r
   exact ⟨.cons hk h h1, h2, h3⟩
theorem way_below {i j : Nat} {l : List Nat} (h : Way n f i l j) : i < n → j < n → below f i j = true := by
 induction h with
 | one h => exact fun _ _ => (L.cov_iff.1 h).1
 | cons hk h r ih => exact fun hi hj => L.below_trans hi hk hj (L.cov_iff.1 h).1 (ih hk hj)
theorem way_pw : ∀ k (l : List Nat) (i j : Nat), i < n → j < n → Way n f i l j → (∀ x ∈ l, x < k) → PW n f k i j
 | 0, l, i, j, hi, hj, h, hl => by
  cases h with
  | one h => exact h
  | cons hk h r => exact absurd (hl _ (.head _)) (Nat.not_lt_zero _)
 | k + 1, l, i, j, hi, hj, h, hl => by
  by_cases hm : k ∈ l
  ·obtain ⟨l1, l2, rfl⟩ := List.append_of_mem hm
   obtain ⟨h1, h2, h3⟩ := way_split h
   have n1 : ∀ x ∈ l1, x < k := fun x hx => by
    have := hl x (by simp [hx])
    rcases Nat.lt_or_ge x k with h | h
    ·exact h
    have : x = k := by omega
    subst this
    obtain ⟨a, b, rfl⟩ := List.append_of_mem hx
    obtain ⟨_, g2, _⟩ := way_split h1
    have := L.way_below g2 h3 h3
    simp [below] at this
   have n2 : ∀ x ∈ l2, x < k := fun x hx => by
    have := hl x (by simp [hx])
    rcases Nat.lt_or_ge x k with h | h
    ·exact h
    have : x = k := by omega
    subst this
    obtain ⟨a, b, rfl⟩ := List.append_of_mem hx
    obtain ⟨g1, _, _⟩ := way_split h2
    have := L.way_below g1 h3 h3
    simp [below] at this
   exact .inr ⟨way_pw k l1 i k hi h3 h1 n1, way_pw k l2 k j h3 hj h2 n2⟩
  exact .inl (way_pw k l i j hi hj h fun x hx => by
   have := hl x hx
   have : x ≠ k := fun e => hm (e ▸ hx)
   omega)
omit L in
theorem way_snoc {i j k : Nat} {l : List Nat} (h : Way n f i l k) (hk : k < n) (hj : cov n f k j = true) : Way n f i (l ++ [k]) j := by
 induction h with
 | one h => exact .cons hk h (.one hj)
 | cons hk' h r ih => exact .cons hk' h (ih hk hj)
omit L in
theorem way_lt {i j : Nat} {l : List Nat} (h : Way n f i l j) : ∀ x ∈ l, x < n := by
 induction h with
 | one h => simp
 | cons hk h r ih =>
  intro x hx
  cases hx with
  | head => exact hk
  | tail _ hx => exact ih x hx
theorem below_way {i j : Nat} (hi : i < n) (hj : j < n) (h : below f i j = true) : ∃ l, Way n f i l j := by
 have key : ∀ m j, j < n → dn n f j = m → below f i j = true → ∃ l, Way n f i l j := by
  intro m
  induction m using Nat.strongRecOn with
  | _ m ih =>
   intro j hj hm h
   obtain ⟨k, hk, h1, h2⟩ := L.cov_last hi hj h
   rcases h1 with rfl | h1
   ·exact ⟨[], .one h2⟩
   obtain ⟨l, hl⟩ := ih (dn n f k) (by rw [← hm]; exact L.dn_lt hk hj (L.cov_iff.1 h2).1) k hk rfl h1
   exact ⟨_, way_snoc hl hk h2⟩
 exact key _ j hj rfl h
theorem pw_iff {i j : Nat} (hi : i < n) (hj : j < n) : below f i j = true → PW n f n i j := fun h => by
 obtain ⟨l, hl⟩ := L.below_way hi hj h
 exact L.way_pw n l i j hi hj hl (way_lt hl)
end LatF
end Go.Proofs.YtaecccdkjmipeaaGreat

namespace Go.Proofs.YtaecccdkjmipeaaGreat
open Go.RowKit
variable {n : Nat} {f : Nat → Nat → Nat} {z : Nat}
theorem lowN_row (a i : Nat) (hi : i < n) : lowN (covR n f a) i = if cov n f a i = true then 1 else 0 := by
 unfold lowN covR
 rw [List.countP_map, List.countP_filter]
 have : ((List.range n).countP fun x => ((fun e : Nat × Nat => e.2 == i) ∘ fun j => (a, j)) x && cov n f a x) = (List.range n).countP fun x => x == i && cov n f a i := by
  refine List.countP_congr fun x _ => ?_
  simp only [Function.comp, Bool.and_eq_true, beq_iff_eq]
  refine ⟨fun ⟨h1, h2⟩ => ⟨h1, h1 ▸ h2⟩, fun ⟨h1, h2⟩ => ⟨h1, h1 ▸ h2⟩⟩
 rw [this]
 split
 ·rename_i h
  simp only [h, Bool.and_true]
  have := List.count_range (a := i) (n := n)
  rw [show (List.range n).countP (fun x => x == i) = (List.range n).count i from rfl, this, if_pos hi]
 rename_i h
 simp [h]
theorem lowN_app (l r : List (Nat × Nat)) (i : Nat) : lowN (l ++ r) i = lowN l i + lowN r i := List.countP_append
theorem lowN_cov (i : Nat) (hi : i < n) : lowN (covL n f) i = (List.range n).countP fun a => cov n f a i := by
 unfold covL
 generalize List.range n = l
 induction l with
 | nil => rfl
 | cons a l ih =>
  rw [List.flatMap_cons, lowN_app, ih, lowN_row a i hi, List.countP_cons]
  omega
namespace LatF
variable (L : LatF n f z)
include L
theorem irr_ub : ∀ {i u : Nat}, i < n → u < n → (∀ w ∈ irrL n f, f w i = i → f w u = u) → f i u = u := by
 have key : ∀ m i u, dn n f i = m → i < n → u < n → (∀ w ∈ irrL n f, f w i = i → f w u = u) → f i u = u := by
  intro m
  induction m using Nat.strongRecOn with
  | _ m ih =>
   intro i u hm hi hu h
   have low : ∀ a, a < n → cov n f a i = true → f a u = u := fun a ha hc => by
    have hb := (L.cov_iff.1 hc).1
    refine ih (dn n f a) (by rw [← hm]; exact L.dn_lt ha hi hb) a u rfl ha hu fun w hw hwa => h w hw ?_
    have hwn : w < n := by
     unfold irrL at hw
     exact List.mem_range.1 (List.mem_filter.1 hw).1
    exact L.le_trans hwn ha hi hwa (L.below_iff.1 hb).2
   by_cases h1 : lowN (covL n f) i = 1
   ·refine h i ?_ (L.idem i hi)
    unfold irrL
    exact List.mem_filter.2 ⟨List.mem_range.2 hi, by simp [h1]⟩
   rw [lowN_cov i hi] at h1
   by_cases hz : i = z
   ·rw [hz]; exact L.zl u hu
   have hzi : below f z i = true := L.below_iff.2 ⟨fun e => hz e.symm, L.zl i hi⟩
   obtain ⟨a, ha, -, hca⟩ := L.cov_last L.zlt hi hzi
   -- two different lower covers
   have : ∃ b, b < n ∧ b ≠ a ∧ cov n f b i = true := by
    rcases Classical.em (∃ b, b < n ∧ b ≠ a ∧ cov n f b i = true) with h2 | h2
    ·exact h2
    refine absurd ?_ h1
    have e : (List.range n).countP (fun a => cov n f a i) = (List.range n).count a := by
     refine List.countP_congr fun x hx => ?_
     rw [beq_iff_eq]
     refine ⟨fun hc => ?_, fun e => by rw [e]; exact hca⟩
     rcases Nat.decEq x a with h3 | h3
     ·exact absurd ⟨x, List.mem_range.1 hx, h3, hc⟩ h2
     exact h3
    rw [e, List.count_range, if_pos ha]
   obtain ⟨b, hb, hba, hcb⟩ := this
   have ka := (L.cov_iff.1 hca)
   have kb := (L.cov_iff.1 hcb)
   have la := L.below_iff.1 ka.1
   have lb := L.below_iff.1 kb.1
   have hab := L.lt a b ha hb
   have hj : f a b = i := by
    rcases Nat.decEq (f a b) i with hne | e
    ·-- a < a ∨ b < i or b < i contradict
     exfalso
     have hji : f (f a b) i = i := L.join_le ha hb hi la.2 lb.2
     have h3 : below f (f a b) i = true := L.below_iff.2 ⟨hne, hji⟩
     rcases Nat.decEq a (f a b) with h4 | h4
     ·exact ka.2 _ hab ⟨L.below_iff.2 ⟨h4, L.le_join ha hb⟩, h3⟩
     have h5 : f b a = a := by rw [L.comm b a hb ha]; exact h4.symm
     exact kb.2 a ha ⟨L.below_iff.2 ⟨hba, h5⟩, ka.1⟩
    exact e
   rw [← hj]
   exact L.join_le ha hb hu (low a ha hca) (low b hb hcb)
 exact fun {i u} hi hu h => key _ i u rfl hi hu h
end LatF
/-- the join of those of a list that are at most i -/
def joinB (f : Nat → Nat → Nat) (z i : Nat) (l : List Nat) : Nat := l.foldl (fun x w => if f w i = i then f x w else x) z
namespace LatF
variable (L : LatF n f z)
include L
theorem joinB_spec {i : Nat} (hi : i < n) : ∀ (l : List Nat) (x : Nat), (∀ w ∈ l, w < n) → x < n → f x i = i → joinB f x i l < n ∧ f (joinB f x i l) i = i ∧ f x (joinB f x i l) = joinB f x i l ∧ ∀ w ∈ l, f w i = i → f w (joinB f x i l) = joinB f x i l
 | [], x, _, hx, h => ⟨hx, h, L.idem x hx, by simp⟩
 | w :: l, x, hl, hx, h => by
  have hw := hl w (.head _)
  have hl' : ∀ w ∈ l, w < n := fun v hv => hl v (.tail _ hv)
  show joinB f (if f w i = i then f x w else x) i l < n ∧ f (joinB f (if f w i = i then f x w else x) i l) i = i ∧ f x (joinB f (if f w i = i then f x w else x) i l) = joinB f (if f w i = i then f x w else x) i l ∧ ∀ v ∈ w :: l, f v i = i → f v (joinB f (if f w i = i then f x w else x) i l) = joinB f (if f w i = i then f x w else x) i l
  by_cases hc : f w i = i
  ·rw [if_pos hc]
   have hxw := L.lt x w hx hw
   obtain ⟨h1, h2, h3, h4⟩ := joinB_spec hi l (f x w) hl' hxw (L.join_le hx hw hi h hc)
   refine ⟨h1, h2, L.le_trans hx hxw h1 (L.le_join hx hw) h3, fun v hv hvi => ?_⟩
   cases hv with
   | head => exact L.le_trans hw hxw h1 (L.le_join2 hx hw) h3
   | tail _ hv => exact h4 v hv hvi
  rw [if_neg hc]
  obtain ⟨h1, h2, h3, h4⟩ := joinB_spec hi l x hl' hx h
  refine ⟨h1, h2, h3, fun v hv hvi => ?_⟩
  cases hv with
  | head => exact absurd hvi hc
  | tail _ hv => exact h4 v hv hvi
theorem irr_join {i : Nat} (hi : i < n) : joinB f z i (irrL n f) = i := by
 obtain ⟨h1, h2, _, h4⟩ := L.joinB_spec hi (irrL n f) z (fun w hw => by unfold irrL at hw; exact List.mem_range.1 (List.mem_filter.1 hw).1) L.zlt (L.zl i hi)
 exact L.le_anti h1 hi h2 (L.irr_ub hi h1 h4)
end LatF
end Go.Proofs.YtaecccdkjmipeaaGreat

namespace Go.Proofs.YtaecccdkjmipeaaGreat
open Go.RowKit

/-- the greatest of a list, at least m -/
def maxL (m : Nat) (l : List Nat) : Nat := l.foldl max m
theorem maxL_le {m : Nat} {l : List Nat} {b : Nat} : maxL m l ≤ b ↔ m ≤ b ∧ ∀ x ∈ l, x ≤ b := by
 induction l generalizing m with
 | nil => simp [maxL]
 | cons a l ih =>
  show maxL (max m a) l ≤ b ↔ _
  rw [ih]
  simp only [Nat.max_le, List.mem_cons, forall_eq_or_imp, and_assoc]
/-- the number of steps of a longest chain of covers up to j, of at most k steps -/
def hK (n : Nat) (f : Nat → Nat → Nat) : Nat → Nat → Nat
 | 0, _ => 0
 | k + 1, j => maxL 0 (((List.range n).filter fun i => cov n f i j).map fun i => hK n f k i + 1)
def hF (n : Nat) (f : Nat → Nat → Nat) (j : Nat) : Nat := hK n f n j
def hgt (n : Nat) (f : Nat → Nat → Nat) : Nat := maxL 0 ((List.range n).map (hF n f))
variable {n : Nat} {f : Nat → Nat → Nat} {z : Nat}
theorem hK_le {k j b : Nat} : hK n f (k + 1) j ≤ b ↔ ∀ i, i < n → cov n f i j = true → hK n f k i + 1 ≤ b := by
 rw [hK, maxL_le]
 simp only [Nat.zero_le, true_and, List.mem_map, List.mem_filter, List.mem_range]
 refine ⟨fun h i hi hc => h _ ⟨i, ⟨hi, hc⟩, rfl⟩, ?_⟩
 rintro h x ⟨i, ⟨hi, hc⟩, rfl⟩
 exact h i hi hc
theorem hK_ge {k i j : Nat} (hi : i < n) (hc : cov n f i j = true) : hK n f k i + 1 ≤ hK n f (k + 1) j := hK_le.1 (Nat.le_refl _) i hi hc
namespace LatF
variable (L : LatF n f z)
include L
theorem dn_pos {i : Nat} (hi : i < n) : 0 < dn n f i := by
 refine List.countP_pos_iff.2 ⟨i, List.mem_range.2 hi, ?_⟩
 simp [L.idem i hi]
theorem hK_stable : ∀ (k j : Nat), j < n → dn n f j ≤ k + 1 → hK n f (k + 1) j = hK n f k j
 | 0, j, hj, h => by
  refine Nat.le_antisymm (hK_le.2 fun i hi hc => ?_) (Nat.zero_le _)
  have h1 := L.dn_lt hi hj (L.cov_iff.1 hc).1
  have h2 := L.dn_pos hi
  omega
 | k + 1, j, hj, h => by
  rw [hK, hK]
  congr 1
  refine List.map_congr_left fun i hi => ?_
  obtain ⟨h1, h2⟩ := List.mem_filter.1 hi
  have h3 := L.dn_lt (List.mem_range.1 h1) hj (L.cov_iff.1 h2).1
  rw [hK_stable k i (List.mem_range.1 h1) (by omega)]
theorem hF_step {i j : Nat} (hi : i < n) (hj : j < n) (hc : cov n f i j = true) : hF n f i + 1 ≤ hF n f j := by
 unfold hF
 rw [← L.hK_stable n j hj (by have := L.dn_le j; omega)]
 exact hK_ge hi hc
omit L in
/-- a rank that no cover contradicts is at least the height -/
theorem hF_least {r : Nat → Nat} (h : ∀ i j, i < n → j < n → cov n f i j = true → r i + 1 ≤ r j) : ∀ j, j < n → hF n f j ≤ r j := by
 have key : ∀ k j, j < n → hK n f k j ≤ r j := by
  intro k
  induction k with
  | zero => intro j _; exact Nat.zero_le _
  | succ k ih =>
   intro j hj
   refine hK_le.2 fun i hi hc => ?_
   have := ih i hi
   have := h i j hi hj hc
   omega
 exact fun j hj => key n j hj
theorem hF_lt {j : Nat} (hj : j < n) : hF n f j < n := by
 have h := hF_least (r := fun j => dn n f j - 1) (fun i j hi hj hc => by
  have h1 := L.dn_lt hi hj (L.cov_iff.1 hc).1
  have h2 := L.dn_pos hi
  show dn n f i - 1 + 1 ≤ dn n f j - 1
  omega) j hj
 have h2 := L.dn_pos hj
 have h3 := L.dn_le j
 omega
end LatF
end Go.Proofs.YtaecccdkjmipeaaGreat

namespace Go.Proofs.YtaecccdkjmipeaaGreat
open Go.RowKit
variable {n : Nat} {f : Nat → Nat → Nat} {z : Nat}
/-- one entry set -/
def setM (R : Nat → Nat → Bool) (i j : Nat) (b : Bool) : Nat → Nat → Bool := fun a c => if a = i ∧ c = j then b else R a c
/-- what the matrix says in round k, before the entry (i, j) -/
structure WM (n : Nat) (f : Nat → Nat → Nat) (k i j : Nat) (R : Nat → Nat → Bool) : Prop where
 sound : ∀ a b, a < n → b < n → R a b = true → below f a b = true
 old : ∀ a b, a < n → b < n → PW n f k a b → R a b = true
 new : ∀ a b, a < n → b < n → (a < i ∨ (a = i ∧ b < j)) → PW n f (k + 1) a b → R a b = true
namespace LatF
variable (L : LatF n f z)
include L
theorem wm_step {k i j : Nat} {R : Nat → Nat → Bool} (hk : k < n) (hi : i < n) (hj : j < n) (h : WM n f k i j R) : WM n f k i (j + 1) (setM R i j (R i j || (R i k && R k j))) := by
 have up : ∀ a b, R a b = true → setM R i j (R i j || (R i k && R k j)) a b = true := fun a b hab => by
  unfold setM
  split
  ·rename_i e
   obtain ⟨rfl, rfl⟩ := e
   rw [hab]; rfl
  exact hab
 refine ⟨fun a b ha hb hr => ?_, fun a b ha hb hp => up a b (h.old a b ha hb hp), fun a b ha hb hlt hp => ?_⟩
 ·unfold setM at hr
  split at hr
  ·rename_i e
   obtain ⟨rfl, rfl⟩ := e
   rcases Bool.or_eq_true _ _ ▸ hr with hr | hr
   ·exact h.sound a b ha hb hr
   obtain ⟨h1, h2⟩ := Bool.and_eq_true _ _ ▸ hr
   exact L.below_trans ha hk hb (h.sound a k ha hk h1) (h.sound k b hk hb h2)
  exact h.sound a b ha hb hr
 by_cases e : a = i ∧ b = j
 ·obtain ⟨rfl, rfl⟩ := e
  have : setM R a b (R a b || (R a k && R k b)) a b = (R a b || (R a k && R k b)) := by simp [setM]
  rw [this]
  rcases hp with hp | ⟨hp1, hp2⟩
  ·rw [h.old a b ha hb hp]; rfl
  rw [h.old a k ha hk hp1, h.old k b hk hb hp2]; simp
 exact up a b (h.new a b ha hb (by omega) hp)
omit L in
theorem wm_row {k i : Nat} {R : Nat → Nat → Bool} (h : WM n f k i n R) : WM n f k (i + 1) 0 R :=
 ⟨h.sound, h.old, fun a b ha hb hlt hp => h.new a b ha hb (by omega) hp⟩
omit L in
theorem wm_round {k : Nat} {R : Nat → Nat → Bool} (h : WM n f k n 0 R) : WM n f (k + 1) 0 0 R :=
 ⟨h.sound, fun a b ha hb hp => h.new a b ha hb (.inl ha) hp, fun a b ha hb hlt hp => by omega⟩
theorem wm_start : WM n f 0 0 0 (cov n f) := ⟨fun a b ha hb h => (L.cov_iff.1 h).1, fun a b ha hb h => h, fun a b ha hb hlt hp => by omega⟩
theorem wm_end {R : Nat → Nat → Bool} (h : WM n f n 0 0 R) {i j : Nat} (hi : i < n) (hj : j < n) : R i j = below f i j := by
 cases hb : below f i j with
 | true => exact h.old i j hi hj (L.pw_iff hi hj hb)
 | false =>
  cases hr : R i j with
  | false => rfl
  | true => rw [h.sound i j hi hj hr] at hb; cases hb
end LatF
end Go.Proofs.YtaecccdkjmipeaaGreat

namespace Go.Proofs.YtaecccdkjmipeaaGreat
open Go.RowKit
variable {n : Nat} {f : Nat → Nat → Nat} {z : Nat}
theorem irr_mem {w : Nat} : w ∈ irrL n f ↔ w < n ∧ lowN (covL n f) w = 1 := by
 unfold irrL
 rw [List.mem_filter, List.mem_range, beq_iff_eq]
namespace LatF
variable (L : LatF n f z)
include L
end LatF
namespace LatF
variable (L : LatF n f z) (hz : bot n f = some z)
include L hz
theorem meetF_spec {i j : Nat} (hi : i < n) (hj : j < n) : tmeetF n f i j < n ∧ f (tmeetF n f i j) i = i ∧ f (tmeetF n f i j) j = j ∧ ∀ q, q < n → f q i = i → f q j = j → f q (tmeetF n f i j) = tmeetF n f i j := by
 unfold tmeetF
 rw [hz]
 exact L.meetK_spec hi hj n (Nat.le_refl _)
theorem meet_le {i j : Nat} (hi : i < n) (hj : j < n) (h : f i j = j) : tmeetF n f i j = i := by
 obtain ⟨h1, h2, h3, h4⟩ := L.meetF_spec hz hi hj
 exact L.le_anti h1 hi h2 (h4 i hi (L.idem i hi) h)
end LatF
end Go.Proofs.YtaecccdkjmipeaaGreat
