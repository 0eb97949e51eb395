/-
  Plain: tables as functions, first found, the words of the program on tables.
  Plain: finite lattices by their join tables: covers, meets, irreducible elements.
  Plain: each element of a finite lattice is the join of the irreducible elements at most it.
  Plain: heights in finite lattices; the words of the program's relaxation.
  Plain: the reach of covers (Warshall), row by row.
  Plain: the height of a finite lattice and its irreducible elements (Birkhoff).
-/
import Derived.Test.YtaecccdkjmipeaaGreatA4
namespace Go.Proofs.YtaecccdkjmipeaaGreat
open Go.RowKit

/-- a table as the model lists it -/
def tab (n : Nat) (f : Nat → Nat → Nat) : List (List Int) := (List.range n).map fun i => (List.range n).map fun j => (f i j : Int)
/-- has a list of lists the form of a table? -/
def isT (T : List (List Int)) : Bool := !(decide (T.length < 1) || decide (T.length > 256)) && T.all fun r => r.length == T.length && r.all fun x => !(decide (x < 0) || decide (x ≥ (T.length : Int)))
/-- a table's function -/
structure TabOf (T : List (List Int)) (n : Nat) (f : Nat → Nat → Nat) : Prop where
 eq : T = tab n f
 pos : 1 ≤ n
 le : n ≤ 256
 lt : ∀ i j, i < n → j < n → f i j < n

theorem TabOf.is {T : List (List Int)} {n : Nat} {f : Nat → Nat → Nat} (h : TabOf T n f) : isT T = true := by
 have hl : T.length = n := by rw [h.eq]; simp [tab]
 simp only [isT, Bool.and_eq_true, Bool.not_eq_true', Bool.or_eq_false_iff, decide_eq_false_iff_not, List.all_eq_true, beq_iff_eq, hl]
 refine ⟨⟨by have := h.pos; omega, by have := h.le; omega⟩, fun r hr => ?_⟩
 rw [h.eq, tab, List.mem_map] at hr
 obtain ⟨i, hi, rfl⟩ := hr
 refine ⟨by simp, fun x hx => ?_⟩
 rw [List.mem_map] at hx
 obtain ⟨j, hj, rfl⟩ := hx
 have := h.lt i j (List.mem_range.1 hi) (List.mem_range.1 hj)
 omega

/-- the first result of p from k up to n -/
def ff {α : Type} (p : Nat → Option α) (n k : Nat) : Option α := (List.range' k (n - k)).findSome? p
section
variable {α : Type} {p : Nat → Option α} {n k : Nat}
theorem ff_lt (h : k < n) : ff p n k = (p k).or (ff p n (k + 1)) := by
 unfold ff
 rw [show n - k = (n - (k + 1)) + 1 by omega, List.range'_succ, List.findSome?_cons]
 cases p k <;> rfl
theorem ff_ge (h : n ≤ k) : ff p n k = none := by
 unfold ff
 rw [show n - k = 0 by omega]; rfl
theorem ff_none : ff p n k = none ↔ ∀ i, k ≤ i → i < n → p i = none := by
 unfold ff
 rw [List.findSome?_eq_none_iff]
 refine ⟨fun h i h1 h2 => h i (List.mem_range'_1.2 (by omega)), fun h x hx => ?_⟩
 have := List.mem_range'_1.1 hx
 exact h x this.1 (by omega)
end

variable (n : Nat) (f : Nat → Nat → Nat)
/-- is b neutral, as far as the elements below k show? -/
def neu (b k : Nat) : Bool := (List.range k).all fun i => f b i == i && f i b == i
theorem neu_succ (b k : Nat) : neu f b (k + 1) = (neu f b k && (f b k == k && f k b == k)) := by
 unfold neu
 rw [List.range_succ, List.all_append]
 simp
/-- the neutral element -/
def bot : Option Nat := ff (fun b => if neu f b n then some b else none) n 0
/-- the laws' first violations -/
def vio1 : Option (Nat × Nat × Nat × Nat) := ff (fun a => if f a a = a then none else some (1, a, 0, 0)) n 0
def vio2a (a : Nat) (b : Nat) : Option (Nat × Nat × Nat × Nat) := if f a b = f b a then none else some (2, a, b, 0)
def vio2 : Option (Nat × Nat × Nat × Nat) := ff (fun a => ff (vio2a f a) n (a + 1)) n 0
def vio3a (a b c : Nat) : Option (Nat × Nat × Nat × Nat) := if f (f a b) c = f a (f b c) then none else some (3, a, b, c)
def vio3 : Option (Nat × Nat × Nat × Nat) := ff (fun a => ff (fun b => ff (vio3a f a b) n 0) n 0) n 0
/-- the first violated law -/
def vio : Nat × Nat × Nat × Nat := (((vio1 n f).or (vio2 n f)).or (vio3 n f)).getD (if bot n f = none then (4, 0, 0, 0) else (0, 0, 0, 0))
def below (i j : Nat) : Bool := !(i == j) && f i j == j
def cov (i j : Nat) : Bool := below f i j && (List.range n).all fun k => !(below f i k && below f k j)
/-- the covering pairs of which the first is i -/
def covR (i : Nat) : List (Nat × Nat) := ((List.range n).filter (cov n f i)).map fun j => (i, j)
def covL : List (Nat × Nat) := (List.range n).flatMap (covR n f)
/-- the join of the common lower bounds below k -/
def meetK (z i j k : Nat) : Nat := (List.range k).foldl (fun m k => if f k i = i ∧ f k j = j then f m k else m) z
theorem meetK_succ (z i j k : Nat) : meetK f z i j (k + 1) = if f k i = i ∧ f k j = j then f (meetK f z i j k) k else meetK f z i j k := by
 unfold meetK
 rw [List.range_succ, List.foldl_append]; rfl
def tmeetF (i j : Nat) : Nat := meetK f ((bot n f).getD 0) i j n
/-- how often an element is the second of a covering pair -/
def lowN (L : List (Nat × Nat)) (i : Nat) : Nat := L.countP fun e => e.2 == i
def irrL : List Nat := (List.range n).filter fun i => lowN (covL n f) i == 1
def dist3 (m : Nat → Nat → Nat) (i j k : Nat) : Bool := m i (f j k) == f (m i j) (m i k)
def tdistB : Bool := (List.range n).all fun i => (List.range n).all fun j => (List.range n).all fun k => dist3 f (tmeetF n f) i j k
end Go.Proofs.YtaecccdkjmipeaaGreat

namespace Go.Proofs.YtaecccdkjmipeaaGreat
open Go.RowKit

structure LatF (n : Nat) (f : Nat → Nat → Nat) (z : Nat) : Prop where
 lt : ∀ i j, i < n → j < n → f i j < n
 idem : ∀ i, i < n → f i i = i
 comm : ∀ i j, i < n → j < n → f i j = f j i
 assoc : ∀ i j k, i < n → j < n → k < n → f (f i j) k = f i (f j k)
 zlt : z < n
 zl : ∀ i, i < n → f z i = i

variable {n : Nat} {f : Nat → Nat → Nat} {z : Nat}
theorem neu_iff {b k : Nat} : neu f b k = true ↔ ∀ i, i < k → f b i = i ∧ f i b = i := by
 simp [neu]
theorem bot_some {b : Nat} (h : bot n f = some b) : b < n ∧ neu f b n = true := by
 have key : ∀ m k, n - k = m → ff (fun b => if neu f b n then some b else none) n k = some b → b < n ∧ neu f b n = true := by
  intro m
  induction m with
  | zero => intro k h1 h2; rw [ff_ge (by omega)] at h2; cases h2
  | succ m ih =>
   intro k h1 h2
   rw [ff_lt (by omega)] at h2
   by_cases hk : neu f k n = true
   ·rw [if_pos hk] at h2
    cases h2
    exact ⟨by omega, hk⟩
   rw [if_neg hk] at h2
   exact ih (k + 1) (by omega) h2
 exact key n 0 rfl h
theorem vio_zero (hlt : ∀ i j, i < n → j < n → f i j < n) (h : (vio n f).1 = 0) : ∃ z, bot n f = some z ∧ LatF n f z := by
 have hff : ∀ {p : Nat → Option (Nat × Nat × Nat × Nat)} {c : Nat}, (∀ i r, p i = some r → r.1 = c) → ∀ m k r, n - k = m → ff p n k = some r → r.1 = c := by
  intro p c hp m
  induction m with
  | zero => intro k r h1 h2; rw [ff_ge (by omega)] at h2; cases h2
  | succ m ih =>
   intro k r h1 h2
   rw [ff_lt (by omega)] at h2
   cases hk : p k with
   | some x => rw [hk] at h2; cases h2; exact hp k _ hk
   | none => rw [hk] at h2; exact ih (k + 1) r (by omega) h2
 have c1 : ∀ r, vio1 n f = some r → r.1 = 1 := fun r hr => hff (c := 1) (fun i r h => by split at h <;> cases h; rfl) n 0 r rfl hr
 have c2 : ∀ r, vio2 n f = some r → r.1 = 2 := fun r hr => hff (c := 2) (fun i r h => hff (c := 2) (fun i r h => by unfold vio2a at h; split at h <;> cases h; rfl) _ _ r rfl h) n 0 r rfl hr
 have c3 : ∀ r, vio3 n f = some r → r.1 = 3 := fun r hr => hff (c := 3) (fun i r h => hff (c := 3) (fun i r h => hff (c := 3) (fun i r h => by unfold vio3a at h; split at h <;> cases h; rfl) _ _ r rfl h) _ _ r rfl h) n 0 r rfl hr
 unfold vio at h
 cases h1 : vio1 n f with
 | some r => rw [h1] at h; have := c1 r h1; simp [this] at h
 | none =>
  rw [h1] at h
  cases h2 : vio2 n f with
  | some r => rw [h2] at h; have := c2 r h2; simp [this] at h
  | none =>
   rw [h2] at h
   cases h3 : vio3 n f with
   | some r => rw [h3] at h; have := c3 r h3; simp [this] at h
   | none =>
    rw [h3] at h
    cases hb : bot n f with
    | none => rw [hb] at h; simp at h
    | some z =>
     obtain ⟨z1, z2⟩ := bot_some hb
     have comm : ∀ i j, i < j → j < n → f i j = f j i := fun i j hi hj => by
      have := ff_none.1 (ff_none.1 h2 i (Nat.zero_le _) (by omega)) j (by omega) hj
      unfold vio2a at this
      split at this
      ·assumption
      cases this
     have idem : ∀ i, i < n → f i i = i := fun i hi => by
      have := ff_none.1 h1 i (Nat.zero_le _) hi
      split at this
      ·assumption
      cases this
     have assoc : ∀ i j k, i < n → j < n → k < n → f (f i j) k = f i (f j k) := fun i j k hi hj hk => by
      have := ff_none.1 (ff_none.1 (ff_none.1 h3 i (Nat.zero_le _) hi) j (Nat.zero_le _) hj) k (Nat.zero_le _) hk
      unfold vio3a at this
      split at this
      ·assumption
      cases this
     refine ⟨z, rfl, hlt, idem, fun i j hi hj => ?_, assoc, z1, fun i hi => (neu_iff.1 z2 i hi).1⟩
     rcases Nat.lt_trichotomy i j with h | h | h
     ·exact comm i j h hj
     ·rw [h]
     ·exact (comm j i h hi).symm

namespace LatF
variable (L : LatF n f z)
include L
theorem le_trans {i j k : Nat} (hi : i < n) (hj : j < n) (hk : k < n) (h1 : f i j = j) (h2 : f j k = k) : f i k = k := by
 rw [← h2, ← L.assoc i j k hi hj hk, h1]
theorem le_anti {i j : Nat} (hi : i < n) (hj : j < n) (h1 : f i j = j) (h2 : f j i = i) : i = j := by
 rw [← h2, L.comm j i hj hi, h1]
theorem below_iff {i j : Nat} : below f i j = true ↔ i ≠ j ∧ f i j = j := by
 have := L
 simp [below]
/-! ### meets -/
/-! ### heights: how many elements are at most i -/
end LatF
def dn (n : Nat) (f : Nat → Nat → Nat) (i : Nat) : Nat := (List.range n).countP fun k => f k i == i
theorem countP_lt {α : Type} {p q : α → Bool} : ∀ {l : List α}, (∀ x ∈ l, p x = true → q x = true) → (∃ x ∈ l, q x = true ∧ p x = false) → l.countP p < l.countP q
 | [], _, ⟨_, h, _⟩ => by cases h
 | a :: l, h1, ⟨x, hx, h2, h3⟩ => by
  have hle : l.countP p ≤ l.countP q := List.countP_mono_left fun x hx => h1 x (.tail _ hx)
  rw [List.countP_cons, List.countP_cons]
  cases hx with
  | head => rw [h2, h3]; simp; omega
  | tail _ hx =>
   have ih := countP_lt (fun x hx => h1 x (.tail _ hx)) ⟨x, hx, h2, h3⟩
   have h4 := h1 a (.head _)
   cases hp : p a with
   | true => rw [h4 hp]; simp; omega
   | false => cases q a <;> simp <;> omega
namespace LatF
variable (L : LatF n f z)
include L
theorem dn_lt {i j : Nat} (hi : i < n) (hj : j < n) (h : below f i j = true) : dn n f i < dn n f j := by
 rw [L.below_iff] at h
 refine countP_lt (fun k hk hki => ?_) ⟨j, List.mem_range.2 hj, by simp [L.idem j hj], ?_⟩
 ·simp only [beq_iff_eq] at *
  exact L.le_trans (List.mem_range.1 hk) hi hj hki h.2
 simp only [beq_eq_false_iff_ne, ne_eq]
 intro e
 exact h.1 (L.le_anti hi hj h.2 e)
theorem dn_le (i : Nat) : dn n f i ≤ n := by
 have := L
 have h := List.countP_le_length (p := fun k => f k i == i) (l := List.range n)
 rwa [List.length_range] at h
/-! ### covers -/
theorem cov_iff {i j : Nat} : cov n f i j = true ↔ below f i j = true ∧ ∀ k, k < n → ¬ (below f i k = true ∧ below f k j = true) := by
 have := L
 simp only [cov, Bool.and_eq_true, List.all_eq_true, List.mem_range, Bool.not_eq_true', Bool.and_eq_false_iff]
 refine and_congr_right fun _ => forall_congr' fun k => forall_congr' fun _ => ?_
 cases below f i k <;> cases below f k j <;> simp
end LatF
namespace LatF
variable (L : LatF n f z)
include L
end LatF
end Go.Proofs.YtaecccdkjmipeaaGreat

namespace Go.Proofs.YtaecccdkjmipeaaGreat
open Go.RowKit
variable {n : Nat} {f : Nat → Nat → Nat} {z : Nat}
namespace LatF
variable (L : LatF n f z)
include L
end LatF
namespace LatF
variable (L : LatF n f z)
include L
end LatF
end Go.Proofs.YtaecccdkjmipeaaGreat

namespace Go.Proofs.YtaecccdkjmipeaaGreat
open Go.RowKit

/-- the greatest of a list, at least m -/
def maxL (m : Nat) (l : List Nat) : Nat := l.foldl max m
theorem maxL_le {m : Nat} {l : List Nat} {b : Nat} : maxL m l ≤ b ↔ m ≤ b ∧ ∀ x ∈ l, x ≤ b := by
 induction l generalizing m with
 | nil => simp [maxL]
 | cons a l ih =>
  show maxL (max m a) l ≤ b ↔ _
  rw [ih]
  simp only [Nat.max_le, List.mem_cons, forall_eq_or_imp, and_assoc]
/-- the number of steps of a longest chain of covers up to j, of at most k steps -/
def hK (n : Nat) (f : Nat → Nat → Nat) : Nat → Nat → Nat
 | 0, _ => 0
 | k + 1, j => maxL 0 (((List.range n).filter fun i => cov n f i j).map fun i => hK n f k i + 1)
def hF (n : Nat) (f : Nat → Nat → Nat) (j : Nat) : Nat := hK n f n j
def hgt (n : Nat) (f : Nat → Nat → Nat) : Nat := maxL 0 ((List.range n).map (hF n f))
variable {n : Nat} {f : Nat → Nat → Nat} {z : Nat}
theorem hK_le {k j b : Nat} : hK n f (k + 1) j ≤ b ↔ ∀ i, i < n → cov n f i j = true → hK n f k i + 1 ≤ b := by
 rw [hK, maxL_le]
 simp only [Nat.zero_le, true_and, List.mem_map, List.mem_filter, List.mem_range]
 refine ⟨fun h i hi hc => h _ ⟨i, ⟨hi, hc⟩, rfl⟩, ?_⟩
 rintro h x ⟨i, ⟨hi, hc⟩, rfl⟩
 exact h i hi hc
theorem hK_ge {k i j : Nat} (hi : i < n) (hc : cov n f i j = true) : hK n f k i + 1 ≤ hK n f (k + 1) j := hK_le.1 (Nat.le_refl _) i hi hc
namespace LatF
variable (L : LatF n f z)
include L
theorem dn_pos {i : Nat} (hi : i < n) : 0 < dn n f i := by
 refine List.countP_pos_iff.2 ⟨i, List.mem_range.2 hi, ?_⟩
 simp [L.idem i hi]
theorem hK_stable : ∀ (k j : Nat), j < n → dn n f j ≤ k + 1 → hK n f (k + 1) j = hK n f k j
 | 0, j, hj, h => by
  refine Nat.le_antisymm (hK_le.2 fun i hi hc => ?_) (Nat.zero_le _)
  have h1 := L.dn_lt hi hj (L.cov_iff.1 hc).1
  have h2 := L.dn_pos hi
  omega
 | k + 1, j, hj, h => by
  rw [hK, hK]
  congr 1
  refine List.map_congr_left fun i hi => ?_
  obtain ⟨h1, h2⟩ := List.mem_filter.1 hi
  have h3 := L.dn_lt (List.mem_range.1 h1) hj (L.cov_iff.1 h2).1
  rw [hK_stable k i (List.mem_range.1 h1) (by omega)]
theorem hF_step {i j : Nat} (hi : i < n) (hj : j < n) (hc : cov n f i j = true) : hF n f i + 1 ≤ hF n f j := by
 unfold hF
 rw [← L.hK_stable n j hj (by have := L.dn_le j; omega)]
 exact hK_ge hi hc
omit L in
/-- a rank that no cover contradicts is at least the height -/
theorem hF_least {r : Nat → Nat} (h : ∀ i j, i < n → j < n → cov n f i j = true → r i + 1 ≤ r j) : ∀ j, j < n → hF n f j ≤ r j := by
 have key : ∀ k j, j < n → hK n f k j ≤ r j := by
  intro k
  induction k with
  | zero => intro j _; exact Nat.zero_le _
  | succ k ih =>
   intro j hj
   refine hK_le.2 fun i hi hc => ?_
   have := ih i hi
   have := h i j hi hj hc
   omega
 exact fun j hj => key n j hj
theorem hF_lt {j : Nat} (hj : j < n) : hF n f j < n := by
 have h := hF_least (r := fun j => dn n f j - 1) (fun i j hi hj hc => by
  have h1 := L.dn_lt hi hj (L.cov_iff.1 hc).1
  have h2 := L.dn_pos hi
  show dn n f i - 1 + 1 ≤ dn n f j - 1
  omega) j hj
 have h2 := L.dn_pos hj
 have h3 := L.dn_le j
 omega
end LatF
end Go.Proofs.YtaecccdkjmipeaaGreat

namespace Go.Proofs.YtaecccdkjmipeaaGreat
open Go.RowKit
variable {n : Nat} {f : Nat → Nat → Nat} {z : Nat}
namespace LatF
variable (L : LatF n f z)
include L
end LatF
end Go.Proofs.YtaecccdkjmipeaaGreat

namespace Go.Proofs.YtaecccdkjmipeaaGreat
open Go.RowKit
variable {n : Nat} {f : Nat → Nat → Nat} {z : Nat}
namespace LatF
variable (L : LatF n f z)
include L
end LatF
namespace LatF
variable (L : LatF n f z) (hz : bot n f = some z)
include L hz
end LatF
end Go.Proofs.YtaecccdkjmipeaaGreat
