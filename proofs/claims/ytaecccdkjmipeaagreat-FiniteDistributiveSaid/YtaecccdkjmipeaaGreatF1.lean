/-
  Plain: tables as functions, first found, the words of the pr
-/
import Derived.Test.YtaecccdkjmipeaaGreatA4
namespace Go.Proofs.YtaecccdkjmipeaaGreat
open Go.RowKit
def XD (n : Nat) (f : Nat → Nat → Nat) : List (List Int) := (List.range n).map fun i => (List.range n).map fun j => (f i j : Int)
def isT (T : List (List Int)) : Bool := !(decide (T.length < 1) || decide (T.length > 256)) && T.all fun r => r.length == T.length && r.all fun x => !(decide (x < 0) || decide (x ≥ (T.length : Int)))
structure KP (T : List (List Int)) (n : Nat) (f : Nat → Nat → Nat) : Prop where
 eq : T = XD n f
 pos : 1 ≤ n
 le : n ≤ 256
 lt : ∀ i j, i < n → j < n → f i j < n
theorem Qu7 {T : List (List Int)} (h : isT T = true) : ∃ n f, KP T n f := by
 simp only [isT, Bool.and_eq_true, Bool.not_eq_true', Bool.or_eq_false_iff, decide_eq_false_iff_not, List.all_eq_true, beq_iff_eq] at h
 obtain ⟨⟨h1, h2⟩, h3⟩ := h
 refine ⟨T.length, fun i j => (((T[i]?).getD [])[j]?.getD 0).toNat, ?_, by omega, by omega, fun i j hi hj => ?_⟩
 ·refine List.ext_getElem (by simp [XD]) fun i hi _ => ?_
  have hr := h3 T[i] (List.getElem_mem hi)
  simp only [XD, List.getElem_map, List.getElem_range]
  refine List.ext_getElem (by simp [hr.1]) fun j hj _ => ?_
  have hx := hr.2 T[i][j] (List.getElem_mem hj)
  simp only [List.getElem_map, List.getElem_range, List.getElem?_eq_getElem hi, List.getElem?_eq_getElem hj, Option.getD_some]
  omega
 have hr := h3 T[i] (List.getElem_mem hi)
 have hj' : j < T[i].length := by rw [hr.1]; exact hj
 have hx := hr.2 T[i][j] (List.getElem_mem hj')
 simp only [List.getElem?_eq_getElem hi, List.getElem?_eq_getElem hj', Option.getD_some]
 omega
theorem KP.is {T : List (List Int)} {n : Nat} {f : Nat → Nat → Nat} (h : KP T n f) : isT T = true := by
 have hl : T.length = n := by rw [h.eq]; simp [XD]
 simp only [isT, Bool.and_eq_true, Bool.not_eq_true', Bool.or_eq_false_iff, decide_eq_false_iff_not, List.all_eq_true, beq_iff_eq, hl]
 refine ⟨⟨by have := h.pos; omega, by have := h.le; omega⟩, fun r hr => ?_⟩
 rw [h.eq, XD, List.mem_map] at hr
 obtain ⟨i, hi, rfl⟩ := hr
 refine ⟨by simp, fun x hx => ?_⟩
 rw [List.mem_map] at hx
 obtain ⟨j, hj, rfl⟩ := hx
 have := h.lt i j (List.mem_range.1 hi) (List.mem_range.1 hj)
 omega
def ff {α : Type} (p : Nat → Option α) (n k : Nat) : Option α := (List.range' k (n - k)).findSome? p
section
variable {α : Type} {p : Nat → Option α} {n k : Nat}
theorem Qa6 (h : k < n) : ff p n k = (p k).or (ff p n (k + 1)) := by
 unfold ff
 rw [show n - k = (n - (k + 1)) + 1 by omega, List.range'_succ, List.findSome?_cons]
 cases p k <;> rfl
theorem Qjs (h : n ≤ k) : ff p n k = none := by
 unfold ff
 rw [show n - k = 0 by omega]; rfl
theorem KH : ff p n k = none ↔ ∀ i, k ≤ i → i < n → p i = none := by
 unfold ff
 rw [List.findSome?_eq_none_iff]
 refine ⟨fun h i h1 h2 => h i (List.mem_range'_1.2 (by omega)), fun h x hx => ?_⟩
 have := List.mem_range'_1.1 hx
 exact h x this.1 (by omega)
end
variable (n : Nat) (f : Nat → Nat → Nat)
def neu (b k : Nat) : Bool := (List.range k).all fun i => f b i == i && f i b == i
theorem QbS (b k : Nat) : neu f b (k + 1) = (neu f b k && (f b k == k && f k b == k)) := by
 unfold neu
 rw [List.range_succ, List.all_append]
 simp
def bot : Option Nat := ff (fun b => if neu f b n then some b else none) n 0
def Qiq : Option (Nat × Nat × Nat × Nat) := ff (fun a => if f a a = a then none else some (1, a, 0, 0)) n 0
def Qbo (a : Nat) (b : Nat) : Option (Nat × Nat × Nat × Nat) := if f a b = f b a then none else some (2, a, b, 0)
def Qhk : Option (Nat × Nat × Nat × Nat) := ff (fun a => ff (Qbo f a) n (a + 1)) n 0
def Wq (a b c : Nat) : Option (Nat × Nat × Nat × Nat) := if f (f a b) c = f a (f b c) then none else some (3, a, b, c)
def Qgf : Option (Nat × Nat × Nat × Nat) := ff (fun a => ff (fun b => ff (Wq f a b) n 0) n 0) n 0
def vio : Nat × Nat × Nat × Nat := (((Qiq n f).or (Qhk n f)).or (Qgf n f)).getD (if bot n f = none then (4, 0, 0, 0) else (0, 0, 0, 0))
def JT (i j : Nat) : Bool := !(i == j) && f i j == j
def cov (i j : Nat) : Bool := JT f i j && (List.range n).all fun k => !(JT f i k && JT f k j)
def Qiu (i : Nat) : List (Nat × Nat) := ((List.range n).filter (cov n f i)).map fun j => (i, j)
def Y0 : List (Nat × Nat) := (List.range n).flatMap (Qiu n f)
def Qat (z i j k : Nat) : Nat := (List.range k).foldl (fun m k => if f k i = i ∧ f k j = j then f m k else m) z
theorem KK (z i j k : Nat) : Qat f z i j (k + 1) = if f k i = i ∧ f k j = j then f (Qat f z i j k) k else Qat f z i j k := by
 unfold Qat
 rw [List.range_succ, List.foldl_append]; rfl
def XZ (i j : Nat) : Nat := Qat f ((bot n f).getD 0) i j n
def Qa2 (L : List (Nat × Nat)) (i : Nat) : Nat := L.countP fun e => e.2 == i
def Qbc : List Nat := (List.range n).filter fun i => Qa2 (Y0 n f) i == 1
def Qde (m : Nat → Nat → Nat) (i j k : Nat) : Bool := m i (f j k) == f (m i j) (m i k)
def QaM : Bool := (List.range n).all fun i => (List.range n).all fun j => (List.range n).all fun k => Qde f (XZ n f) i j k
structure KI (n : Nat) (f : Nat → Nat → Nat) (z : Nat) : Prop where
 lt : ∀ i j, i < n → j < n → f i j < n
 idem : ∀ i, i < n → f i i = i
 comm : ∀ i j, i < n → j < n → f i j = f j i
 assoc : ∀ i j k, i < n → j < n → k < n → f (f i j) k = f i (f j k)
 zlt : z < n
 zl : ∀ i, i < n → f z i = i
variable {n : Nat} {f : Nat → Nat → Nat} {z : Nat}
theorem Qoo {b k : Nat} : neu f b k = true ↔ ∀ i, i < k → f b i = i ∧ f i b = i := by
 simp [neu]
theorem QhP {b : Nat} (h : bot n f = some b) : b < n ∧ neu f b n = true := by
 have key : ∀ m k, n - k = m → ff (fun b => if neu f b n then some b else none) n k = some b → b < n ∧ neu f b n = true := by
  intro m
  induction m with
  | zero => intro k h1 h2; rw [Qjs (by omega)] at h2; cases h2
  | succ m ih =>
   intro k h1 h2
   rw [Qa6 (by omega)] at h2
   by_cases hk : neu f k n = true
   ·rw [if_pos hk] at h2
    cases h2
    exact ⟨by omega, hk⟩
   rw [if_neg hk] at h2
   exact ih (k + 1) (by omega) h2
 exact key n 0 rfl h
theorem QbL (hlt : ∀ i j, i < n → j < n → f i j < n) (h : (vio n f).1 = 0) : ∃ z, bot n f = some z ∧ KI n f z := by
 have hff : ∀ {p : Nat → Option (Nat × Nat × Nat × Nat)} {c : Nat}, (∀ i r, p i = some r → r.1 = c) → ∀ m k r, n - k = m → ff p n k = some r → r.1 = c := by
  intro p c hp m
  induction m with
  | zero => intro k r h1 h2; rw [Qjs (by omega)] at h2; cases h2
  | succ m ih =>
   intro k r h1 h2
   rw [Qa6 (by omega)] at h2
   cases hk : p k with
   | some x => rw [hk] at h2; cases h2; exact hp k _ hk
   | none => rw [hk] at h2; exact ih (k + 1) r (by omega) h2
 have c1 : ∀ r, Qiq n f = some r → r.1 = 1 := fun r hr => hff (c := 1) (fun i r h => by split at h <;> cases h; rfl) n 0 r rfl hr
 have c2 : ∀ r, Qhk n f = some r → r.1 = 2 := fun r hr => hff (c := 2) (fun i r h => hff (c := 2) (fun i r h => by unfold Qbo at h; split at h <;> cases h; rfl) _ _ r rfl h) n 0 r rfl hr
 have c3 : ∀ r, Qgf n f = some r → r.1 = 3 := fun r hr => hff (c := 3) (fun i r h => hff (c := 3) (fun i r h => hff (c := 3) (fun i r h => by unfold Wq at h; split at h <;> cases h; rfl) _ _ r rfl h) _ _ r rfl h) n 0 r rfl hr
 unfold vio at h
 cases h1 : Qiq n f with
 | some r => rw [h1] at h; have := c1 r h1; simp [this] at h
 | none =>
  rw [h1] at h
  cases h2 : Qhk n f with
  | some r => rw [h2] at h; have := c2 r h2; simp [this] at h
  | none =>
   rw [h2] at h
   cases h3 : Qgf n f with
   | some r => rw [h3] at h; have := c3 r h3; simp [this] at h
   | none =>
    rw [h3] at h
    cases hb : bot n f with
    | none => rw [hb] at h; simp at h
    | some z =>
     obtain ⟨z1, z2⟩ := QhP hb
     have comm : ∀ i j, i < j → j < n → f i j = f j i := fun i j hi hj => by
      have := KH.1 (KH.1 h2 i (Nat.zero_le _) (by omega)) j (by omega) hj
      unfold Qbo at this
      split at this
      ·assumption
      cases this
     have idem : ∀ i, i < n → f i i = i := fun i hi => by
      have := KH.1 h1 i (Nat.zero_le _) hi
      split at this
      ·assumption
      cases this
     have assoc : ∀ i j k, i < n → j < n → k < n → f (f i j) k = f i (f j k) := fun i j k hi hj hk => by
      have := KH.1 (KH.1 (KH.1 h3 i (Nat.zero_le _) hi) j (Nat.zero_le _) hj) k (Nat.zero_le _) hk
      unfold Wq at this
      split at this
      ·assumption
      cases this
     refine ⟨z, rfl, hlt, idem, fun i j hi hj => ?_, assoc, z1, fun i hi => (Qoo.1 z2 i hi).1⟩
     rcases Nat.lt_trichotomy i j with h | h | h
     ·exact comm i j h hj
     ·rw [h]
     ·exact (comm j i h hi).symm
namespace KI
variable (L : KI n f z)
include L
theorem le_trans {i j k : Nat} (hi : i < n) (hj : j < n) (hk : k < n) (h1 : f i j = j) (h2 : f j k = k) : f i k = k := by
 rw [← h2, ← L.assoc i j k hi hj hk, h1]
theorem le_anti {i j : Nat} (hi : i < n) (hj : j < n) (h1 : f i j = j) (h2 : f j i = i) : i = j := by
 rw [← h2, L.comm j i hj hi, h1]
theorem join_le {i j k : Nat} (hi : i < n) (hj : j < n) (hk : k < n) (h1 : f i k = k) (h2 : f j k = k) : f (f i j) k = k := by
 rw [L.assoc i j k hi hj hk, h2, h1]
theorem le_join {i j : Nat} (hi : i < n) (hj : j < n) : f i (f i j) = f i j := by
 rw [← L.assoc i i j hi hi hj, L.idem i hi]
theorem le_join2 {i j : Nat} (hi : i < n) (hj : j < n) : f j (f i j) = f i j := by
 rw [L.comm i j hi hj]; exact L.le_join hj hi
theorem below_iff {i j : Nat} : JT f i j = true ↔ i ≠ j ∧ f i j = j := by
 have := L
 simp [JT]
theorem below_trans {i j k : Nat} (hi : i < n) (hj : j < n) (hk : k < n) (h1 : JT f i j = true) (h2 : JT f j k = true) : JT f i k = true := by
 rw [L.below_iff] at *
 refine ⟨fun e => ?_, L.le_trans hi hj hk h1.2 h2.2⟩
 subst e
 exact h1.1 (L.le_anti hi hj h1.2 h2.2)
theorem meetK_spec {i j : Nat} (hi : i < n) (hj : j < n) : ∀ k, k ≤ n → Qat f z i j k < n ∧ f (Qat f z i j k) i = i ∧ f (Qat f z i j k) j = j ∧ ∀ q, q < k → f q i = i → f q j = j → f q (Qat f z i j k) = Qat f z i j k
 | 0, _ => ⟨L.zlt, L.zl i hi, L.zl j hj, fun q hq => by omega⟩
 | k + 1, hk => by
  obtain ⟨h1, h2, h3, h4⟩ := meetK_spec hi hj k (by omega)
  rw [KK]
  by_cases hc : f k i = i ∧ f k j = j
  ·rw [if_pos hc]
   refine ⟨L.lt _ _ h1 (by omega), L.join_le h1 (by omega) hi h2 hc.1, L.join_le h1 (by omega) hj h3 hc.2, fun q hq g1 g2 => ?_⟩
   rcases Nat.lt_or_ge q k with h | h
   ·exact L.le_trans (by omega) h1 (L.lt _ _ h1 (by omega)) (h4 q h g1 g2) (L.le_join h1 (by omega))
   have : q = k := by omega
   subst this
   exact L.le_join2 h1 (by omega)
  rw [if_neg hc]
  refine ⟨h1, h2, h3, fun q hq g1 g2 => ?_⟩
  rcases Nat.lt_or_ge q k with h | h
  ·exact h4 q h g1 g2
  have : q = k := by omega
  subst this
  exact absurd ⟨g1, g2⟩ hc
end KI
def dn (n : Nat) (f : Nat → Nat → Nat) (i : Nat) : Nat := (List.range n).countP fun k => f k i == i
theorem Qdm {α : Type} {p q : α → Bool} : ∀ {l : List α}, (∀ x ∈ l, p x = true → q x = true) → (∃ x ∈ l, q x = true ∧ p x = false) → l.countP p < l.countP q
 | [], _, ⟨_, h, _⟩ => by cases h
 | a :: l, h1, ⟨x, hx, h2, h3⟩ => by
  have hle : l.countP p ≤ l.countP q := List.countP_mono_left fun x hx => h1 x (.tail _ hx)
  rw [List.countP_cons, List.countP_cons]
  cases hx with
  | head => rw [h2, h3]; simp; omega
  | tail _ hx =>
   have ih := Qdm (fun x hx => h1 x (.tail _ hx)) ⟨x, hx, h2, h3⟩
   have h4 := h1 a (.head _)
   cases hp : p a with
   | true => rw [h4 hp]; simp; omega
   | false => cases q a <;> simp <;> omega
namespace KI
variable (L : KI n f z)
include L
theorem dn_lt {i j : Nat} (hi : i < n) (hj : j < n) (h : JT f i j = true) : dn n f i < dn n f j := by
 rw [L.below_iff] at h
 refine Qdm (fun k hk hki => ?_) ⟨j, List.mem_range.2 hj, by simp [L.idem j hj], ?_⟩
 ·simp only [beq_iff_eq] at *
  exact L.le_trans (List.mem_range.1 hk) hi hj hki h.2
 simp only [beq_eq_false_iff_ne, ne_eq]
 intro e
 exact h.1 (L.le_anti hi hj h.2 e)
theorem dn_le (i : Nat) : dn n f i ≤ n := by
 have := L
 have h := List.countP_le_length (p := fun k => f k i == i) (l := List.range n)
 rwa [List.length_range] at h
theorem cov_iff {i j : Nat} : cov n f i j = true ↔ JT f i j = true ∧ ∀ k, k < n → ¬ (JT f i k = true ∧ JT f k j = true) := by
 have := L
 simp only [cov, Bool.and_eq_true, List.all_eq_true, List.mem_range, Bool.not_eq_true', Bool.and_eq_false_iff]
 refine and_congr_right fun _ => forall_congr' fun k => forall_congr' fun _ => ?_
 cases JT f i k <;> cases JT f k j <;> simp
theorem cov_last {i j : Nat} (hi : i < n) (hj : j < n) (h : JT f i j = true) : ∃ k, k < n ∧ (k = i ∨ JT f i k = true) ∧ cov n f k j = true := by
 have key : ∀ m i, i < n → n - dn n f i = m → JT f i j = true → ∃ k, k < n ∧ (k = i ∨ JT f i k = true) ∧ cov n f k j = true := by
  intro m
  induction m using Nat.strongRecOn with
  | _ m ih =>
   intro i hi hm h
   by_cases hc : cov n f i j = true
   ·exact ⟨i, hi, .inl rfl, hc⟩
   have : ∃ k, k < n ∧ JT f i k = true ∧ JT f k j = true := by
    rw [L.cov_iff] at hc
    rcases Classical.em (∃ k, k < n ∧ JT f i k = true ∧ JT f k j = true) with h2 | h2
    ·exact h2
    exact absurd ⟨h, fun k hk hh => h2 ⟨k, hk, hh⟩⟩ hc
   obtain ⟨k, hk, h1, h2⟩ := this
   have hd := L.dn_lt hi hk h1
   have _ := hj
   have hd2 := L.dn_le k
   obtain ⟨q, q1, q2, q3⟩ := ih (n - dn n f k) (by omega) k hk rfl h2
   refine ⟨q, q1, .inr ?_, q3⟩
   rcases q2 with q2 | q2
   ·rw [q2]; exact h1
   exact L.below_trans hi hk q1 h1 q2
 exact key _ i hi rfl h
end KI
namespace KI
variable (L : KI n f z)
include L
end KI
variable {n : Nat} {f : Nat → Nat → Nat} {z : Nat}
theorem Qqy (a i : Nat) (hi : i < n) : Qa2 (Qiu n f a) i = if cov n f a i = true then 1 else 0 := by
 unfold Qa2 Qiu
 rw [List.countP_map, List.countP_filter]
 have : ((List.range n).countP fun x => ((fun e : Nat × Nat => e.2 == i) ∘ fun j => (a, j)) x && cov n f a x) = (List.range n).countP fun x => x == i && cov n f a i := by
  refine List.countP_congr fun x _ => ?_
  simp only [Function.comp, Bool.and_eq_true, beq_iff_eq]
  refine ⟨fun ⟨h1, h2⟩ => ⟨h1, h1 ▸ h2⟩, fun ⟨h1, h2⟩ => ⟨h1, h1 ▸ h2⟩⟩
 rw [this]
 split
 ·rename_i h
  simp only [h, Bool.and_true]
  have := List.count_range (a := i) (n := n)
  rw [show (List.range n).countP (fun x => x == i) = (List.range n).count i from rfl, this, if_pos hi]
 rename_i h
 simp [h]
theorem Qso (l r : List (Nat × Nat)) (i : Nat) : Qa2 (l ++ r) i = Qa2 l i + Qa2 r i := List.countP_append
theorem QhE (i : Nat) (hi : i < n) : Qa2 (Y0 n f) i = (List.range n).countP fun a => cov n f a i := by
 unfold Y0
 generalize List.range n = l
 induction l with
 | nil => rfl
 | cons a l ih =>
  rw [List.flatMap_cons, Qso, ih, Qqy a i hi, List.countP_cons]
  omega
namespace KI
variable (L : KI n f z)
include L
theorem irr_ub : ∀ {i u : Nat}, i < n → u < n → (∀ w ∈ Qbc n f, f w i = i → f w u = u) → f i u = u := by
 have key : ∀ m i u, dn n f i = m → i < n → u < n → (∀ w ∈ Qbc n f, f w i = i → f w u = u) → f i u = u := by
  intro m
  induction m using Nat.strongRecOn with
  | _ m ih =>
   intro i u hm hi hu h
   have low : ∀ a, a < n → cov n f a i = true → f a u = u := fun a ha hc => by
    have hb := (L.cov_iff.1 hc).1
    refine ih (dn n f a) (by rw [← hm]; exact L.dn_lt ha hi hb) a u rfl ha hu fun w hw hwa => h w hw ?_
    have hwn : w < n := by
     unfold Qbc at hw
     exact List.mem_range.1 (List.mem_filter.1 hw).1
    exact L.le_trans hwn ha hi hwa (L.below_iff.1 hb).2
   by_cases h1 : Qa2 (Y0 n f) i = 1
   ·refine h i ?_ (L.idem i hi)
    unfold Qbc
    exact List.mem_filter.2 ⟨List.mem_range.2 hi, by simp [h1]⟩
   rw [QhE i hi] at h1
   by_cases hz : i = z
   ·rw [hz]; exact L.zl u hu
   have hzi : JT f z i = true := L.below_iff.2 ⟨fun e => hz e.symm, L.zl i hi⟩
   obtain ⟨a, ha, -, hca⟩ := L.cov_last L.zlt hi hzi
   have : ∃ b, b < n ∧ b ≠ a ∧ cov n f b i = true := by
    rcases Classical.em (∃ b, b < n ∧ b ≠ a ∧ cov n f b i = true) with h2 | h2
    ·exact h2
    refine absurd ?_ h1
    have e : (List.range n).countP (fun a => cov n f a i) = (List.range n).count a := by
     refine List.countP_congr fun x hx => ?_
     rw [beq_iff_eq]
     refine ⟨fun hc => ?_, fun e => by rw [e]; exact hca⟩
     rcases Nat.decEq x a with h3 | h3
     ·exact absurd ⟨x, List.mem_range.1 hx, h3, hc⟩ h2
     exact h3
    rw [e, List.count_range, if_pos ha]
   obtain ⟨b, hb, hba, hcb⟩ := this
   have ka := (L.cov_iff.1 hca)
   have kb := (L.cov_iff.1 hcb)
   have la := L.below_iff.1 ka.1
   have lb := L.below_iff.1 kb.1
   have hab := L.lt a b ha hb
   have hj : f a b = i := by
    rcases Nat.decEq (f a b) i with hne | e
    ·-- a < a ∨ b < i or b < i contradict
     exfalso
     have hji : f (f a b) i = i := L.join_le ha hb hi la.2 lb.2
     have h3 : JT f (f a b) i = true := L.below_iff.2 ⟨hne, hji⟩
     rcases Nat.decEq a (f a b) with h4 | h4
     ·exact ka.2 _ hab ⟨L.below_iff.2 ⟨h4, L.le_join ha hb⟩, h3⟩
     have h5 : f b a = a := by rw [L.comm b a hb ha]; exact h4.symm
     exact kb.2 a ha ⟨L.below_iff.2 ⟨hba, h5⟩, ka.1⟩
    exact e
   rw [← hj]
   exact L.join_le ha hb hu (low a ha hca) (low b hb hcb)
 exact fun {i u} hi hu h => key _ i u rfl hi hu h
end KI
namespace KI
variable (L : KI n f z)
include L
end KI
def QdO (m : Nat) (l : List Nat) : Nat := l.foldl max m
theorem QjC {m : Nat} {l : List Nat} {b : Nat} : QdO m l ≤ b ↔ m ≤ b ∧ ∀ x ∈ l, x ≤ b := by
 induction l generalizing m with
 | nil => simp [QdO]
 | cons a l ih =>
  show QdO (max m a) l ≤ b ↔ _
  rw [ih]
  simp only [Nat.max_le, List.mem_cons, forall_eq_or_imp, and_assoc]
theorem QtH {m : Nat} {l : List Nat} : m ≤ QdO m l ∧ ∀ x ∈ l, x ≤ QdO m l := QjC.1 (Nat.le_refl _)
def hK (n : Nat) (f : Nat → Nat → Nat) : Nat → Nat → Nat
 | 0, _ => 0
 | k + 1, j => QdO 0 (((List.range n).filter fun i => cov n f i j).map fun i => hK n f k i + 1)
def hF (n : Nat) (f : Nat → Nat → Nat) (j : Nat) : Nat := hK n f n j
def hgt (n : Nat) (f : Nat → Nat → Nat) : Nat := QdO 0 ((List.range n).map (hF n f))
variable {n : Nat} {f : Nat → Nat → Nat} {z : Nat}
theorem QsI {k j b : Nat} : hK n f (k + 1) j ≤ b ↔ ∀ i, i < n → cov n f i j = true → hK n f k i + 1 ≤ b := by
 rw [hK, QjC]
 simp only [Nat.zero_le, true_and, List.mem_map, List.mem_filter, List.mem_range]
 refine ⟨fun h i hi hc => h _ ⟨i, ⟨hi, hc⟩, rfl⟩, ?_⟩
 rintro h x ⟨i, ⟨hi, hc⟩, rfl⟩
 exact h i hi hc
theorem QwL {k i j : Nat} (hi : i < n) (hc : cov n f i j = true) : hK n f k i + 1 ≤ hK n f (k + 1) j := QsI.1 (Nat.le_refl _) i hi hc
namespace KI
variable (L : KI n f z)
include L
theorem dn_pos {i : Nat} (hi : i < n) : 0 < dn n f i := by
 refine List.countP_pos_iff.2 ⟨i, List.mem_range.2 hi, ?_⟩
 simp [L.idem i hi]
theorem hK_stable : ∀ (k j : Nat), j < n → dn n f j ≤ k + 1 → hK n f (k + 1) j = hK n f k j
 | 0, j, hj, h => by
  refine Nat.le_antisymm (QsI.2 fun i hi hc => ?_) (Nat.zero_le _)
  have h1 := L.dn_lt hi hj (L.cov_iff.1 hc).1
  have h2 := L.dn_pos hi
  omega
 | k + 1, j, hj, h => by
  rw [hK, hK]
  congr 1
  refine List.map_congr_left fun i hi => ?_
  obtain ⟨h1, h2⟩ := List.mem_filter.1 hi
  have h3 := L.dn_lt (List.mem_range.1 h1) hj (L.cov_iff.1 h2).1
  rw [hK_stable k i (List.mem_range.1 h1) (by omega)]
theorem hF_step {i j : Nat} (hi : i < n) (hj : j < n) (hc : cov n f i j = true) : hF n f i + 1 ≤ hF n f j := by
 unfold hF
 rw [← L.hK_stable n j hj (by have := L.dn_le j; omega)]
 exact QwL hi hc
omit L in
theorem hF_least {r : Nat → Nat} (h : ∀ i j, i < n → j < n → cov n f i j = true → r i + 1 ≤ r j) : ∀ j, j < n → hF n f j ≤ r j := by
 have key : ∀ k j, j < n → hK n f k j ≤ r j := by
  intro k
  induction k with
  | zero => intro j _; exact Nat.zero_le _
  | succ k ih =>
   intro j hj
   refine QsI.2 fun i hi hc => ?_
   have := ih i hi
   have := h i j hi hj hc
   omega
 exact fun j hj => key n j hj
theorem hF_lt {j : Nat} (hj : j < n) : hF n f j < n := by
 have h := hF_least (r := fun j => dn n f j - 1) (fun i j hi hj hc => by
  have h1 := L.dn_lt hi hj (L.cov_iff.1 hc).1
  have h2 := L.dn_pos hi
  show dn n f i - 1 + 1 ≤ dn n f j - 1
  omega) j hj
 have h2 := L.dn_pos hj
 have h3 := L.dn_le j
 omega
end KI
variable {n : Nat} {f : Nat → Nat → Nat} {z : Nat}
namespace KI
variable (L : KI n f z)
include L
end KI
variable {n : Nat} {f : Nat → Nat → Nat} {z : Nat}
def ji (n : Nat) (f : Nat → Nat → Nat) (i : Nat) : Nat := (Qbc n f).countP fun w => f w i == i
theorem Qad {w : Nat} : w ∈ Qbc n f ↔ w < n ∧ Qa2 (Y0 n f) w = 1 := by
 unfold Qbc
 rw [List.mem_filter, List.mem_range, beq_iff_eq]
namespace KI
variable (L : KI n f z)
include L
theorem ji_lt {i j : Nat} (hi : i < n) (hj : j < n) (h : JT f i j = true) : ji n f i < ji n f j := by
 have hb := L.below_iff.1 h
 refine Qdm (fun w hw hwi => ?_) ?_
 ·simp only [beq_iff_eq] at *
  exact L.le_trans (Qad.1 hw).1 hi hj hwi hb.2
 rcases Classical.em (∃ w ∈ Qbc n f, (f w j == j) = true ∧ (f w i == i) = false) with h2 | h2
 ·exact h2
 refine absurd (L.irr_ub hj hi fun w hw hwj => ?_) (fun e => hb.1 (L.le_anti hi hj hb.2 e))
 rcases Nat.decEq (f w i) i with h3 | h3
 ·exact absurd ⟨w, hw, by simp [hwj], by simp [h3]⟩ h2
 exact h3
theorem hF_ji {j : Nat} (hj : j < n) : hF n f j ≤ ji n f j :=
 hF_least (r := ji n f) (fun _ _ hi hj hc => L.ji_lt hi hj (L.cov_iff.1 hc).1) j hj
theorem hgt_le : hgt n f ≤ (Qbc n f).length := by
 unfold hgt
 refine QjC.2 ⟨Nat.zero_le _, fun x hx => ?_⟩
 obtain ⟨j, hj, rfl⟩ := List.mem_map.1 hx
 exact Nat.le_trans (L.hF_ji (List.mem_range.1 hj)) List.countP_le_length
theorem top : ∃ u, u < n ∧ ∀ i, i < n → f i u = u := by
 have key : ∀ k, k ≤ n → ∃ u, u < n ∧ ∀ i, i < k → f i u = u := by
  intro k
  induction k with
  | zero => exact fun _ => ⟨z, L.zlt, fun i hi => by omega⟩
  | succ k ih =>
   intro hk
   obtain ⟨u, hu, h⟩ := ih (by omega)
   refine ⟨f u k, L.lt u k hu (by omega), fun i hi => ?_⟩
   rcases Nat.lt_or_ge i k with h2 | h2
   ·exact L.le_trans (by omega) hu (L.lt u k hu (by omega)) (h i h2) (L.le_join hu (by omega))
   have : i = k := by omega
   subst this
   exact L.le_join2 hu (by omega)
 exact key n (Nat.le_refl _)
theorem irr_split {w x y : Nat} (hw : w ∈ Qbc n f) (hx : x < n) (hy : y < n) (h : f x y = w) : x = w ∨ y = w := by
 obtain ⟨hwn, hl⟩ := Qad.1 hw
 rcases Nat.decEq x w with hxw | hxw
 ·rcases Nat.decEq y w with hyw | hyw
  ·exfalso
   rw [QhE w hwn] at hl
   have hxb : JT f x w = true := L.below_iff.2 ⟨hxw, by rw [← h]; exact L.le_join hx hy⟩
   have hyb : JT f y w = true := L.below_iff.2 ⟨hyw, by rw [← h]; exact L.le_join2 hx hy⟩
   obtain ⟨a, ha, a1, a2⟩ := L.cov_last hx hwn hxb
   obtain ⟨b, hb, b1, b2⟩ := L.cov_last hy hwn hyb
   have hab : a = b := by
    rcases Nat.decEq a b with hne | e
    ·exfalso
     have h1 : (List.range n).countP (fun v => cov n f v w && !(v == b)) < (List.range n).countP fun a => cov n f a w :=
      Qdm (fun v _ hv => (Bool.and_eq_true _ _ ▸ hv).1) ⟨b, List.mem_range.2 hb, b2, by simp⟩
     have h2 : 0 < (List.range n).countP (fun v => cov n f v w && !(v == b)) := List.countP_pos_iff.2 ⟨a, List.mem_range.2 ha, by simp [a2, hne]⟩
     omega
    exact e
   subst hab
   have le1 : f x a = a := by
    rcases a1 with rfl | a1
    ·exact L.idem _ hx
    exact (L.below_iff.1 a1).2
   have le2 : f y a = a := by
    rcases b1 with rfl | b1
    ·exact L.idem _ hy
    exact (L.below_iff.1 b1).2
   have h3 := L.join_le hx hy ha le1 le2
   rw [h] at h3
   have h4 := L.below_iff.1 (L.cov_iff.1 a2).1
   exact h4.1 (L.le_anti ha hwn h4.2 h3)
  exact .inr hyw
 exact .inl hxw
theorem ji_bot : ji n f z = 0 := by
 unfold ji
 rw [List.countP_eq_zero]
 intro w hw e
 simp only [beq_iff_eq] at e
 obtain ⟨hwn, hl⟩ := Qad.1 hw
 have : w = z := L.le_anti hwn L.zlt e (L.zl w hwn)
 subst this
 rw [QhE w hwn] at hl
 have hp : 0 < (List.range n).countP fun a => cov n f a w := by omega
 obtain ⟨a, ha, hc⟩ := List.countP_pos_iff.1 hp
 have han := List.mem_range.1 ha
 have h4 := L.below_iff.1 (L.cov_iff.1 hc).1
 exact h4.1 (L.le_anti han hwn h4.2 (L.zl a han))
end KI
def QqH (n : Nat) (f : Nat → Nat → Nat) : Prop := ∀ i j k, i < n → j < n → k < n → XZ n f i (f j k) = f (XZ n f i j) (XZ n f i k)
theorem W3 : QaM n f = true ↔ QqH n f := by
 simp only [QaM, Qde, List.all_eq_true, List.mem_range, beq_iff_eq, QqH]
 exact ⟨fun h i j k hi hj hk => h i hi j hj k hk, fun h i hi j hj k hk => h i j k hi hj hk⟩
namespace KI
variable (L : KI n f z) (hz : bot n f = some z)
include L hz
theorem meetF_spec {i j : Nat} (hi : i < n) (hj : j < n) : XZ n f i j < n ∧ f (XZ n f i j) i = i ∧ f (XZ n f i j) j = j ∧ ∀ q, q < n → f q i = i → f q j = j → f q (XZ n f i j) = XZ n f i j := by
 unfold XZ
 rw [hz]
 exact L.meetK_spec hi hj n (Nat.le_refl _)
theorem meet_le {i j : Nat} (hi : i < n) (hj : j < n) (h : f i j = j) : XZ n f i j = i := by
 obtain ⟨h1, h2, h3, h4⟩ := L.meetF_spec hz hi hj
 exact L.le_anti h1 hi h2 (h4 i hi (L.idem i hi) h)
theorem ji_cov (hd : QqH n f) {a b : Nat} (ha : a < n) (hb : b < n) (hc : cov n f a b = true) : ji n f b = ji n f a + 1 := by
 have hc' := L.cov_iff.1 hc
 have hab := L.below_iff.1 hc'.1
 have joins : ∀ w ∈ Qbc n f, f w b = b → f w a ≠ a → f a w = b := fun w hw hwb hwa => by
  have hwn := (Qad.1 hw).1
  have hlt := L.lt a w ha hwn
  rcases Nat.decEq (f a w) b with hne | e
  ·exfalso
   refine hc'.2 (f a w) hlt ⟨L.below_iff.2 ⟨fun e => hwa ?_, L.le_join ha hwn⟩, L.below_iff.2 ⟨hne, L.join_le ha hwn hb hab.2 hwb⟩⟩
   rw [L.comm w a hwn ha]; exact e.symm
  exact e
 have prime : ∀ p q, p ∈ Qbc n f → q ∈ Qbc n f → f p b = b → f p a ≠ a → f q b = b → f q a ≠ a → f q p = p := fun p q hp hq p1 p2 q1 q2 => by
  have hpn := (Qad.1 hp).1
  have hqn := (Qad.1 hq).1
  have e : XZ n f q (f a p) = q := by
   rw [joins p hp p1 p2]
   exact L.meet_le hz hqn hb q1
  rw [hd q a p hqn ha hpn] at e
  have s1 := L.meetF_spec hz hqn ha
  have s2 := L.meetF_spec hz hqn hpn
  rcases L.irr_split hq s1.1 s2.1 e with h | h
  ·have := s1.2.2.1; rw [h] at this; exact absurd this q2
  have := s2.2.2.1; rw [h] at this; exact this
 have uniq : ∀ p q, p ∈ Qbc n f → q ∈ Qbc n f → f p b = b → f p a ≠ a → f q b = b → f q a ≠ a → p = q := fun p q hp hq p1 p2 q1 q2 =>
  L.le_anti (Qad.1 hp).1 (Qad.1 hq).1 (prime q p hq hp q1 q2 p1 p2) (prime p q hp hq p1 p2 q1 q2)
 have hnd : (Qbc n f).Nodup := List.Pairwise.filter _ List.nodup_range
 have hlt := L.ji_lt ha hb hc'.1
 have hmono : ∀ w ∈ Qbc n f, f w a = a → f w b = b := fun w hw h => L.le_trans (Qad.1 hw).1 ha hb h hab.2
 have key : ∀ l : List Nat, l.Nodup → (∀ w ∈ l, w ∈ Qbc n f) → (l.countP fun w => f w b == b) ≤ (l.countP fun w => f w a == a) + 1 ∧ ((∀ w ∈ l, ¬ (f w b = b ∧ f w a ≠ a)) → (l.countP fun w => f w b == b) ≤ (l.countP fun w => f w a == a)) := by
  intro l
  induction l with
  | nil => exact fun _ _ => ⟨by simp, fun _ => by simp⟩
  | cons w l ih =>
   intro hn hm
   obtain ⟨i1, i2⟩ := ih (List.nodup_cons.1 hn).2 (fun v hv => hm v (.tail _ hv))
   rw [List.countP_cons, List.countP_cons]
   by_cases hw : f w b = b ∧ f w a ≠ a
   ·have hno : ∀ v ∈ l, ¬ (f v b = b ∧ f v a ≠ a) := fun v hv hh => by
     have := uniq v w (hm v (.tail _ hv)) (hm w (.head _)) hh.1 hh.2 hw.1 hw.2
     subst this
     exact (List.nodup_cons.1 hn).1 hv
    have := i2 hno
    refine ⟨?_, fun h => absurd hw (h w (.head _))⟩
    simp only [hw.1, beq_self_eq_true, if_true]
    omega
   have hle : (if (f w b == b) = true then 1 else 0) ≤ (if (f w a == a) = true then 1 else 0) := by
    by_cases h1 : f w b = b
    ·have h2 : f w a = a := by
      rcases Nat.decEq (f w a) a with h | h
      ·exact absurd ⟨h1, h⟩ hw
      exact h
     simp [h1, h2]
    simp [h1]
   refine ⟨by omega, fun h => ?_⟩
   have := i2 fun v hv => h v (.tail _ hv)
   omega
 have := (key (Qbc n f) hnd (fun _ h => h)).1
 unfold ji at *
 omega
theorem hF_dist (hd : QqH n f) : ∀ {j : Nat}, j < n → hF n f j = ji n f j := by
 have key : ∀ m j, dn n f j = m → j < n → hF n f j = ji n f j := by
  intro m
  induction m using Nat.strongRecOn with
  | _ m ih =>
   intro j hm hj
   refine Nat.le_antisymm (L.hF_ji hj) ?_
   by_cases e : j = z
   ·rw [e, L.ji_bot]; exact Nat.zero_le _
   obtain ⟨a, ha, -, hc⟩ := L.cov_last L.zlt hj (L.below_iff.2 ⟨fun h => e h.symm, L.zl j hj⟩)
   have h1 := ih (dn n f a) (by rw [← hm]; exact L.dn_lt ha hj (L.cov_iff.1 hc).1) a rfl ha
   have h2 := L.hF_step ha hj hc
   rw [L.ji_cov hz hd ha hj hc]
   omega
 exact fun {j} hj => key _ j rfl hj
theorem hgt_dist (hd : QqH n f) : hgt n f = (Qbc n f).length := by
 refine Nat.le_antisymm L.hgt_le ?_
 obtain ⟨u, hu, h⟩ := L.top
 have h1 : ji n f u = (Qbc n f).length := by
  unfold ji
  rw [List.countP_eq_length]
  intro w hw
  simp [h w (Qad.1 hw).1]
 rw [← h1, ← L.hF_dist hz hd hu]
 exact (QtH (m := 0) (l := (List.range n).map (hF n f))).2 _ (List.mem_map.2 ⟨u, List.mem_range.2 hu, rfl⟩)
end KI
end Go.Proofs.YtaecccdkjmipeaaGreat
