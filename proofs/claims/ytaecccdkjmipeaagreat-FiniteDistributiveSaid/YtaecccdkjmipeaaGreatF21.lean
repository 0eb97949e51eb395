/-
  Plain laws: least closed sets, and how all of them are reach
-/
import Derived.Test.YtaecccdkjmipeaaGreatF20
import Derived.Test.YtaecccdkjmipeaaGreatB23
import Derived.Test.YtaecccdkjmipeaaGreatC1
namespace Go.Proofs.YtaecccdkjmipeaaGreat
open Go.RowKit
def clR (rs : List Ru) (l : List Nm) : List Nm := ofN (Yt rs rs.length l)
theorem Qeb (rs : List Ru) (l : List Nm) : Qo (clR rs l) = true := Kj _
theorem Qj5 {rs : List Ru} {l : List Nm} {x : Nm} (h : x ∈ l) : x ∈ clR rs l := Kc.2 (Qh1 _ _ h)
theorem Qdt {rs : List Ru} {l c : List Nm} (hc : Xf rs c = true) (h : ∀ x ∈ l, x ∈ c) : ∀ x ∈ clR rs l, x ∈ c := fun x hx => Qha hc _ _ h x (Kc.1 hx)
theorem Qa1 {rs : List Ru} {c : List Nm} : Xf rs c = true ↔ ∀ r ∈ rs, (∀ x ∈ r.i, x ∈ c) → r.t ∈ c := by
 unfold Xf
 rw [List.all_eq_true]
 constructor
 ·intro h r hr hs
  have := h r hr
  unfold Yi at this
  rw [Jf.2 hs] at this
  simp at this
  exact Jb.1 this
 intro h r hr
 unfold Yi
 cases hs : JR r.i c with
 | false => rfl
 | true => rw [Jb.2 (h r hr (Jf.1 hs))]; rfl
theorem Qmu {rs : List Ru} {a b : List Nm} (h : ∀ x, x ∈ a ↔ x ∈ b) : Xf rs a = Xf rs b := by
 rw [Bool.eq_iff_iff, Qa1, Qa1]
 simp only [h]
theorem QhF (rs : List Ru) (l : List Nm) : Xf rs (clR rs l) = true := by
 have hf : Wu (Ya (Yt rs rs.length l)) rs 0 = none := Qi5
 have hn : ∀ r ∈ rs, Ya (Yt rs rs.length l) r = false := by
  have key : ∀ (q : Ru → Bool) (l : List Ru) (i : Nat), Wu q l i = none → ∀ r ∈ l, q r = false := by
   intro q l
   induction l with
   | nil => intro i _ r hr; cases hr
   | cons a l ih =>
    intro i h r hr
    unfold Wu at h
    cases ha : q a with
    | true => rw [ha] at h; simp at h
    | false =>
     rw [ha] at h
     rcases List.mem_cons.1 hr with rfl | hr
     ·exact ha
     exact ih (i + 1) (by simpa using h) r hr
  exact key _ _ _ hf
 rw [show Xf rs (clR rs l) = Xf rs (Yt rs rs.length l) from Qmu fun x => Kc, Qa1]
 intro r hr hs
 have := hn r hr
 unfold Ya at this
 rw [Jf.2 hs] at this
 simp at this
 exact Jb.1 this
theorem Qu8 {rs : List Ru} {l out : List Nm} (h1 : Qo out = true) (h2 : ∀ x ∈ l, x ∈ out) (h3 : Xf rs out = true) (h4 : ∀ c, Xf rs c = true → (∀ x ∈ l, x ∈ c) → ∀ x ∈ out, x ∈ c) : out = clR rs l :=
 W8 h1 (Qeb rs l) fun x => ⟨h4 _ (QhF rs l) (fun _ hy => Qj5 hy) x, Qdt h3 h2 x⟩
theorem QjO {out : List Nm} {t : Nm} (hs : Qo out = true) (ht : t ∉ out) : (ofN (out ++ [t])).length = out.length + 1 := by
 have hn : (out ++ [t]).Nodup := List.nodup_append.2 ⟨Kp hs, by simp, fun a ha b hb e => by rw [List.mem_singleton.1 hb] at e; subst e; exact ht ha⟩
 have := ((List.perm_ext_iff_of_nodup (Kp (Kj (out ++ [t]))) hn).2 fun x => Kc).length_eq
 rw [this]; simp
theorem Qoz (l : List Nm) : (ofN l).length ≤ l.length := by
 have key : ∀ (a b : List Nm), a.Nodup → (∀ x ∈ a, x ∈ b) → a.length ≤ b.length := by
  intro a
  induction a with
  | nil => intro b _ _; exact Nat.zero_le _
  | cons x a ih =>
   intro b hn h
   rw [List.nodup_cons] at hn
   have hx := h x (by simp)
   have := ih (b.erase x) hn.2 (fun y hy => (List.mem_erase_of_ne (fun e : y = x => hn.1 (e ▸ hy))).2 (h y (by simp [hy])))
   rw [List.length_erase_of_mem hx] at this
   have := List.length_pos_of_mem hx
   rw [List.length_cons]; omega
 exact key _ _ (Kp (Kj l)) fun x hx => Kc.1 hx
theorem QqB {rs : List Ru} {a b : List Nm} (h : ∀ x, x ∈ a ↔ x ∈ b) : Qb7 rs a = Qb7 rs b := by
 unfold Qb7
 refine List.countP_congr fun r _ => ?_
 have : Jn a r.t = Jn b r.t := by rw [Bool.eq_iff_iff, Jb, Jb, h]
 rw [this]
theorem Qi1 {rs : List Ru} {out : List Nm} {r : Ru} (hr : r ∈ rs) (h1 : r.t ∉ out) (h2 : ∀ x ∈ r.i, x ∈ out) : Qb7 rs (ofN (out ++ [r.t])) < Qb7 rs out := by
 rw [QqB (b := out ++ [r.t]) (fun x => Kc)]
 refine Qbh hr ?_
 unfold Ya
 rw [Jf.2 h2]
 have : Jn out r.t = false := by rw [Bool.eq_false_iff]; exact fun e => h1 (Jb.1 e)
 rw [this]; rfl
structure ClI (rs : List Ru) (l : List Nm) (out : List Nm) : Prop where
 sorted : Qo out = true
 sup : ∀ x ∈ l, x ∈ out
 least : ∀ c, Xf rs c = true → (∀ x ∈ l, x ∈ c) → ∀ x ∈ out, x ∈ c
 len : out.length + Qb7 rs out ≤ l.length + rs.length
theorem ClI.start (rs : List Ru) (l : List Nm) : ClI rs l (ofN l) where
 sorted := Kj l
 sup := fun _ h => Kc.2 h
 least := fun _ _ h x hx => h x (Kc.1 hx)
 len := by have := Qoz l; have := QgI (rs := rs) (t := ofN l); omega
theorem ClI.step {rs : List Ru} {l out : List Nm} (h : ClI rs l out) {r : Ru} (hr : r ∈ rs) (h1 : r.t ∉ out) (h2 : ∀ x ∈ r.i, x ∈ out) : ClI rs l (ofN (out ++ [r.t])) where
 sorted := Kj _
 sup := fun x hx => Kc.2 (List.mem_append_left _ (h.sup x hx))
 least := fun c hc hl x hx => by
  rcases List.mem_append.1 (Kc.1 hx) with hx | hx
  ·exact h.least c hc hl x hx
  rw [List.mem_singleton.1 hx]
  exact Qa1.1 hc r hr fun y hy => h.least c hc hl y (h2 y hy)
 len := by
  have := QjO h.sorted h1
  have := Qi1 hr h1 h2
  have := h.len
  omega
theorem ClI.done {rs : List Ru} {l out : List Nm} (h : ClI rs l out) (hc : rs.all (Yi out) = true) : out = clR rs l := Qu8 h.sorted h.sup hc h.least
def K0 (rs : List Ru) (s : List Nm) (x : Nm) : List Nm := clR rs (s ++ [x])
structure SuI (nm : List Nm) (rs : List Ru) (out : List (List Nm)) (i k : Nat) : Prop where
 nodup : out.Nodup
 sub : ∀ s ∈ out, s.Sublist nm ∧ Xf rs s = true
 least : clR rs [] ∈ out
 done : ∀ (j : Nat) (s : List Nm), j < i → out[j]? = some s → ∀ x ∈ nm, x ∉ s → K0 rs s x ∈ out
 part : ∀ (s : List Nm), out[i]? = some s → ∀ x ∈ nm.take k, x ∉ s → K0 rs s x ∈ out
theorem QuH {nm : List Nm} {rs : List Ru} (hn : Qo nm = true) (hr : ∀ r ∈ rs, r.t ∈ nm) {l : List Nm} (hl : ∀ x ∈ l, x ∈ nm) : (clR rs l).Sublist nm ∧ Xf rs (clR rs l) = true :=
 ⟨K3 (Qeb rs l) hn (Qdt (Qa1.2 fun r h _ => hr r h) hl), QhF rs l⟩
section
variable {nm : List Nm} {rs : List Ru} (hn : Qo nm = true) (hr : ∀ r ∈ rs, r.t ∈ nm)
include hn hr
theorem SuI.start : SuI nm rs [clR rs []] 0 0 where
 nodup := by simp
 sub := fun s hs => by rw [List.mem_singleton.1 hs]; exact QuH hn hr (by simp)
 least := by simp
 done := fun j s h => by omega
 part := fun s _ x hx => by simp at hx
omit hn hr in
theorem SuI.skip {out : List (List Nm)} {i k : Nat} {s : List Nm} {x : Nm} (h : SuI nm rs out i k) (hs : out[i]? = some s) (hx : nm[k]? = some x) (hin : x ∈ s ∨ K0 rs s x ∈ out) : SuI nm rs out i (k + 1) where
 nodup := h.nodup
 sub := h.sub
 least := h.least
 done := h.done
 part := fun s' hs' y hy hns => by
  rw [hs] at hs'; cases hs'
  rw [List.take_add_one, hx] at hy
  rcases List.mem_append.1 hy with hy | hy
  ·exact h.part s hs y hy hns
  obtain rfl : y = x := by simpa using hy
  exact hin.resolve_left hns
theorem SuI.add {out : List (List Nm)} {i k : Nat} {s : List Nm} {x : Nm} (h : SuI nm rs out i k) (hs : out[i]? = some s) (hx : nm[k]? = some x) (hnew : K0 rs s x ∉ out) : SuI nm rs (out ++ [K0 rs s x]) i (k + 1) where
 nodup := List.nodup_append.2 ⟨h.nodup, by simp, fun a ha b hb e => by rw [List.mem_singleton.1 hb] at e; subst e; exact hnew ha⟩
 sub := fun t ht => by
  rcases List.mem_append.1 ht with ht | ht
  ·exact h.sub t ht
  rw [List.mem_singleton.1 ht]
  refine QuH hn hr fun y hy => ?_
  rcases List.mem_append.1 hy with hy | hy
  ·exact (h.sub s (List.mem_of_getElem? hs)).1.subset hy
  rw [List.mem_singleton.1 hy]; exact List.mem_of_getElem? hx
 least := List.mem_append_left _ h.least
 done := fun j t hj ht y hy hny => by
  have hi := (List.getElem?_eq_some_iff.1 hs).1
  rw [List.getElem?_append_left (by omega)] at ht
  exact List.mem_append_left _ (h.done j t hj ht y hy hny)
 part := fun t ht y hy hny => by
  have hi := (List.getElem?_eq_some_iff.1 hs).1
  rw [List.getElem?_append_left hi, hs] at ht
  cases ht
  rw [List.take_add_one, hx] at hy
  rcases List.mem_append.1 hy with hy | hy
  ·exact List.mem_append_left _ (h.part s hs y hy hny)
  obtain rfl : y = x := by simpa using hy
  exact List.mem_append_right _ (by simp)
omit hn hr in
theorem SuI.next {out : List (List Nm)} {i k : Nat} (h : SuI nm rs out i k) (hk : nm.length ≤ k) : SuI nm rs out (i + 1) 0 where
 nodup := h.nodup
 sub := h.sub
 least := h.least
 done := fun j s hj hs x hx hns => by
  rcases Nat.lt_or_ge j i with hji | hji
  ·exact h.done j s hji hs x hx hns
  obtain rfl : j = i := by omega
  exact h.part s hs x (by rw [List.take_of_length_le hk]; exact hx) hns
 part := fun s _ x hx => by simp at hx
omit hr in
theorem SuI.all {out : List (List Nm)} {i k : Nat} (h : SuI nm rs out i k) (hi : out.length ≤ i) {c : List Nm} (hc : c.Sublist nm) (hcc : Xf rs c = true) : c ∈ out := by
 have key : ∀ (d : Nat) (s : List Nm), s ∈ out → (∀ x ∈ s, x ∈ c) → c.length ≤ s.length + d → c ∈ out := by
  intro d
  induction d with
  | zero =>
   intro s hs hsc hl
   have := Wg hc hn
   have e : s = c := (K3 (Wg (h.sub s hs).1 hn) this hsc).eq_of_length_le (by omega)
   exact e ▸ hs
  | succ d ih =>
   intro s hs hsc hl
   by_cases hall : ∀ x ∈ c, x ∈ s
   ·have e : c = s := W8 (Wg hc hn) (Wg (h.sub s hs).1 hn) fun x => ⟨hall x, hsc x⟩
    rw [e]; exact hs
   obtain ⟨x, hx⟩ := Classical.not_forall.1 hall
   obtain ⟨hxc, hxs⟩ := Classical.not_imp.1 hx
   obtain ⟨j, hj⟩ := List.getElem?_of_mem hs
   have hnx := h.done j s (Nat.lt_of_lt_of_le (List.getElem?_eq_some_iff.1 hj).1 hi) hj x (hc.subset hxc) hxs
   refine ih _ hnx (Qdt hcc fun y hy => ?_) ?_
   ·rcases List.mem_append.1 hy with hy | hy
    ·exact hsc y hy
    rw [List.mem_singleton.1 hy]; exact hxc
   have hlt : s.length < (K0 rs s x).length := by
    have hsub : s.Sublist (K0 rs s x) := K3 (Wg (h.sub s hs).1 hn) (Qeb _ _) fun y hy => Qj5 (List.mem_append_left _ hy)
    rcases Nat.lt_or_ge s.length (K0 rs s x).length with h1 | h1
    ·exact h1
    exact absurd (hsub.eq_of_length_le h1 ▸ Qj5 (List.mem_append_right _ (by simp))) hxs
   omega
 obtain ⟨hcl, -⟩ := And.intro h.least trivial
 exact key c.length _ hcl (Qdt hcc (by simp)) (by omega)
end
theorem QmM {nm : List Nm} {rs : List Ru} (hn : Qo nm = true) {out : List (List Nm)} (h1 : out.Nodup) (h2 : ∀ s ∈ out, s.Sublist nm ∧ Xf rs s = true) : out.length ≤ (X6 (Xf rs) nm (2 ^ nm.length)).length ∧ ((∀ c : List Nm, c.Sublist nm → Xf rs c = true → c ∈ out) → (out.map Qmb).Perm (X6 (Xf rs) nm (2 ^ nm.length))) := by
 obtain ⟨g1, g2⟩ := Qeh (Xf rs) (Kp hn)
 have hm : (out.map Qmb).Nodup := W9 h1 fun x _ y _ e => by unfold Qmb at e; cases e; rfl
 have hin : ∀ v ∈ out.map Qmb, v ∈ X6 (Xf rs) nm (2 ^ nm.length) := fun v hv => by
  obtain ⟨s, hs, rfl⟩ := List.mem_map.1 hv
  exact (g2 _).2 ⟨rfl, rfl, rfl, (h2 s hs).1, (h2 s hs).2⟩
 constructor
 ·have key : ∀ (a b : List Qn), a.Nodup → (∀ x ∈ a, x ∈ b) → a.length ≤ b.length := by
   intro a
   induction a with
   | nil => intro b _ _; exact Nat.zero_le _
   | cons x a ih =>
    intro b hn h
    rw [List.nodup_cons] at hn
    obtain ⟨b1, b2, rfl⟩ := List.append_of_mem (h x (by simp))
    have := ih (b1 ++ b2) hn.2 (fun y hy => by
     have := h y (by simp [hy])
     rcases List.mem_append.1 this with h | h
     ·exact List.mem_append_left _ h
     rcases List.mem_cons.1 h with rfl | h
     ·exact absurd hy hn.1
     exact List.mem_append_right _ h)
    simp only [List.length_append, List.length_cons] at this ⊢
    omega
  have := key _ _ hm hin
  rwa [List.length_map] at this
 intro hall
 refine (List.perm_ext_iff_of_nodup hm g1).2 fun v => ⟨hin v, fun hv => ?_⟩
 obtain ⟨e1, e2, e3, e4, e5⟩ := (g2 v).1 hv
 exact List.mem_map.2 ⟨v.nm, hall _ e4 e5, Qn.ext_ e1.symm rfl e2.symm e3.symm⟩
def Qa0 (rs : List Ru) (i : Nat) (out : List (List Nm)) (x : Nm) : List (List Nm) := match out[i]? with
 | some s => if Jn s x then out else if out.any (fun t => t == K0 rs s x) then out else out ++ [K0 rs s x]
 | none => out
def suK (rs : List Ru) (i : Nat) : List Nm → List (List Nm) → List (List Nm)
 | [], out => out
 | x :: r, out => if out.length ≤ 256 then suK rs i r (Qa0 rs i out x) else out
def suI (nm : List Nm) (rs : List Ru) : Nat → Nat → List (List Nm) → List (List Nm)
 | 0, _, out => out
 | f + 1, i, out => if i < out.length ∧ out.length ≤ 256 then suI nm rs f (i + 1) (suK rs i nm out) else out
def Qgh (nm : List Nm) (rs : List Ru) : List (List Nm) := suI nm rs 300 0 [clR rs []]
theorem QjI {rs : List Ru} {nm : List Nm} {i k : Nat} {x : Nm} {out : List (List Nm)} (hx : nm[k]? = some x) (h : out.length ≤ 256) : suK rs i (nm.drop k) out = suK rs i (nm.drop (k + 1)) (Qa0 rs i out x) := by
 rw [XL hx, suK, if_pos h]
theorem Qgv {rs : List Ru} {nm : List Nm} {i k : Nat} {out : List (List Nm)} (h : nm.length ≤ k ∨ ¬ out.length ≤ 256) : suK rs i (nm.drop k) out = out := by
 rcases h with h | h
 ·rw [List.drop_of_length_le h]; rfl
 cases nm.drop k with
 | nil => rfl
 | cons x r => rw [suK, if_neg h]
theorem QmC {nm : List Nm} {rs : List Ru} {f i : Nat} {out : List (List Nm)} (h1 : i < out.length) (h2 : out.length ≤ 256) : suI nm rs (f + 1) i out = suI nm rs f (i + 1) (suK rs i nm out) := by rw [suI, if_pos ⟨h1, h2⟩]
theorem QgC {nm : List Nm} {rs : List Ru} {f i : Nat} {out : List (List Nm)} (h : ¬ (i < out.length ∧ out.length ≤ 256)) : suI nm rs f i out = out := by
 cases f with
 | zero => rfl
 | succ f => rw [suI, if_neg h]
theorem Qn6 {out : List (List Nm)} {t : List Nm} : out.any (fun s => s == t) = true ↔ t ∈ out := by
 rw [List.any_eq_true]
 exact ⟨fun ⟨s, hs, e⟩ => by rw [beq_iff_eq] at e; exact e ▸ hs, fun h => ⟨t, h, by simp⟩⟩
section
variable {nm : List Nm} {rs : List Ru} (hn : Qo nm = true) (hr : ∀ r ∈ rs, r.t ∈ nm)
include hn hr
theorem SuI.one {out : List (List Nm)} {i k : Nat} {x : Nm} (h : SuI nm rs out i k) (hi : i < out.length) (hx : nm[k]? = some x) : SuI nm rs (Qa0 rs i out x) i (k + 1) ∧ i < (Qa0 rs i out x).length ∧ (Qa0 rs i out x).length ≤ out.length + 1 := by
 obtain ⟨s, hs⟩ := Qk hi
 unfold Qa0
 rw [hs]
 by_cases h1 : Jn s x = true
 ·simp only [h1, if_true]
  exact ⟨h.skip hs hx (.inl (Jb.1 h1)), hi, Nat.le_succ _⟩
 have h1' : Jn s x = false := by simpa using h1
 simp only [h1', Bool.false_eq_true, if_false]
 by_cases h2 : out.any (fun t => t == K0 rs s x) = true
 ·simp only [h2, if_true]
  exact ⟨h.skip hs hx (.inr (Qn6.1 h2)), hi, Nat.le_succ _⟩
 have h2' : out.any (fun t => t == K0 rs s x) = false := Bool.eq_false_iff.2 h2
 simp only [h2', Bool.false_eq_true, if_false]
 exact ⟨h.add hn hr hs hx (fun hm => h2 (Qn6.2 hm)), by simp; omega, by simp⟩
theorem SuI.row {i : Nat} : ∀ (d k : Nat) (out : List (List Nm)), k + d = nm.length → SuI nm rs out i k → i < out.length → out.length ≤ 257 → ∃ k', SuI nm rs (suK rs i (nm.drop k) out) i k' ∧ i < (suK rs i (nm.drop k) out).length ∧ (suK rs i (nm.drop k) out).length ≤ 257 ∧ ((suK rs i (nm.drop k) out).length ≤ 256 → nm.length ≤ k')
 | 0, k, out, hk, h, hi, hl => by
  rw [Qgv (.inl (by omega))]
  exact ⟨k, h, hi, hl, fun _ => by omega⟩
 | d + 1, k, out, hk, h, hi, hl => by
  obtain ⟨x, hx⟩ := Qk (show k < nm.length by omega)
  by_cases h2 : out.length ≤ 256
  ·rw [QjI hx h2]
   obtain ⟨g1, g2, g3⟩ := h.one hn hr hi hx
   exact SuI.row d (k + 1) _ (by omega) g1 g2 (by omega)
  rw [Qgv (.inr h2)]
  exact ⟨k, h, hi, hl, fun h3 => absurd h3 h2⟩
theorem SuI.rounds : ∀ (f i : Nat) (out : List (List Nm)), 260 ≤ f + i → SuI nm rs out i 0 → out.length ≤ 257 → ∃ i' k', SuI nm rs (suI nm rs f i out) i' k' ∧ (suI nm rs f i out).length ≤ 257 ∧ ((suI nm rs f i out).length ≤ 256 → (suI nm rs f i out).length ≤ i')
 | 0, i, out, hf, h, hl => ⟨i, 0, h, hl, fun _ => by show out.length ≤ i; omega⟩
 | f + 1, i, out, hf, h, hl => by
  by_cases hc : i < out.length ∧ out.length ≤ 256
  ·rw [QmC hc.1 hc.2]
   obtain ⟨k', g1, g2, g3, g4⟩ := SuI.row hn hr nm.length 0 out (by omega) h hc.1 hl
   rw [List.drop_zero] at g1 g2 g3 g4
   by_cases h2 : (suK rs i nm out).length ≤ 256
   ·exact SuI.rounds f (i + 1) _ (by omega) (g1.next (g4 h2)) g3
   rw [QgC (fun h => h2 h.2)]
   exact ⟨i, k', g1, g3, fun h => absurd h h2⟩
  rw [QgC hc]
  exact ⟨i, 0, h, hl, fun h2 => by
   rcases Nat.lt_or_ge i out.length with h3 | h3
   ·exact absurd ⟨h3, h2⟩ hc
   exact h3⟩
theorem Qpb : (Qgh nm rs).Nodup ∧ (∀ s ∈ Qgh nm rs, s.Sublist nm ∧ Xf rs s = true) ∧ (Qgh nm rs).length ≤ 257 ∧ ((Qgh nm rs).length ≤ 256 → ∀ c : List Nm, c.Sublist nm → Xf rs c = true → c ∈ Qgh nm rs) := by
 obtain ⟨i', k', h1, h2, h3⟩ := SuI.rounds hn hr 300 0 [clR rs []] (by omega) (SuI.start hn hr) (by simp)
 exact ⟨h1.nodup, h1.sub, h2, fun h c hc hcc => h1.all hn (h3 h) hc hcc⟩
theorem Qsi : min (Qgh nm rs).length 257 = (if (X6 (Xf rs) nm (2 ^ nm.length)).length ≤ 256 then (X6 (Xf rs) nm (2 ^ nm.length)).length else 257) := by
 obtain ⟨h1, h2, h3, h4⟩ := Qpb hn hr
 obtain ⟨g1, g2⟩ := QmM hn h1 h2
 by_cases hl : (Qgh nm rs).length ≤ 256
 ·have hp := (g2 (h4 hl)).length_eq
  rw [List.length_map] at hp
  rw [← hp, if_pos hl]; omega
 rw [if_neg (by omega)]; omega
end
def Qbv (a b : Nat) : Nat := if a > 256 ∨ b > 256 ∨ a * b > 256 then 257 else a * b
def Jd (l : Qs) : Nat := match Yz l with | some L => L.length | none => 257
theorem QkA {l : Qs} {L : List Qn} (h : Yz l = Qcc L) : Jd l = (if L.length ≤ 256 then L.length else 257) := by
 unfold Jd
 rw [h]
 unfold Qcc
 by_cases hl : L.length ≤ 256
 ·rw [if_pos hl, if_pos hl]
 rw [if_neg hl, if_neg hl]
def WA (n : Nat) : Nat := if n ≤ 256 then n else 257
theorem Qoy (n : Nat) : WA n ≤ 257 := by unfold WA; split <;> omega
theorem Qfg {a b : Nat} (ha : 1 ≤ a) (hb : 1 ≤ b) : Qbv (WA a) (WA b) = WA (a * b) := by
 unfold Qbv WA
 have h1 : a * 1 ≤ a * b := Nat.mul_le_mul_left _ hb
 have h2 : 1 * b ≤ a * b := Nat.mul_le_mul_right _ ha
 by_cases ha : a ≤ 256
 ·rw [if_pos ha]
  by_cases hb2 : b ≤ 256
  ·rw [if_pos hb2]
   by_cases hab : a * b ≤ 256
   ·rw [if_neg (by omega), if_pos hab]
   rw [if_pos (by omega), if_neg hab]
  rw [if_neg hb2, if_pos (by omega), if_neg (by omega)]
 rw [if_neg ha, if_pos (by omega), if_neg (by omega)]
def tI (k : Nat) : Nat → Nat
 | 0 => 1
 | n + 1 => Qbv (tI k n) k
theorem QmP {c : Nat} (h : 1 ≤ c) : ∀ n, tI (WA c) n = WA (c ^ n)
 | 0 => by rw [Nat.pow_zero]; rfl
 | n + 1 => by rw [tI, QmP h n, Qfg (Nat.pow_pos h) h, Nat.pow_succ]
theorem Qko {n : Nat} (h : n ≤ 257) : WA n = n := by unfold WA; split <;> omega
def Y9 (ps : List Qs) : Nat := ps.foldl (fun w q => w * Jd q) 1
theorem W0 {ps : List Qs} {i : Nat} {q : Qs} (h : ps[i]? = some q) : Y9 (ps.take (i + 1)) = Y9 (ps.take i) * Jd q := by
 unfold Y9
 rw [List.take_add_one, h, List.foldl_append]; rfl
section
variable {l : Qs} (hc : Q0 l = 0) (hF : J3 l = true)
include hc hF
theorem Qaf : 1 ≤ Jd l ∧ Jd l ≤ 257 := by
 unfold Jd
 cases ha : Yz l with
 | none => exact ⟨by decide, by decide⟩
 | some L =>
  have := QdK (QP hc) ha
  have := List.length_pos_of_mem (Qj1 (QP hc) hF ha)
  exact ⟨by show 1 ≤ L.length; omega, by show L.length ≤ 257; omega⟩
omit hc hF in
theorem Qmd (hk : l.k = 2 ∨ l.k = 3) : Jd l = (if l.hi - l.lo ≥ 256 then 257 else (l.hi - l.lo + 1).toNat) := by
 unfold Jd
 rw [Qac]
 unfold Qgn
 rw [if_neg (by omega), if_pos hk]
 by_cases hb : l.hi - l.lo ≥ 256
 ·rw [if_pos hb, if_pos hb]
 rw [if_neg hb, if_neg hb]
 exact QbZ _ _
omit hc hF in
theorem Qi3 (hk : l.k = 2 ∨ l.k = 3) (h : l.hi - l.lo ≥ 256) : Jd l = 257 := by rw [Qmd hk, if_pos h]
omit hc hF in
theorem Qiz (hk : l.k = 2 ∨ l.k = 3) (h : ¬ l.hi - l.lo ≥ 256) (h2 : l.lo ≤ l.hi) : (Jd l : Int) = l.hi - l.lo + 1 := by rw [Qmd hk, if_neg h]; omega
omit hc hF in
theorem Qps (hk : l.k = 8) : Jd l = l.nm.length + 2 := by
 unfold Jd
 rw [Qac]
 unfold Qgn
 rw [if_neg (by omega), if_neg (by omega), if_neg (by omega), if_neg (by omega), if_pos hk]
 exact QfD _
omit hc hF in
theorem QpN (hk : l.k = 1) : Jd l = 2 := by
 unfold Jd
 rw [Qac]
 unfold Qgn
 rw [if_pos hk]; rfl
omit hc hF in
theorem QlT (hk : l.k = 10) (hn : Qo l.nm = true) (hr : ∀ r ∈ l.rs, r.t ∈ l.nm) : Jd l = min (Qgh l.nm l.rs).length 257 := by
 rw [Qsi hn hr]
 refine QkA ?_
 rw [Qac]
 unfold Qgn
 rw [if_neg (by omega), if_neg (by omega), if_neg (by omega), if_pos hk]
theorem Qsr (hk : l.k = 4) : Jd l = tI 2 l.nm.length := by
 have h2 : tI 2 l.nm.length = WA (2 ^ l.nm.length) := QmP (c := 2) (by decide) _
 obtain ⟨h3, h4⟩ := QtJ hc hF hk
 rw [QbJ (by decide)] at h3 h4
 rw [h2]
 unfold WA
 rcases Qae hc hF with ⟨L, e1, e2, e3⟩ | ⟨e1, e2, e3⟩
 ·have hR : Jd l = L.length := by unfold Jd; rw [e1]
  by_cases hb : 256 < min (2 ^ l.nm.length) 1000
  ·have := (h3 hb).1; rw [e3] at this; cases this
  have := (h4 hb).2; rw [hR, if_pos (by omega)]; omega
 have hR : Jd l = 257 := by unfold Jd; rw [e1]
 by_cases hb : 256 < min (2 ^ l.nm.length) 1000
 ·rw [hR, if_neg (by omega)]
 have := (h4 hb).1; rw [e3] at this; cases this
theorem QqT {q : Qs} (hk : l.k = 5) (hq : l.ps = [q]) : Jd l = tI (Jd q) l.nm.length := by
 have hqm : q ∈ l.ps := by rw [hq]; simp
 obtain ⟨g1, g2⟩ := Qaf (XR hc hqm) (Jy hF q hqm)
 have ht : tI (Jd q) l.nm.length = WA (Jd q ^ l.nm.length) := by
  have := QmP g1 l.nm.length
  rwa [Qko g2] at this
 rw [ht]
 obtain ⟨m1, m2⟩ := QtF hc hF hk hq
 have hn0 : 0 < l.nm.length := List.length_pos_iff.2 (Qd8 hF (.inr (.inr hk)))
 rcases Qae (XR hc hqm) (Jy hF q hqm) with ⟨L, e1, e2, e3⟩ | ⟨e1, e2, e3⟩
 ·have hRq : Jd q = cnt q := by unfold Jd; rw [e1, e2]
  obtain ⟨h3, h4⟩ := m2 e3
  rw [QbJ (by rw [← hRq]; exact g1), ← hRq] at h3 h4
  unfold WA
  rcases Qae hc hF with ⟨M, f1, f2, f3⟩ | ⟨f1, f2, f3⟩
  ·have hR : Jd l = M.length := by unfold Jd; rw [f1]
   by_cases hb : 256 < min (Jd q ^ l.nm.length) 1000
   ·have := (h3 hb).1; rw [f3] at this; cases this
   have := (h4 hb).2; rw [hR, if_pos (by omega)]; omega
  have hR : Jd l = 257 := by unfold Jd; rw [f1]
  by_cases hb : 256 < min (Jd q ^ l.nm.length) 1000
  ·rw [hR, if_neg (by omega)]
  have := (h4 hb).1; rw [f3] at this; cases this
 have hRq : Jd q = 257 := by unfold Jd; rw [e1]
 have hl6 := (m1 (by rw [e3]; decide)).2
 have hR : Jd l = 257 := by
  rcases Qae hc hF with ⟨M, f1, f2, f3⟩ | ⟨f1, f2, f3⟩
  ·rw [f3] at hl6; cases hl6
  unfold Jd; rw [f1]
 rw [hR, hRq]
 have : 257 ^ 1 ≤ 257 ^ l.nm.length := Nat.pow_le_pow_right (by decide) hn0
 unfold WA
 rw [if_neg (by omega)]
theorem Qhu {i : Nat} : 1 ≤ Y9 (l.ps.take i) := by
 induction i with
 | zero => rw [List.take_zero]; exact Nat.le_refl _
 | succ i ih =>
  by_cases h : i < l.ps.length
  ·obtain ⟨q, hq⟩ := Qk h
   rw [W0 hq]
   have hm := List.mem_of_getElem? hq
   exact Nat.mul_pos ih (Qaf (XR hc hm) (Jy hF q hm)).1
  rw [List.take_of_length_le (by omega)] at ih ⊢
  exact ih
theorem Qei {i : Nat} : Y9 (l.ps.take i) ≤ Y9 l.ps := by
 have key : ∀ d i, i + d = l.ps.length → Y9 (l.ps.take i) ≤ Y9 l.ps := by
  intro d
  induction d with
  | zero => intro i h; rw [List.take_of_length_le (by omega)]; exact Nat.le_refl _
  | succ d ih =>
   intro i h
   obtain ⟨q, hq⟩ := Qk (show i < l.ps.length by omega)
   have := ih (i + 1) (by omega)
   rw [W0 hq] at this
   have hm := List.mem_of_getElem? hq
   exact Nat.le_trans (Nat.le_mul_of_pos_right _ (Qaf (XR hc hm) (Jy hF q hm)).1) this
 by_cases h : i ≤ l.ps.length
 ·exact key _ i (by omega : i + (l.ps.length - i) = l.ps.length)
 rw [List.take_of_length_le (by omega)]; exact Nat.le_refl _
theorem QiA (hk : l.k = 6 ∨ l.k = 7) : Jd l = WA (Y9 l.ps) := by
 have he := Qac l
 unfold Qgn at he
 rw [if_neg (by omega), if_neg (by omega), if_neg (by omega), if_neg (by omega), if_neg (by omega), if_neg (by omega)] at he
 cases ho : QcJ (l.ps.map Yz) with
 | none =>
  rw [ho] at he
  have hR : Jd l = 257 := by unfold Jd; rw [he]
  have hno : ∃ q, q ∈ l.ps ∧ Yz q = none := by
   have key : ∀ ps : List Qs, QcJ (ps.map Yz) = none → ∃ q, q ∈ ps ∧ Yz q = none := by
    intro ps
    induction ps with
    | nil => intro h; cases h
    | cons p r ih =>
     intro h
     cases hp : Yz p with
     | none => exact ⟨p, by simp, hp⟩
     | some L =>
      rw [List.map_cons, hp] at h
      have h : (match QcJ (r.map Yz) with | some Ls => some (L :: Ls) | none => none) = none := h
      cases hr : QcJ (r.map Yz) with
      | none => obtain ⟨q, h1, h2⟩ := ih hr; exact ⟨q, by simp [h1], h2⟩
      | some Ls => rw [hr] at h; cases h
   exact key _ ho
  obtain ⟨q, hq, hn⟩ := hno
  obtain ⟨i, hi⟩ := List.getElem?_of_mem hq
  have hq257 : Jd q = 257 := by unfold Jd; rw [hn]
  have h1 := Qei hc hF (i := i + 1)
  rw [W0 hi, hq257] at h1
  have h2 := Qhu hc hF (i := i)
  rw [hR]
  unfold WA
  rw [if_neg (by omega)]
 | some Ls =>
  rw [ho] at he
  have hLs := QdA ho
  have hl : Ls.length = l.ps.length := by have := congrArg List.length hLs; simpa using this.symm
  rw [QkA (L := Xp Ls) he]
  have key : ∀ i, i ≤ l.ps.length → Y9 (l.ps.take i) = (Xp (Ls.take i)).length := fun i => by
   induction i with
   | zero => intro _; rw [List.take_zero, List.take_zero]; rfl
   | succ i ih =>
    intro hi
    obtain ⟨q, hq⟩ := Qk (show i < l.ps.length by omega)
    obtain ⟨L, hL⟩ := Qk (show i < Ls.length by omega)
    have hv : Yz q = some L := by
     have := congrArg (fun z => z[i]?) hLs
     simp only [List.getElem?_map, hq, hL, Option.map_some] at this
     exact Option.some.inj this
    have hcq : Jd q = L.length := by unfold Jd; rw [hv]
    rw [W0 hq, ih (by omega), Kg hL, QbD, hcq]
  have := key l.ps.length (Nat.le_refl _)
  rw [List.take_length, ← hl, List.take_length] at this
  rw [this]; rfl
end
end Go.Proofs.YtaecccdkjmipeaaGreat
