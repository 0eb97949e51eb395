/-
  Words for memory: slices whose elements have several cells, cut and appended.
-/
import Derived.Test.YthgplaledmccgaaMem4
namespace Go.Proofs.Ythgplaledmccgaa
open Go.RowKit

def RdN {α : Type} (w : World) (k : Nat) (enc : α → List Value) (v : Value) (l : List α) : Prop :=
  ∃ A n c, v = .slice A n c ∧ l.length = n ∧ n ≤ c ∧ c ≤ maxLen ∧
    (0 < n → ∃ b off, A = some ⟨b, off, none⟩ ∧ b < w.heap.size ∧ ∀ j x, l[j]? = some x → ∀ i u, (enc x)[i]? = some u → w.cell? ⟨b, off + (j * k + i), none⟩ = some u)
section
variable {α : Type} {w w' : World} {k : Nat} {enc : α → List Value} {v : Value} {l : List α}
theorem RdN.ext (h : RdN w k enc v l) (he : Ext w w') : RdN w' k enc v l := by
  obtain ⟨A, n, c, hv, hl, h1, h2, h3⟩ := h
  refine ⟨A, n, c, hv, hl, h1, h2, fun hn => ?_⟩
  obtain ⟨b, off, hA, hb, hc⟩ := h3 hn
  exact ⟨b, off, hA, Nat.lt_of_lt_of_le hb he.size, fun j x hj i u hu => he.cell (hc j x hj i u hu)⟩
theorem RdN.open_ {A : Option Addr} {n c : Nat} (h : RdN w k enc (.slice A n c) l) :
    l.length = n ∧ n ≤ c ∧ c ≤ maxLen ∧ (0 < n → ∃ b off, A = some ⟨b, off, none⟩ ∧ b < w.heap.size ∧ ∀ j x, l[j]? = some x → ∀ i u, (enc x)[i]? = some u → w.cell? ⟨b, off + (j * k + i), none⟩ = some u) := by
  obtain ⟨A', n', c', he, h1, h2, h3, h4⟩ := h
  injection he with e1 e2 e3
  subst e1 e2 e3
  exact ⟨h1, h2, h3, h4⟩
theorem OwnN.rdN {base : Nat} {t : TypeId} (h : OwnN w base t k enc v l) (hk : ∀ x, (enc x).length = k) : RdN w k enc v l := by
  obtain ⟨A, n, c, hv, hl, h1, h2, h3⟩ := h.rd hk
  refine ⟨A, n, c, hv, hl, h1, h2, fun hn => ?_⟩
  obtain ⟨b, hA, hb, hc⟩ := h3 hn
  exact ⟨b, 0, hA, hb, fun j x hj i u hu => by rw [Nat.zero_add]; exact hc j x hj i u hu⟩
theorem RdN.pre {A : Option Addr} {n c : Nat} (h : RdN w k enc (.slice A n c) l) {i : Nat} (hi : i ≤ n) : RdN w k enc (.slice A i c) (l.take i) := by
  obtain ⟨hl, h1, h2, h3⟩ := h.open_
  refine ⟨_, _, _, rfl, by simp; omega, by omega, h2, fun hn => ?_⟩
  obtain ⟨b, off, hA, hb, hc⟩ := h3 (by omega)
  refine ⟨b, off, hA, hb, fun j x hj => hc j x ?_⟩
  rw [List.getElem?_take] at hj
  split at hj
  · exact hj
  · cases hj
theorem RdN.suf {b off n c : Nat} (h : RdN w k enc (.slice (some ⟨b, off, none⟩) n c) l) {m : Nat} (hm : m ≤ n) : RdN w k enc (.slice (some ⟨b, off + m * k, none⟩) (n - m) (c - m)) (l.drop m) := by
  obtain ⟨hl, h1, h2, h3⟩ := h.open_
  refine ⟨_, _, _, rfl, by simp; omega, by omega, by omega, fun hn => ?_⟩
  obtain ⟨b', off', hA, hb, hc⟩ := h3 (by omega)
  injection hA with hA
  injection hA with e1 e2
  subst e1 e2
  refine ⟨b, off + m * k, rfl, hb, fun j x hj i u hu => ?_⟩
  rw [List.getElem?_drop] at hj
  have := hc (m + j) x hj i u hu
  rw [show off + m * k + (j * k + i) = off + ((m + j) * k + i) by rw [Nat.add_mul]; omega]
  exact this
theorem RdN.none_ {A : Option Addr} {c : Nat} (h0 : l = []) (hc : c ≤ maxLen) : RdN w k enc (.slice A 0 c) l := by
  subst h0
  exact ⟨_, _, _, rfl, rfl, Nat.zero_le _, hc, fun h => absurd h (by omega)⟩
theorem RdN.reads (h : RdN w k enc v l) (hk : ∀ x, (enc x).length = k) (hk0 : 0 < k) : ∃ A n c, v = .slice A n c ∧ n = l.length ∧ Reads w w.heap.size k A n (l.flatMap enc) := by
  obtain ⟨A, n, c, rfl, hl, h1, h2, h3⟩ := h
  refine ⟨A, n, c, rfl, hl.symm, by rw [flatMap_len hk, hl], fun hn => ?_⟩
  obtain ⟨b, off, rfl, hb, hc⟩ := h3 hn
  refine ⟨⟨b, off, none⟩, rfl, hb, fun j u hu => ?_⟩
  have hjl : j < l.length * k := by have := (List.getElem?_eq_some_iff.1 hu).1; rwa [flatMap_len hk] at this
  have hq : j / k < l.length := Nat.div_lt_of_lt_mul (by rw [Nat.mul_comm]; exact hjl)
  have hj : j = j / k * k + j % k := by rw [Nat.mul_comm]; exact (Nat.div_add_mod j k).symm
  have e := flatMap_get hk (List.getElem?_eq_getElem hq) (Nat.mod_lt j hk0)
  rw [← hj, hu] at e
  have := hc (j / k) _ (List.getElem?_eq_getElem hq) (j % k) u e.symm
  rw [← hj] at this
  unfold Addr.add
  split
  · subst_vars; simpa using this
  · exact this
end
section
variable {P : Program} {w : World} {ops : Array Oper} {rest : List Oper} {o : Oper} {a : Act} {Q : Exit → Act → World → Prop}
theorem wp_append_srcN {K : Act → World → Prop} (s x : Operand) (t : TypeId) (ho : o.op = .call { callee := .builtin .append, args := #[s, x], argTypes := #[t, t] })
    (e : TypeId) (i : TypeInfo) (z : Value) (k bytes : Nat) (ht : P.underlying t = some (.slice e)) (hi : P.info? e = some i) (hz : i.zero = some z)
    (hz1 : i.size = k) (hby : i.bytes = bytes) (hcells : z.cells.size = k) (hk0 : 0 < k) {α : Type} (enc : α → List Value) (hk : ∀ x, (enc x).length = k) (w0 : World) (hE : Ext w0 w) (v : Value) (l : List α) (hs : a.eval s = v) (hown : OwnN w w0.heap.size e k enc v l)
    (vs : Value) (l2 : List α) (hx : a.eval x = vs) (hrd : RdN w k enc vs l2) (h1 : ∀ y ∈ l2, ∀ u ∈ enc y, u.oneCell' = true)
    (n' : Nat) (hn' : n' = l.length + l2.length) (hm : n' ≤ maxLen) (hb : n' * bytes ≤ 140737488355328)
    (h : ∀ A' cap' w', OwnN w' w0.heap.size e k enc (.slice A' n' cap') (l ++ l2) → Ext w0 w' → K (a.put o.dst (.slice A' n' cap')) w') : o.wp P a w K Q := by
  obtain ⟨A, m, c, rfl, rfl, hr⟩ := hrd.reads hk hk0
  subst hn'
  refine wp_append_any w s x t ho w0.heap.size e i z k bytes ht hi hz hz1 hby hcells hk0 v l.length (l.flatMap enc) hs hown w.heap.size A _ c (l2.flatMap enc) hx hr ?_ hm hb hE.size ?_
  · intro u hu
    obtain ⟨y, hy, hu⟩ := List.mem_flatMap.1 hu
    exact h1 y hy u hu
  · intro v' w' hown' hg _
    have hown2 : OwnN w' w0.heap.size e k enc v' (l ++ l2) := by
      show w'.ownsRow _ _ _ _ _ _
      simpa using hown'
    obtain ⟨A', n2, c', rfl, hl', -⟩ := hown2.rd hk
    have : n2 = l.length + l2.length := by rw [← hl']; simp
    subst this
    exact h A' c' w' hown2 (hE.grown hg (OwnN.from_ hown))
theorem step_append_srcN {K : Act → World → Prop} {E : Prop} (hgd : o.guard = none) (s x : Operand) (t : TypeId) (ho : o.op = .call { callee := .builtin .append, args := #[s, x], argTypes := #[t, t] })
    (e : TypeId) (i : TypeInfo) (z : Value) (k bytes : Nat) (ht : P.underlying t = some (.slice e)) (hi : P.info? e = some i) (hz : i.zero = some z)
    (hz1 : i.size = k) (hby : i.bytes = bytes) (hcells : z.cells.size = k) (hk0 : 0 < k) {α : Type} (enc : α → List Value) (hk : ∀ x, (enc x).length = k) (w0 : World) (hE : Ext w0 w) (v : Value) (l : List α) (hs : a.eval s = v) (hown : OwnN w w0.heap.size e k enc v l)
    (vs : Value) (l2 : List α) (hx : a.eval x = vs) (hrd : RdN w k enc vs l2) (h1 : ∀ y ∈ l2, ∀ u ∈ enc y, u.oneCell' = true)
    (n' : Nat) (hn' : n' = l.length + l2.length) (hm : n' ≤ maxLen) (hb : n' * bytes ≤ 140737488355328)
    (h : ∀ A' cap' w', OwnN w' w0.heap.size e k enc (.slice A' n' cap') (l ++ l2) → Ext w0 w' → K (a.put o.dst (.slice A' n' cap')) w') :
    if Region.wanted o (yielded ops a.tmps) = true then Oper.wp P o a w K Q else E := by
  have hw : Region.wanted o (yielded ops a.tmps) = true := by simp [Region.wanted, hgd]
  rw [if_pos hw]
  exact wp_append_srcN s x t ho e i z k bytes ht hi hz hz1 hby hcells hk0 enc hk w0 hE v l hs hown vs l2 hx hrd h1 n' hn' hm hb h
end
end Go.Proofs.Ythgplaledmccgaa
