/-
  Words for memory: append of a whole slice; rows laid as literals; lists of lists.
-/
import Derived.Test.YthgplaledmccgaaMem3
namespace Go.Proofs.Ythgplaledmccgaa
open Go.RowKit

theorem Own.lit {α : Type} (w : World) (base : Nat) (t : TypeId) (enc : α → Value) (l : List α) (cs : Array Value) (n : Nat) (hcs : cs = (l.map enc).toArray) (hn : n = l.length) (hb : base ≤ w.heap.size) (hm : l.length ≤ maxLen) :
    Own (w.alloc (.cells cs t)) base t enc (.slice (some ⟨w.heap.size, 0, none⟩) n n) l := by
  subst hcs hn
  refine ⟨by simp, .inr ⟨w.heap.size, l.length, (l.map enc).toArray, rfl, hb, heap_alloc_new w _, Nat.le_refl _, hm, by simp, ?_⟩⟩
  exact List.take_of_length_le (by simp)

section
variable {P : Program} {w : World} {ops : Array Oper} {rest : List Oper} {o : Oper} {a : Act} {Q : Exit → Act → World → Prop}
/-- append of a whole slice onto a row of the call's own; the new value written out -/
theorem wp_append_src {K : Act → World → Prop} (s x : Operand) (t : TypeId) (ho : o.op = .call { callee := .builtin .append, args := #[s, x], argTypes := #[t, t] })
    (e : TypeId) (i : TypeInfo) (z : Value) (bytes : Nat) (ht : P.underlying t = some (.slice e)) (hi : P.info? e = some i) (hz : i.zero = some z)
    (hz1 : i.size = 1) (hby : i.bytes = bytes) (hcells : z.cells.size = 1) {α : Type} (enc : α → Value) (w0 : World) (hE : Ext w0 w) (v : Value) (l : List α) (hs : a.eval s = v) (hown : Own w w0.heap.size e enc v l)
    (vs : Value) (l2 : List α) (hx : a.eval x = vs) (hrd : Rd1 w enc vs l2) (h1 : ∀ y ∈ l2, (enc y).oneCell' = true)
    (n' : Nat) (hn' : n' = l.length + l2.length) (hm : n' ≤ maxLen) (hb : n' * bytes ≤ 140737488355328)
    (h : ∀ A' cap' w', Own w' w0.heap.size e enc (.slice A' n' cap') (l ++ l2) → Ext w0 w' → w.grownBy w' v.ownBlock → K (a.put o.dst (.slice A' n' cap')) w') : o.wp P a w K Q := by
  obtain ⟨A, m, c, rfl, rfl, hr⟩ := hrd.reads
  subst hn'
  refine wp_append_any w s x t ho w0.heap.size e i z 1 bytes ht hi hz hz1 hby hcells (by decide) v l.length (l.map enc) hs hown w.heap.size A _ c (l2.map enc) hx hr ?_ hm hb hE.size ?_
  · intro u hu
    obtain ⟨y, hy, rfl⟩ := List.mem_map.1 hu
    exact h1 y hy
  · intro v' w' hown' hg _
    have hown2 : Own w' w0.heap.size e enc v' (l ++ l2) := by
      show w'.ownsRow _ _ _ _ _ _
      simpa using hown'
    obtain ⟨A', n2, c', rfl, hl', -⟩ := hown2.rd
    have : n2 = l.length + l2.length := by rw [← hl']; simp
    subst this
    exact h A' c' w' hown2 (hE.grown hg (Own.base hown)) hg
theorem wpList_append_src (hgd : o.guard = none) (s x : Operand) (t : TypeId) (ho : o.op = .call { callee := .builtin .append, args := #[s, x], argTypes := #[t, t] })
    (e : TypeId) (i : TypeInfo) (z : Value) (bytes : Nat) (ht : P.underlying t = some (.slice e)) (hi : P.info? e = some i) (hz : i.zero = some z)
    (hz1 : i.size = 1) (hby : i.bytes = bytes) (hcells : z.cells.size = 1) {α : Type} (enc : α → Value) (w0 : World) (hE : Ext w0 w) (v : Value) (l : List α) (hs : a.eval s = v) (hown : Own w w0.heap.size e enc v l)
    (vs : Value) (l2 : List α) (hx : a.eval x = vs) (hrd : Rd1 w enc vs l2) (h1 : ∀ y ∈ l2, (enc y).oneCell' = true)
    (n' : Nat) (hn' : n' = l.length + l2.length) (hm : n' ≤ maxLen) (hb : n' * bytes ≤ 140737488355328)
    (h : ∀ A' cap' w', Own w' w0.heap.size e enc (.slice A' n' cap') (l ++ l2) → Ext w0 w' → w.grownBy w' v.ownBlock → wpList P ops Q rest (a.put o.dst (.slice A' n' cap')) w') : wpList P ops Q (o :: rest) a w :=
  wpList_plain hgd fun _ hK => wp_append_src s x t ho e i z bytes ht hi hz hz1 hby hcells enc w0 hE v l hs hown vs l2 hx hrd h1 n' hn' hm hb fun A' c' w' h2 h3 h4 => hK _ _ (h A' c' w' h2 h3 h4)
theorem step_append_src {K : Act → World → Prop} {E : Prop} (hgd : o.guard = none) (s x : Operand) (t : TypeId) (ho : o.op = .call { callee := .builtin .append, args := #[s, x], argTypes := #[t, t] })
    (e : TypeId) (i : TypeInfo) (z : Value) (bytes : Nat) (ht : P.underlying t = some (.slice e)) (hi : P.info? e = some i) (hz : i.zero = some z)
    (hz1 : i.size = 1) (hby : i.bytes = bytes) (hcells : z.cells.size = 1) {α : Type} (enc : α → Value) (w0 : World) (hE : Ext w0 w) (v : Value) (l : List α) (hs : a.eval s = v) (hown : Own w w0.heap.size e enc v l)
    (vs : Value) (l2 : List α) (hx : a.eval x = vs) (hrd : Rd1 w enc vs l2) (h1 : ∀ y ∈ l2, (enc y).oneCell' = true)
    (n' : Nat) (hn' : n' = l.length + l2.length) (hm : n' ≤ maxLen) (hb : n' * bytes ≤ 140737488355328)
    (h : ∀ A' cap' w', Own w' w0.heap.size e enc (.slice A' n' cap') (l ++ l2) → Ext w0 w' → w.grownBy w' v.ownBlock → K (a.put o.dst (.slice A' n' cap')) w') :
    if Region.wanted o (yielded ops a.tmps) = true then Oper.wp P o a w K Q else E := by
  have hw : Region.wanted o (yielded ops a.tmps) = true := by simp [Region.wanted, hgd]
  rw [if_pos hw]
  exact wp_append_src s x t ho e i z bytes ht hi hz hz1 hby hcells enc w0 hE v l hs hown vs l2 hx hrd h1 n' hn' hm hb h
theorem step_append_one1 {K : Act → World → Prop} {E : Prop} (hgd : o.guard = none) (s x : Operand) (t : TypeId) (ho : o.op = .call { callee := .builtin .append, args := #[s, x], argTypes := #[t, t] })
    (e : TypeId) (i : TypeInfo) (z : Value) (bytes : Nat) (ht : P.underlying t = some (.slice e)) (hi : P.info? e = some i) (hz : i.zero = some z)
    (hz1 : i.size = 1) (hby : i.bytes = bytes) (hcells : z.cells.size = 1) {α : Type} (enc : α → Value) (w0 : World) (hE : Ext w0 w) (v : Value) (l : List α) (hs : a.eval s = v) (hown : Own w w0.heap.size e enc v l)
    (g c : Nat) (y : α) (hx : a.eval x = .slice (some ⟨g, 0, none⟩) 1 c) (hcell : w.cell? ⟨g, 0, none⟩ = some (enc y)) (h1 : (enc y).oneCell' = true)
    (hm : l.length + 1 ≤ maxLen) (hb : (l.length + 1) * bytes ≤ 140737488355328)
    (h : ∀ v' w', Own w' w0.heap.size e enc v' (l ++ [y]) → Ext w0 w' → w.grownBy w' v.ownBlock → K (a.put o.dst v') w') :
    if Region.wanted o (yielded ops a.tmps) = true then Oper.wp P o a w K Q else E := by
  have hw : Region.wanted o (yielded ops a.tmps) = true := by simp [Region.wanted, hgd]
  rw [if_pos hw]
  exact wp_append_one s x t ho e i z bytes ht hi hz hz1 hby hcells enc w0 hE v l hs hown g c y hx hcell h1 hm hb h
end

/-- append of a whole slice, and where the new row lies -/
theorem wpList_append_src_at {P : Program} {w : World} {ops : Array Oper} {rest : List Oper} {o : Oper} {a : Act} {Q : Exit → Act → World → Prop} (hgd : o.guard = none) (s x : Operand) (t : TypeId) (ho : o.op = .call { callee := .builtin .append, args := #[s, x], argTypes := #[t, t] })
    (e : TypeId) (i : TypeInfo) (z : Value) (bytes : Nat) (ht : P.underlying t = some (.slice e)) (hi : P.info? e = some i) (hz : i.zero = some z)
    (hz1 : i.size = 1) (hby : i.bytes = bytes) (hcells : z.cells.size = 1) {α : Type} (enc : α → Value) (w0 : World) (hE : Ext w0 w) (v : Value) (l : List α) (hs : a.eval s = v) (hown : Own w w0.heap.size e enc v l)
    (vs : Value) (l2 : List α) (hx : a.eval x = vs) (hrd : Rd1 w enc vs l2) (h1 : ∀ y ∈ l2, (enc y).oneCell' = true)
    (n' : Nat) (hn' : n' = l.length + l2.length) (hm : n' ≤ maxLen) (hb : n' * bytes ≤ 140737488355328)
    (h : ∀ A' cap' w', Own w' w0.heap.size e enc (.slice A' n' cap') (l ++ l2) → Ext w0 w' → w.grownBy w' v.ownBlock → ((Value.slice A' n' cap').ownBlock = v.ownBlock ∨ (Value.slice A' n' cap').ownBlock = some w.heap.size) → wpList P ops Q rest (a.put o.dst (.slice A' n' cap')) w') : wpList P ops Q (o :: rest) a w := by
  obtain ⟨A, m, c, rfl, rfl, hr⟩ := hrd.reads
  subst hn'
  refine wpList_append_any w hgd s x t ho w0.heap.size e i z 1 bytes ht hi hz hz1 hby hcells (by decide) v l.length (l.map enc) hs hown w.heap.size A _ c (l2.map enc) hx hr ?_ hm hb hE.size ?_
  · intro u hu
    obtain ⟨y, hy, rfl⟩ := List.mem_map.1 hu
    exact h1 y hy
  · intro v' w' hown' hg hat
    have hown2 : Own w' w0.heap.size e enc v' (l ++ l2) := by
      show w'.ownsRow _ _ _ _ _ _
      simpa using hown'
    obtain ⟨A', n2, c', rfl, hl', -⟩ := hown2.rd
    have : n2 = l.length + l2.length := by rw [← hl']; simp
    subst this
    exact h A' c' w' hown2 (hE.grown hg (Own.base hown)) hg hat
theorem Rd1.new1 {α : Type} (w : World) (enc : α → Value) (x : α) (t : TypeId) : Rd1 (w.alloc (.cells #[enc x] t)) enc (.slice (some ⟨w.heap.size, 0, none⟩) 1 1) [x] :=
  ⟨_, _, _, rfl, rfl, Nat.le_refl _, by unfold maxLen; omega, fun _ => ⟨w.heap.size, 0, rfl, by simp, fun j y hj => by
    have hj0 : j = 0 := by have := (List.getElem?_eq_some_iff.1 hj).1; simp at this; exact this
    subst hj0
    simp only [List.getElem?_cons_zero, Option.some.injEq] at hj
    subst hj
    exact cell_new1 w _ t⟩⟩

/-- a list of lists of names, read -/
def RdSS (w : World) (v : Value) (L : List (List Nm)) : Prop :=
  ∃ qs : List Value, Rd1 w id v qs ∧ qs.length = L.length ∧ ∀ (j : Nat) (q : Value) (l : List Nm), qs[j]? = some q → L[j]? = some l → RdS w q l
theorem RdSS.ext {w w' : World} {v : Value} {L : List (List Nm)} (h : RdSS w v L) (he : Ext w w') : RdSS w' v L := by
  obtain ⟨qs, h1, h2, h3⟩ := h
  exact ⟨qs, h1.ext he, h2, fun j q l hq hl => (h3 j q l hq hl).ext he⟩
end Go.Proofs.Ythgplaledmccgaa
