/-
  Words for memory that the walks of this seat share: 'Ext' (what lay in a world lies in the next one unturned), slices that read as lists.
-/
import Derived.WalkKit
import Derived.WalkSpells
import Derived.WalkLawsBesides
import Derived.StillTactics
import Derived.Outline
import Derived.LoopTactic
import Derived.Lib.Hide
import Derived.Below
import Derived.Laws.OwnMore
namespace Go.Proofs.Ythgplaledmccgaa
open Go.RowKit

abbrev Nm := List UInt8

/-- all that lay in w lies in w' unturned -/
def Ext (w w' : World) : Prop := Below w.heap.size w w'

theorem Ext.refl (w : World) : Ext w w := Below.refl _ _
theorem Ext.trans {a b c : World} (h : Ext a b) (k : Ext b c) : Ext a c := Below.trans h (Below.mono k h.size)
theorem Ext.drew {a w : World} (h : Ext a w) : Ext a w.drew := Below.drew h
theorem Ext.drewN {a w : World} (h : Ext a w) (n : Nat) : Ext a (w.drewN n) := ⟨h.os, h.tape, h.output, h.size, h.block⟩
theorem Ext.alloc {a w : World} (h : Ext a w) (o : Obj) : Ext a (w.alloc o) := Below.alloc h h.size o
theorem Ext.setCell {a w : World} (h : Ext a w) {p : Addr} (hp : a.heap.size ≤ p.block) (u : Value) : Ext a (w.setCell p u) := Below.setCell h hp u
theorem Ext.grown {a w w' : World} {row : Option Nat} (h : Ext a w) (hg : w.grownBy w' row) (hr : ∀ k, row = some k → a.heap.size ≤ k) : Ext a w' := Below.grown h hg h.size hr
theorem Ext.size {a w : World} (h : Ext a w) : a.heap.size ≤ w.heap.size := Below.size h
theorem Ext.cell {w w' : World} (h : Ext w w') {p : Addr} {u : Value} (hc : w.cell? p = some u) : w'.cell? p = some u := by
  have hb := World.block_lt_of_cell? w p hc
  rw [Below.cell h hb]; exact hc

/-- a slice whose elements have k cells and of whose elements E tells -/
def RdG {α : Type} (w : World) (k : Nat) (E : α → Nat → Nat → Prop) (v : Value) (l : List α) : Prop :=
  ∃ A n c, v = .slice A n c ∧ l.length = n ∧ n ≤ c ∧ c ≤ maxLen ∧
    (0 < n → ∃ b off, A = some ⟨b, off, none⟩ ∧ b < w.heap.size ∧ ∀ j x, l[j]? = some x → E x b (off + j * k))

theorem RdG.mono {α : Type} {w w' : World} {k : Nat} {E E' : α → Nat → Nat → Prop} {v : Value} {l : List α} (h : RdG w k E v l) (he : Ext w w')
    (hE : ∀ x b o, x ∈ l → b < w.heap.size → E x b o → E' x b o) : RdG w' k E' v l := by
  obtain ⟨A, n, c, hv, hl, h1, h2, h3⟩ := h
  refine ⟨A, n, c, hv, hl, h1, h2, fun hn => ?_⟩
  obtain ⟨b, off, hA, hb, hc⟩ := h3 hn
  exact ⟨b, off, hA, Nat.lt_of_lt_of_le hb he.size, fun j x hj => hE _ _ _ (List.mem_of_getElem? hj) hb (hc j x hj)⟩

/-- one cell an element -/
def Rd1 {α : Type} (w : World) (enc : α → Value) (v : Value) (l : List α) : Prop :=
  ∃ A n c, v = .slice A n c ∧ l.length = n ∧ n ≤ c ∧ c ≤ maxLen ∧
    (0 < n → ∃ b off, A = some ⟨b, off, none⟩ ∧ b < w.heap.size ∧ ∀ j x, l[j]? = some x → w.cell? ⟨b, off + j, none⟩ = some (enc x))

theorem Rd1.ext {α : Type} {w w' : World} {enc : α → Value} {v : Value} {l : List α} (h : Rd1 w enc v l) (he : Ext w w') : Rd1 w' enc v l := by
  obtain ⟨A, n, c, hv, hl, h1, h2, h3⟩ := h
  refine ⟨A, n, c, hv, hl, h1, h2, fun hn => ?_⟩
  obtain ⟨b, off, hA, hb, hc⟩ := h3 hn
  exact ⟨b, off, hA, Nat.lt_of_lt_of_le hb he.size, fun j x hj => he.cell (hc j x hj)⟩

abbrev encS (x : Nm) : Value := .string ⟨x.toArray⟩
abbrev RdS (w : World) (v : Value) (l : List Nm) : Prop := Rd1 w encS v l
end Go.Proofs.Ythgplaledmccgaa
