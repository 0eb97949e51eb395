/-
  Plain functions: places of names, sets as lists of bools, Horn rules over places.
-/
import Derived.Test.YthgplaledmccgaaSpec
namespace Go.Proofs.Ythgplaledmccgaa
/-- the place of a name, or -1 -/
def ixI (u : List (List UInt8)) (x : List UInt8) : Int := match u.findIdx? (· == x) with | some i => (i : Int) | none => -1
theorem ixI_yes {u : List (List UInt8)} {x : List UInt8} {i : Nat} (h : ascB u = true) (hi : u[i]? = some x) : ixI u x = (i : Int) := by
  have hl : i < u.length := (List.getElem?_eq_some_iff.1 hi).1
  have : u.findIdx? (· == x) = some i := by
    rw [List.findIdx?_eq_some_iff_getElem]
    refine ⟨hl, by rw [List.getElem?_eq_getElem hl] at hi; cases hi; simp, fun j hji hx => ?_⟩
    have hx' : u[j] = x := by simpa using hx
    have := ascB_inj h (i := j) (j := i) (x := x) (by rw [List.getElem?_eq_getElem (by omega), hx']) hi
    omega
  unfold ixI
  rw [this]
theorem ixI_no {u : List (List UInt8)} {x : List UInt8} (h : ¬ x ∈ u) : ixI u x = -1 := by
  have : u.findIdx? (· == x) = none := by
    rw [List.findIdx?_eq_none_iff]
    intro y hy
    simp
    rintro rfl
    exact h hy
  unfold ixI
  rw [this]
theorem ixI_mem {u : List (List UInt8)} {x : List UInt8} (h : ascB u = true) (hx : x ∈ u) : ∃ i, ixI u x = ((i : Nat) : Int) ∧ u[i]? = some x := by
  obtain ⟨i, hi⟩ := List.mem_iff_getElem?.1 hx
  exact ⟨i, ixI_yes h hi, hi⟩

/-- the error of a set: 0 none, 1 ErrArgument, 3 ErrName -/
def setE (u l : List (List UInt8)) : Int := if ascB l = false then 1 else if ∀ x ∈ l, x ∈ u then 0 else 3
def memB (u l : List (List UInt8)) : List Bool := u.map fun x => decide (x ∈ l)
abbrev Horn := List Nat × Nat
def firesB (s : List Bool) (h : Horn) : Bool := !(s.getD h.2 false) && h.1.all fun p => s.getD p false
/-- the names of a set -/
def namesOf (u : List (List UInt8)) (s : List Bool) : List (List UInt8) := (u.zip s).filterMap fun p => if p.2 then some p.1 else none
end Go.Proofs.Ythgplaledmccgaa
