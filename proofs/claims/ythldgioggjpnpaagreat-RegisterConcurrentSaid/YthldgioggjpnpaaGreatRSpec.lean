/-
  Plain words for clocks: ticks, valid clocks.
-/
import Derived.Test.YthldgioggjpnpaaGreatRMem
namespace Go.Proofs.YthldgioggjpnpaaGreat
open Go.RowKit

abbrev Tk := Int × Int
def encT (t : Tk) : List Value := [.int .i64 t.1, .int .i64 t.2]
theorem encT_len : ∀ x : Tk, (encT x).length = 2 := fun _ => rfl
abbrev RdT (w : World) (v : Value) (ts : List Tk) : Prop := RdN w 2 encT v ts

def okTk (last : Int) (t : Tk) : Bool := decide (last < t.1) && decide (t.1 ≤ 63) && decide (1 ≤ t.2) && decide (t.2 ≤ 1000000000000000)
def goodF (last : Int) : List Tk → Bool
  | [] => true
  | t :: r => okTk last t && goodF t.1 r
def validT (ts : List Tk) : Bool := goodF (-1) ts

theorem goodF_cons (last : Int) (t : Tk) (r : List Tk) : goodF last (t :: r) = (okTk last t && goodF t.1 r) := rfl

/-- cells of the j-th tick -/
theorem RdT.tick {w : World} {A : Option Addr} {n c : Nat} {ts : List Tk} (h : RdT w (.slice A n c) ts) {j : Nat} (hj : j < n) :
    ∃ b off t, A = some ⟨b, off, none⟩ ∧ b < w.heap.size ∧ ts[j]? = some t ∧ w.cell? ⟨b, off + j * 2, none⟩ = some (.int .i64 t.1) ∧ w.cell? ⟨b, off + j * 2 + 1, none⟩ = some (.int .i64 t.2) := by
  obtain ⟨hl, h1, h2, h3⟩ := h.open_
  obtain ⟨b, off, hA, hb, hc⟩ := h3 (by omega)
  have hjl : j < ts.length := by omega
  have e := List.getElem?_eq_getElem hjl
  exact ⟨b, off, ts[j], hA, hb, e, by simpa using hc j _ e 0 _ rfl, by simpa [Nat.add_assoc] using hc j _ e 1 _ rfl⟩
end Go.Proofs.YthldgioggjpnpaaGreat
