/-
  Values as trees and their reading; arguments opened: ticks, entries, values.
-/
import Derived.Test.YthldgioggjpnpaaGreatS6
import Derived.Test.YthldgioggjpnpaaGreatRows
import Derived.Deep.Slices
import Derived.Deep.Fields
import Derived.ChangeSame
import Derived.SliceStrings
import Derived.ProofKit
import Derived.OpenShut
import Derived.ShutString
import Derived.ChangeOld
import Derived.Lib.SmallJoins
namespace Go.Proofs.YthldgioggjpnpaaGreat
open Go.ChangeShapes Go.WideShapes Go.Deep Go.RowKit

/-- a value as a tree -/
inductive Val where
  | mk (N : Int) (nm : List Nm) (ps : List Val) (es : List En)
def Val.N : Val → Int | .mk N _ _ _ => N
def Val.nm : Val → List Nm | .mk _ n _ _ => n
def Val.ps : Val → List Val | .mk _ _ p _ => p
def Val.es : Val → List En | .mk _ _ _ e => e
instance : Inhabited Val := ⟨.mk 0 [] [] []⟩

/-- four cells that read as a tree of at most that depth -/
def RdVal : Nat → World → List Value → Val → Prop
  | 0, _, _, _ => False
  | d + 1, w, cs, x => ∃ An nn cn A n c ve, cs = [.int .i64 x.N, .slice An nn cn, .slice A n c, ve] ∧ RdS w (.slice An nn cn) x.nm ∧ (∀ y ∈ x.nm, y.length ≤ maxLen) ∧ RdE w ve x.es ∧ x.ps.length = n ∧ n ≤ c ∧ c ≤ maxLen ∧
      (0 < n → ∃ b off, A = some ⟨b, off, none⟩ ∧ b < w.heap.size ∧ ∀ j y, x.ps[j]? = some y → ∃ ds, ds.length = 4 ∧ (∀ i u, ds[i]? = some u → w.cell? ⟨b, off + j * 4 + i, none⟩ = some u) ∧ RdVal d w ds y)

theorem RdVal.ext {w w' : World} (he : Ext w w') : ∀ {d : Nat} {cs : List Value} {x : Val}, RdVal d w cs x → RdVal d w' cs x
  | 0, _, _, h => h
  | d + 1, cs, x, h => by
    obtain ⟨An, nn, cn, A, n, c, ve, hcs, hS, hSl, hE, hl, h1, h2, h3⟩ := h
    refine ⟨An, nn, cn, A, n, c, ve, hcs, hS.ext he, hSl, hE.ext he, hl, h1, h2, fun hn => ?_⟩
    obtain ⟨b, off, hA, hb, hj⟩ := h3 hn
    refine ⟨b, off, hA, Nat.lt_of_lt_of_le hb he.size, fun j y hy => ?_⟩
    obtain ⟨ds, hd, hc, hr⟩ := hj j y hy
    exact ⟨ds, hd, fun i u hu => he.cell (hc i u hu), RdVal.ext he hr⟩

theorem RdVal.up {w : World} : ∀ {d d' : Nat} {cs : List Value} {x : Val}, d ≤ d' → RdVal d w cs x → RdVal d' w cs x
  | 0, _, _, _, _, h => h.elim
  | d + 1, 0, _, _, hd, _ => absurd hd (by omega)
  | d + 1, d' + 1, cs, x, hd, h => by
    obtain ⟨An, nn, cn, A, n, c, ve, hcs, hS, hSl, hE, hl, h1, h2, h3⟩ := h
    refine ⟨An, nn, cn, A, n, c, ve, hcs, hS, hSl, hE, hl, h1, h2, fun hn => ?_⟩
    obtain ⟨b, off, hA, hb, hj⟩ := h3 hn
    refine ⟨b, off, hA, hb, fun j y hy => ?_⟩
    obtain ⟨ds, hd', hc, hr⟩ := hj j y hy
    exact ⟨ds, hd', hc, RdVal.up (by omega) hr⟩

theorem RdVal.V {d : Nat} {w : World} {cs : List Value} {x : Val} (h : RdVal d w cs x) : RdV w (.agg cs.toArray) x.N x.nm.length x.ps.length x.es := by
  cases d with
  | zero => exact h.elim
  | succ d =>
    obtain ⟨An, nn, cn, A, n, c, ve, rfl, hS, -, hE, hl, -, -, -⟩ := h
    obtain ⟨A', n', c', hv, hl', -⟩ := hS
    injection hv with e1 e2 e3
    subst e1 e2 e3
    rw [hl, hl']
    exact ⟨An, cn, A, c, ve, rfl, hE⟩

theorem list_of {α : Type} [Inhabited α] {n : Nat} {p : Nat → α → Prop} (h : ∀ j, j < n → ∃ x, p j x) : ∃ l : List α, l.length = n ∧ ∀ j x, l[j]? = some x → p j x := by
  classical
  refine ⟨(List.range n).map fun i => if hi : i < n then (h i hi).choose else default, by simp, fun j x hj => ?_⟩
  have hjl : j < n := by have := (List.getElem?_eq_some_iff.1 hj).1; simpa using this
  rw [List.getElem?_map, List.getElem?_range hjl] at hj
  simp only [Option.map_some, Option.some.injEq, hjl, dif_pos] at hj
  subst hj
  exact (h j hjl).choose_spec

section
variable {H : Type} {enc : TypeId × Value → H} {P : Program} {w : World} {base : Nat} {spare : Nat → Bool} {held : Bool}
theorem open_row {t e : TypeId} {fuel : Nat} {v : Value} {x : DataW H × List MemPlace} (ht : P.underlying t = some (.slice e)) (k : Nat) (he : P.cellsOf e = k) (hk : 0 < k) (h : DataW.trod enc P w base spare held fuel t [v] = some x) :
    ∃ A n c, v = .slice A n c ∧ n ≤ c ∧ c ≤ maxLen ∧ (0 < n → ∃ b off, A = some ⟨b, off, none⟩ ∧ b < w.heap.size ∧ ∀ j, j < n → ∃ ds y m, m < fuel ∧ ds.length = k ∧ (∀ i u, ds[i]? = some u → w.cell? ⟨b, off + j * k + i, none⟩ = some u) ∧ DataW.trod enc P w base spare held m e ds = some y) := by
  rcases DataW.trod_slice ht h with ⟨hcs, _⟩ | ⟨a, len, cap, elems, rest, n, hfu, hcs, -, hb, hl, hm, hlen, hel, -, -⟩
  · simp only [List.cons.injEq, and_true] at hcs
    exact ⟨none, 0, 0, hcs, Nat.le_refl _, Nat.zero_le _, fun h => absurd h (by omega)⟩
  · simp only [List.cons.injEq, and_true] at hcs
    refine ⟨some a, len, cap, hcs, hl, hm, fun h0 => ?_⟩
    rw [he] at hel
    have hat : ∀ j, j < len → ∃ ds y, ds.length = k ∧ (∀ i u, ds[i]? = some u → w.cell? ((a.add (j * k)).add i) = some u) ∧ DataW.trod enc P w base spare held n e ds = some y := by
      intro j hj
      have key := hel j hj
      rw [List.getElem?_eq_getElem (by omega)] at key
      obtain ⟨cs', h1, h2⟩ := Option.bind_eq_some_iff.1 key
      obtain ⟨_, hcl, hat⟩ := World.cells?_some h1
      exact ⟨cs', _, hcl, fun i u hu => by
        have hi := (List.getElem?_eq_some_iff.1 hu).1
        rw [hat i (by omega), hu], h2⟩
    obtain ⟨ds, y, hdl, hc, -⟩ := hat 0 h0
    have hc0 := hc 0 _ (List.getElem?_eq_getElem (by omega))
    obtain ⟨b, off, spot⟩ := a
    have hsp : spot = none := by simpa [Addr.add] using World.cell?_spot hc0
    subst hsp
    have ha : ∀ o j, (⟨b, o, none⟩ : Addr).add j = ⟨b, o + j, none⟩ := by intro o j; unfold Addr.add; split <;> simp_all
    refine ⟨b, off, rfl, World.block_lt_of_cell? w _ (by simpa [Addr.add] using hc0), fun j hj => ?_⟩
    obtain ⟨ds, y, hdl, hc, ht⟩ := hat j hj
    refine ⟨ds, y, n, by omega, hdl, fun i u hu => ?_, ht⟩
    have := hc i u hu
    rw [ha, ha] at this
    exact this
end

section
variable {H : Type} {enc : TypeId × Value → H} {w : World} {base : Nat} {spare : Nat → Bool} {held : Bool}
set_option maxRecDepth 100000 in
/-- a slice of names that reads -/
theorem open_S {fuel : Nat} {v : Value} {x : DataW H × List MemPlace} (h : DataW.trod enc Tryz.prog w base spare held fuel 22 [v] = some x) : ∃ l : List Nm, RdS w v l ∧ ∀ y ∈ l, y.length ≤ maxLen := by
  obtain ⟨A, n, c, rfl, h1, h2, h3⟩ := open_row Tryz.underlying22 1 (by kernel_rfl) (by decide) h
  by_cases hn : 0 < n
  · obtain ⟨b, off, rfl, hb, hat⟩ := h3 hn
    obtain ⟨l, hl, hp⟩ := list_of (n := n) (p := fun j (y : Nm) => w.cell? ⟨b, off + j, none⟩ = some (encS y) ∧ y.length ≤ maxLen) (fun j hj => by
      obtain ⟨ds, y, m, -, hdl, hcl, ht⟩ := hat j hj
      obtain ⟨s, hs, -, hsz⟩ := DataW.trod_string Tryz.underlying9 ht
      subst hs
      refine ⟨s.data.toList, ?_, by simpa using hsz⟩
      have := hcl 0 _ rfl
      simpa using this)
    refine ⟨l, ⟨_, n, c, rfl, hl, h1, h2, fun _ => ⟨b, off, rfl, hb, fun j x hj => (hp j x hj).1⟩⟩, fun y hy => ?_⟩
    obtain ⟨j, hj⟩ := List.mem_iff_getElem?.1 hy
    exact (hp j y hj).2
  · obtain rfl : n = 0 := by omega
    exact ⟨[], ⟨A, 0, c, rfl, rfl, h1, h2, fun h => absurd h (by omega)⟩, by simp⟩

set_option maxRecDepth 100000 in
/-- a slice of ticks that reads -/
theorem open_T {fuel : Nat} {v : Value} {x : DataW H × List MemPlace} (h : DataW.trod enc Tryz.prog w base spare held fuel 37 [v] = some x) : ∃ l : List Tk, RdT w v l := by
  obtain ⟨A, n, c, rfl, h1, h2, h3⟩ := open_row Tryz.underlying37 2 (by kernel_rfl) (by decide) h
  by_cases hn : 0 < n
  · obtain ⟨b, off, rfl, hb, hat⟩ := h3 hn
    obtain ⟨l, hl, hp⟩ := list_of (n := n) (p := fun j (y : Tk) => ∀ i u, (encT y)[i]? = some u → w.cell? ⟨b, off + j * 2 + i, none⟩ = some u) (fun j hj => by
      obtain ⟨ds, y, m, -, hdl, hcl, ht⟩ := hat j hj
      obtain ⟨u0, u1, rfl⟩ : ∃ a b, ds = [a, b] := by
        match ds, hdl with
        | [a, b], _ => exact ⟨a, b, rfl⟩
      obtain ⟨xs, k, -, rfl, hl, hlen, hf⟩ := DataW.trod_struct Tryz.underlying40 ht
      have f0 := hf 0 _ rfl
      have f1 := hf 1 _ rfl
      have hx0 : xs[0]? = some (xs[0]'(by rw [hlen]; decide)) := List.getElem?_eq_getElem _
      have hx1 : xs[1]? = some (xs[1]'(by rw [hlen]; decide)) := List.getElem?_eq_getElem _
      obtain ⟨p, hp, -⟩ := DataW.trod_int Tryz.underlying3 (f0.trans hx0)
      obtain ⟨q, hq, -⟩ := DataW.trod_int Tryz.underlying2 (f1.trans hx1)
      have hp' : [u0] = [Value.int .i64 p] := hp
      have hq' : [u1] = [Value.int .i64 q] := hq
      simp only [List.cons.injEq, and_true] at hp' hq'
      subst hp' hq'
      exact ⟨(p, q), hcl⟩)
    exact ⟨l, ⟨_, n, c, rfl, hl, h1, h2, fun _ => ⟨b, off, rfl, hb, fun j x hj i u hu => by rw [← Nat.add_assoc]; exact hp j x hj i u hu⟩⟩⟩
  · obtain rfl : n = 0 := by omega
    exact ⟨[], ⟨A, 0, c, rfl, rfl, h1, h2, fun h => absurd h (by omega)⟩⟩

set_option maxRecDepth 100000 in
/-- a slice of entries that reads -/
theorem open_E {fuel : Nat} {v : Value} {x : DataW H × List MemPlace} (h : DataW.trod enc Tryz.prog w base spare held fuel 24 [v] = some x) : ∃ l : List En, RdE w v l := by
  obtain ⟨A, n, c, rfl, h1, h2, h3⟩ := open_row Tryz.underlying24 2 (by kernel_rfl) (by decide) h
  by_cases hn : 0 < n
  · obtain ⟨b, off, rfl, hb, hat⟩ := h3 hn
    obtain ⟨l, hl, hp⟩ := list_of (n := n) (p := fun j (e : En) => ∃ q, w.cell? ⟨b, off + j * 2, none⟩ = some q ∧ w.cell? ⟨b, off + j * 2 + 1, none⟩ = some (encS e.2) ∧ RdT w q e.1 ∧ e.2.length ≤ maxLen) (fun j hj => by
      obtain ⟨ds, y, m, -, hdl, hcl, ht⟩ := hat j hj
      obtain ⟨u0, u1, rfl⟩ : ∃ a b, ds = [a, b] := by
        match ds, hdl with
        | [a, b], _ => exact ⟨a, b, rfl⟩
      obtain ⟨xs, k, -, rfl, hl, hlen, hf⟩ := DataW.trod_struct Tryz.underlying64 ht
      have f0 := hf 0 _ rfl
      have f1 := hf 1 _ rfl
      have hx0 : xs[0]? = some (xs[0]'(by rw [hlen]; decide)) := List.getElem?_eq_getElem _
      have hx1 : xs[1]? = some (xs[1]'(by rw [hlen]; decide)) := List.getElem?_eq_getElem _
      obtain ⟨ts, hts⟩ := open_T (v := u0) (f0.trans hx0)
      obtain ⟨s, hs, -, hsz⟩ := DataW.trod_string Tryz.underlying9 (f1.trans hx1)
      have hs' : [u1] = [Value.string s] := hs
      simp only [List.cons.injEq, and_true] at hs'
      subst hs'
      exact ⟨(ts, s.data.toList), u0, hcl 0 _ rfl, hcl 1 _ rfl, hts, by simpa using hsz⟩)
    exact ⟨l, ⟨_, n, c, rfl, hl, h1, h2, fun _ => ⟨b, off, rfl, hb, hp⟩⟩⟩
  · obtain rfl : n = 0 := by omega
    exact ⟨[], ⟨A, 0, c, rfl, rfl, h1, h2, fun h => absurd h (by omega)⟩⟩

set_option maxRecDepth 100000 in
/-- a value that reads -/
theorem open_Val : ∀ (fuel : Nat) (cs : List Value) (x : DataW H × List MemPlace), DataW.trod enc Tryz.prog w base spare held fuel 26 cs = some x → ∃ y : Val, RdVal fuel w cs y := by
  intro fuel
  induction fuel using Nat.strongRecOn with
  | _ fuel ih =>
    intro cs x h
    obtain ⟨xs, k, hfu, -, hl, hlen, hf⟩ := DataW.trod_struct Tryz.underlying26 h
    have h4 : cs.length = 4 := hl.trans (by kernel_rfl)
    obtain ⟨u0, u1, u2, u3, rfl⟩ : ∃ a b c d, cs = [a, b, c, d] := by
      match cs, h4 with
      | [a, b, c, d], _ => exact ⟨a, b, c, d, rfl⟩
    have f0 := hf 0 _ rfl
    have f1 := hf 1 _ rfl
    have f2 := hf 2 _ rfl
    have f3 := hf 3 _ rfl
    have hx0 : xs[0]? = some (xs[0]'(by rw [hlen]; decide)) := List.getElem?_eq_getElem _
    have hx1 : xs[1]? = some (xs[1]'(by rw [hlen]; decide)) := List.getElem?_eq_getElem _
    have hx2 : xs[2]? = some (xs[2]'(by rw [hlen]; decide)) := List.getElem?_eq_getElem _
    have hx3 : xs[3]? = some (xs[3]'(by rw [hlen]; decide)) := List.getElem?_eq_getElem _
    obtain ⟨N, hN, -⟩ := DataW.trod_int Tryz.underlying2 (f0.trans hx0)
    have hN' : [u0] = [Value.int .i64 N] := hN
    simp only [List.cons.injEq, and_true] at hN'
    subst hN'
    obtain ⟨nm, hnm, hnl⟩ := open_S (v := u1) (f1.trans hx1)
    obtain ⟨es, hes⟩ := open_E (v := u3) (f3.trans hx3)
    obtain ⟨A, n, c, rfl, h1, h2, h3⟩ := open_row (v := u2) Tryz.underlying23 4 (by kernel_rfl) (by decide) (f2.trans hx2)
    obtain ⟨An, nn, cn, rfl, -⟩ := id hnm
    subst hfu
    by_cases hn : 0 < n
    · obtain ⟨b, off, rfl, hb, hat⟩ := h3 hn
      obtain ⟨l, hl, hp⟩ := list_of (n := n) (p := fun j (y : Val) => ∃ ds, ds.length = 4 ∧ (∀ i u, ds[i]? = some u → w.cell? ⟨b, off + j * 4 + i, none⟩ = some u) ∧ RdVal k w ds y) (fun j hj => by
        obtain ⟨ds, y, m, hm, hdl, hcl, ht⟩ := hat j hj
        obtain ⟨z, hz⟩ := ih m (by omega) ds y ht
        exact ⟨z, ds, hdl, hcl, RdVal.up (by omega) hz⟩)
      exact ⟨.mk N nm l es, An, nn, cn, _, n, c, u3, rfl, hnm, hnl, hes, hl, h1, h2, fun _ => ⟨b, off, rfl, hb, hp⟩⟩
    · obtain rfl : n = 0 := by omega
      exact ⟨.mk N nm [] es, An, nn, cn, A, 0, c, u3, rfl, hnm, hnl, hes, rfl, h1, h2, fun h => absurd h (by omega)⟩
end
end Go.Proofs.YthldgioggjpnpaaGreat
