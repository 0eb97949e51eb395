/-
  Contracts: join.elements, check, JoinAll, Join at registers.
  Contracts: join.Join, register.lattice, single, Clock; walks of clocks are valid.
  Contracts: register.single, Write; join.Join.
  Contract: register.Names: the names, ascending, each once.
-/
import Derived.Test.YthldgioggjpnpaaGreatT9
import Derived.Maps.OwnSet
import Derived.Maps.OwnOps
import Derived.StringKeys
namespace Go.Proofs.YthldgioggjpnpaaGreat.Old
open Go.RowKit

/-- what a value is known by: its number, how many names and parts, its entries -/
abbrev VR := Int × Nat × Nat × List En
/-- a slice of values -/
def RdL (w : World) (v : Value) (vs : List VR) : Prop :=
  ∃ A n c, v = .slice A n c ∧ vs.length = n ∧ n ≤ c ∧ c ≤ maxLen ∧
    (0 < n → ∃ b off, A = some ⟨b, off, none⟩ ∧ b < w.heap.size ∧ ∀ j x, vs[j]? = some x →
      ∃ An cn Ap cp ve, w.cell? ⟨b, off + j * 4, none⟩ = some (.int .i64 x.1) ∧ w.cell? ⟨b, off + j * 4 + 1, none⟩ = some (.slice An x.2.1 cn) ∧ w.cell? ⟨b, off + j * 4 + 2, none⟩ = some (.slice Ap x.2.2.1 cp) ∧ w.cell? ⟨b, off + j * 4 + 3, none⟩ = some ve ∧ RdE w ve x.2.2.2)
theorem RdL.ext {w w' : World} {v : Value} {vs : List VR} (h : RdL w v vs) (he : Ext w w') : RdL w' v vs := by
  obtain ⟨A, n, c, hv, hl, h1, h2, h3⟩ := h
  refine ⟨A, n, c, hv, hl, h1, h2, fun hn => ?_⟩
  obtain ⟨b, off, hA, hb, hc⟩ := h3 hn
  refine ⟨b, off, hA, Nat.lt_of_lt_of_le hb he.size, fun j x hj => ?_⟩
  obtain ⟨An, cn, Ap, cp, ve, e0, e1, e2, e3, e4⟩ := hc j x hj
  exact ⟨An, cn, Ap, cp, ve, he.cell e0, he.cell e1, he.cell e2, he.cell e3, e4.ext he⟩
theorem RdL.at_ {w : World} {A : Option Addr} {n c : Nat} {vs : List VR} (h : RdL w (.slice A n c) vs) {j : Nat} (hj : j < n) :
    ∃ b off x An cn Ap cp ve, A = some ⟨b, off, none⟩ ∧ b < w.heap.size ∧ vs[j]? = some x ∧ w.cell? ⟨b, off + j * 4, none⟩ = some (.int .i64 x.1) ∧ w.cell? ⟨b, off + j * 4 + 1, none⟩ = some (.slice An x.2.1 cn) ∧ w.cell? ⟨b, off + j * 4 + 2, none⟩ = some (.slice Ap x.2.2.1 cp) ∧ w.cell? ⟨b, off + j * 4 + 3, none⟩ = some ve ∧ RdE w ve x.2.2.2 := by
  obtain ⟨A', n', c', he, hl, h1, h2, h3⟩ := h
  injection he with e1 e2 e3
  subst e1 e2 e3
  obtain ⟨b, off, hA, hb, hc⟩ := h3 (by omega)
  have hjl : j < vs.length := by omega
  have e := List.getElem?_eq_getElem hjl
  obtain ⟨An, cn, Ap, cp, ve, r⟩ := hc j _ e
  exact ⟨b, off, _, An, cn, Ap, cp, ve, hA, hb, e, r⟩

theorem RdE.slice {w : World} {v : Value} {es : List En} (h : RdE w v es) : ∃ A n c, v = .slice A n c := by
  obtain ⟨A, n, c, hv, -⟩ := h
  exact ⟨A, n, c, hv⟩
end Go.Proofs.YthldgioggjpnpaaGreat.Old

namespace Go.Proofs.YthldgioggjpnpaaGreat.Old
open Go.RowKit

def clockFold (c : List Tk) (es : List En) : List Tk := es.foldl (fun c e => walkT maxF c e.1) c
def clockR (es : List En) : List Tk := clockFold [] es

end Go.Proofs.YthldgioggjpnpaaGreat.Old

namespace Go.Proofs.YthldgioggjpnpaaGreat.Old
open Go.RowKit

/-- the outcome of Write: its error and its entries -/
def writeR (reg : Bool) (es : List En) (p : Int) (nm : Nm) : Int × List En :=
  if reg = false then (4, [])
  else if p < 0 ∨ 63 < p then (1, [])
  else if okName nm = false then (3, [])
  else if getT (clockR es) p = 1000000000000000 then (6, [])
  else (0, [(walkT maxF (clockR es) [(p, getT (clockR es) p + 1)], nm)])

end Go.Proofs.YthldgioggjpnpaaGreat.Old

namespace Go.Proofs.YthldgioggjpnpaaGreat.Old
open Go.RowKit Go.Maps

theorem plainElem_bool_inv {H : Type} {P : Program} {e : TypeId} (he : P.underlying e = some .bool) {v : Value} {z : DataW H × List MemPlace} (h : plainElem P e v = some z) : ∃ x, v = .bool x ∧ z = (.lit (.bool x), []) := by
  unfold plainElem at h
  rw [he] at h
  cases v <;> simp at h
  exact ⟨_, rfl, h.symm⟩
theorem wpList_lookup_own_bool {H : Type} {P : Program} (w : World) {ops : Array Oper} {rest : List Oper} {o : Oper} {a : Act} {Q : Exit → Act → World → Prop}
    (hg : o.guard = none) (m x : Operand) (t : TypeId) (hop : o.op = Op.lookup t m x false)
    (k e : TypeId) (K : Keyed P k) (ht : P.underlying t = some (.map k e)) (he : P.underlying e = some .bool) (hz : (zeroValue e).run P w = .ok (.bool false) w) (b n : Nat) (D : DataW H)
    (hm : a.eval m = .map (some b)) (hown : w.ownsMap P k (plainElem P e) b n D) (key : Value) (kl : Lit) (hx : a.eval x = key) (hkey : keyOf P k key = some kl) (r : Bool) (hr : D.atKey kl (.lit (.bool false)) = .lit (.bool r))
    (hK : wpList P ops Q rest (a.put o.dst (.bool r)) w) :
    wpList P ops Q (o :: rest) a w := by
  refine wpList_plain hg fun K' hK' => ?_
  obtain ⟨v, ps, hrun, hv⟩ := hown.lookup K ht hz (plainElem_bool he false) hkey
  obtain ⟨y, rfl, hy⟩ := plainElem_bool_inv he hv
  rw [hr] at hy
  simp only [Prod.mk.injEq, DataW.lit.injEq, Lit.bool.injEq] at hy
  obtain ⟨rfl, -⟩ := hy
  unfold Oper.wp
  simp [execOp, hop, hm, hx, hrun, Result.andThen]
  exact hK' _ _ hK

theorem ltB_iff (x y : Nm) : x < y ↔ Lib.compareBytes x y < 0 := by
  induction x generalizing y with
  | nil => cases y <;> simp [Lib.compareBytes]
  | cons a ar ih =>
    cases y with
    | nil => simp [Lib.compareBytes]
    | cons b br =>
      rw [List.cons_lt_cons_iff, ih]
      simp only [Lib.compareBytes]
      by_cases h1 : a < b
      · simp [h1]
      · by_cases h2 : b < a
        · have : a ≠ b := fun e => by subst e; exact h1 h2
          simp [h1, h2, this]
        · have : a = b := by
            apply UInt8.toNat_inj.1
            rw [UInt8.lt_iff_toNat_lt] at h1 h2
            omega
          simp [this]
theorem leB_iff (x y : Nm) : x ≤ y ↔ Lib.compareBytes x y ≤ 0 := by
  rw [show (x ≤ y) = ¬ (y < x) from rfl, ltB_iff]
  have := compareBytes_ok.anti x y
  omega

def addN (acc : List Nm) (x : Nm) : List Nm := if x ∈ acc then acc else acc ++ [x]
def firsts (es : List En) : List Nm := es.foldl (fun acc e => addN acc e.2) []
theorem foldl_addN_mem (es : List En) (acc : List Nm) (x : Nm) : x ∈ es.foldl (fun acc e => addN acc e.2) acc ↔ x ∈ acc ∨ ∃ e ∈ es, e.2 = x := by
  induction es generalizing acc with
  | nil => simp
  | cons e r ih =>
    rw [List.foldl_cons, ih]
    unfold addN
    by_cases h : e.2 ∈ acc
    · rw [if_pos h]
      constructor
      · rintro (h1 | ⟨d, h1, h2⟩)
        · exact .inl h1
        · exact .inr ⟨d, List.mem_cons_of_mem _ h1, h2⟩
      · rintro (h1 | ⟨d, h1, h2⟩)
        · exact .inl h1
        · rcases List.mem_cons.1 h1 with rfl | h1
          · exact .inl (h2 ▸ h)
          · exact .inr ⟨d, h1, h2⟩
    · rw [if_neg h]
      constructor
      · rintro (h1 | ⟨d, h1, h2⟩)
        · rcases List.mem_append.1 h1 with h1 | h1
          · exact .inl h1
          · rw [List.mem_singleton] at h1; exact .inr ⟨e, List.mem_cons_self, h1.symm⟩
        · exact .inr ⟨d, List.mem_cons_of_mem _ h1, h2⟩
      · rintro (h1 | ⟨d, h1, h2⟩)
        · exact .inl (List.mem_append_left _ h1)
        · rcases List.mem_cons.1 h1 with rfl | h1
          · exact .inl (List.mem_append_right _ (by rw [h2]; simp))
          · exact .inr ⟨d, h1, h2⟩
theorem foldl_addN_nodup (es : List En) (acc : List Nm) (h : acc.Nodup) : (es.foldl (fun acc e => addN acc e.2) acc).Nodup := by
  induction es generalizing acc with
  | nil => exact h
  | cons e r ih =>
    rw [List.foldl_cons]
    refine ih _ ?_
    unfold addN
    by_cases h1 : e.2 ∈ acc
    · rw [if_pos h1]; exact h
    · rw [if_neg h1]
      rw [List.nodup_append]
      exact ⟨h, by simp, fun a ha b hb e1 => h1 (by rw [List.mem_singleton] at hb; rw [← hb, ← e1]; exact ha)⟩

/-- the names of entries: ascending, each once -/
def NamesOf (es : List En) (l : List Nm) : Prop := l.Pairwise (fun x y => Lib.compareBytes x y < 0) ∧ ∀ x, x ∈ l ↔ ∃ e ∈ es, e.2 = x
theorem namesOf_sort (es : List En) : NamesOf es ((firsts es).mergeSort fun x y => decide (x ≤ y)) := by
  have hp := List.mergeSort_perm (firsts es) (fun x y => decide (x ≤ y))
  have hs : ((firsts es).mergeSort fun x y => decide (x ≤ y)).Pairwise (fun x y => decide (x ≤ y) = true) := List.pairwise_mergeSort (fun a b c h1 h2 => by
    simp only [decide_eq_true_eq, leB_iff] at *
    exact compareBytes_ok.trans _ _ _ h1 h2) (fun a b => by
    simp only [Bool.or_eq_true, decide_eq_true_eq, leB_iff]
    have := compareBytes_ok.anti a b
    omega) _
  have hn := hp.nodup_iff.2 (foldl_addN_nodup es [] List.nodup_nil)
  refine ⟨?_, fun x => ?_⟩
  · refine (List.pairwise_and_iff.2 ⟨hs, hn⟩).imp ?_
    rintro a b ⟨h1, h2⟩
    simp only [decide_eq_true_eq, leB_iff] at h1
    rcases Int.lt_or_eq_of_le h1 with h | h
    · exact h
    · exact absurd (compareBytes_ok.eq _ _ h) h2
  · rw [hp.mem_iff]
    unfold firsts
    rw [foldl_addN_mem]
    simp

section sorts
open Go.Sort Go.Shelf
theorem Ext.putRow {α : Type} [Inhabited α] {w0 w : World} (h : Ext w0 w) (enc : α → Value) (blk off m : Nat) (d : Array α) (os : Array Obj) (hb : w0.heap.size ≤ blk) (hblk : blk < w.heap.size) :
    Ext w0 (grow (Sort.putRow enc (Sort.ahead w m) blk off d) os) := by
  have e : ∀ i, i < w0.heap.size → (grow (Sort.putRow enc (Sort.ahead w m) blk off d) os).heap[i]? = w.heap[i]? := fun i hi => by
    have h1 := h.size
    unfold Sort.putRow mapBlock grow Sort.ahead
    simp only
    rw [Array.getElem?_append, if_pos (by simp; omega), Array.getElem?_modify, if_neg (by omega)]
  exact ⟨h.os, h.tape, h.output, by have := h.size; unfold Sort.putRow mapBlock grow Sort.ahead; simp; omega, fun i hi => (e i hi).trans (h.block i hi)⟩

theorem sortS_any (w0 w : World) (v : Value) (l : List Nm) (h : Own w w0.heap.size 9 encS v l) (hE : Ext w0 w) (hn : l.length < 4611686018427387904) :
    Calls Tryz.prog 43 #[v] w fun e w' => e = .returned (.tuple #[]) ∧ Ext w0 w' ∧ RdS w' v (l.mergeSort fun x y => decide (x ≤ y)) := by
  have hrd := h.rd
  obtain ⟨h1, h2⟩ := h
  rcases h2 with ⟨rfl, hl0⟩ | ⟨g, cap, cur, rfl, hb, hh, hnc, hcm, hcs, htk⟩
  · have hl : l = [] := List.eq_nil_of_length_eq_zero hl0
    refine (shl_slices_Sort_string_none none 0 w).mono ?_
    rintro e w' ⟨rfl, rfl⟩
    refine ⟨rfl, hE, ?_⟩
    subst hl
    simpa using hrd
  · rcases Nat.eq_zero_or_pos l.length with h0 | h0
    · have hl : l = [] := List.eq_nil_of_length_eq_zero h0
      rw [h0]
      refine (shl_slices_Sort_string_none (some ⟨g, 0, none⟩) cap w).mono ?_
      rintro e w' ⟨rfl, rfl⟩
      refine ⟨rfl, hE, ?_⟩
      rw [h0] at hrd
      subst hl
      simpa using hrd
    · have hg : g < w.heap.size := (Array.getElem?_eq_some_iff.1 hh).1
      obtain ⟨A, n, c, hv, hl, -, -, hc⟩ := hrd
      injection hv with e1 e2 e3
      subst e1 e2 e3
      obtain ⟨b, off, hA, -, hcell⟩ := hc h0
      injection hA with hA
      injection hA with q1 q2
      subst q1 q2
      have hH : Holds encStr w g 0 l.toArray := fun j hj => by
        have hj' : j < l.length := by simpa using hj
        refine ⟨?_, Blk.frozen (show Blk w g 9 cur from hh) _⟩
        rw [getElem!_pos l.toArray j hj]
        have := hcell j l[j] (List.getElem?_eq_getElem hj')
        simpa using this
      refine (shl_slices_Sort_string g 0 cap l w hH hg hn).mono ?_
      rintro e w' ⟨rfl, n', os, rfl⟩
      have hp := List.mergeSort_perm l (fun x y => decide (x ≤ y))
      have hlen : (l.mergeSort fun x y => decide (x ≤ y)).length = l.length := hp.length_eq
      refine ⟨rfl, Ext.putRow hE _ _ _ _ _ _ hb hg, ?_⟩
      have hH' := holds_grow encStr _ os g 0 _ (by unfold Sort.putRow mapBlock Sort.ahead; simpa using hg) (holds_putRow encStr (Sort.ahead w n') g 0 l.toArray (l.mergeSort fun x y => decide (x ≤ y)).toArray hH (by simp))
      refine ⟨_, _, _, rfl, hlen, hnc, hcm, fun _ => ⟨g, 0, rfl, ?_, fun j x hj => ?_⟩⟩
      · unfold grow Sort.putRow mapBlock Sort.ahead; simp; omega
      · obtain ⟨hj', hx⟩ := List.getElem?_eq_some_iff.1 hj
        have := (hH' j (by simpa using hj')).1
        rw [getElem!_pos _ j (by simpa using hj')] at this
        simp only [List.getElem_toArray] at this
        rw [hx] at this
        exact this
end sorts

theorem infS : (Tryz.prog.info? 9).map (fun i => (i.zero, i.size, i.bytes)) = some (some (.string ⟨#[]⟩), 1, 16) := by kernel_rfl
theorem mapLaw : Keyed Tryz.prog 9 := string_keyed Tryz.underlying9
theorem zeroB (w : World) : (zeroValue 4).run Tryz.prog w = .ok (.bool false) w := by kernel_rfl

theorem namesFold_len (es : List En) (acc : List Nm) : (es.foldl (fun acc e => addN acc e.2) acc).length ≤ acc.length + es.length := by
  induction es generalizing acc with
  | nil => simp
  | cons e r ih =>
    rw [List.foldl_cons]
    have h1 := ih (addN acc e.2)
    have h2 : (addN acc e.2).length ≤ acc.length + 1 := by unfold addN; split <;> simp
    simp only [List.length_cons]
    omega

theorem map_ne_row {α : Type} {w : World} {P : Program} {k : TypeId} {R : Value → Option (DataW Unit × List MemPlace)} {B n : Nat} {D : DataW Unit} {base : Nat} {t : TypeId} {enc : α → Value} {v : Value} {l : List α}
    (hM : w.ownsMap P k R B n D) (hO : Own w base t enc v l) : v.ownBlock ≠ some B := by
  obtain ⟨es, clock, hb, -⟩ := hM
  rcases hO.2 with ⟨rfl, _⟩ | ⟨g, cap, cur, rfl, _, hh, _⟩
  · simp [Value.ownBlock]
  · intro he
    have : g = B := by simpa [Value.ownBlock] using he
    subst this
    rw [hb] at hh
    cases hh

end Go.Proofs.YthldgioggjpnpaaGreat.Old
