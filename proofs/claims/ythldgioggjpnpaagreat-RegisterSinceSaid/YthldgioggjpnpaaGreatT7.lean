/-
  Words for memory (the Register group): Ext, slices that read as lists, rows of the call's own, appends.
  Plain words for clocks: ticks, valid clocks.
  Contracts: clock.Valid, the reference's Valid, Get.
  Contracts: clock.walk with a function that chooses; Merge, Minus.
  Contracts: clock.Merge, Minus, Compare, Get, Inc at valid clocks.
  The shelf of the library's contracts, laid at this program by the kit's own two commands (numbers of this seat): strings.Compare, cmp.Compare, bits.Len, slices.Sort, SortFunc, ContainsFunc.
-/
import Derived.WalkKit
import Derived.WalkSpells
import Derived.WalkLawsBesides
import Derived.StillTactics
import Derived.Outline
import Derived.LoopTactic
import Derived.Lib.Hide
import Derived.Below
import Derived.Laws.OwnMore
import Derived.Deep.AppendLies
import Derived.Deep.Draws
import Derived.Laws.Rows
import Derived.Maps.AppendAt
import Derived.RegionTactic
import Derived.OwnWalk
import Derived.Deep.RegionLaw
import Derived.Laws.CopyOwn
import Derived.Laws.MakeOwn
import Derived.Deep.DeepMust
import Derived.Deep.DeepCutAuto
import Derived.Deep.CutBlock
import Derived.Deep.QuietTactic
import Derived.BigQuiet
import Derived.Test.YthldgioggjpnpaaGreatRows
import Derived.Shelf.Small.Bits
import Derived.Shelf.Small.Strs
import Derived.Shelf.Small.Wraps
import Derived.Shelf.Strconv.Itoa0
import Derived.Shelf.Sort.Plain
import Derived.Shelf.Slices.In.SortNone
import Derived.Shelf.SlGeneric
import Derived.Shelf.SlSortCmp.WholeK
import Derived.Shelf.SlicesQ.IndexFunc
import Derived.Ground.SlsfProg
import Derived.Ground.SlgfProg
namespace Go.Proofs.YthldgioggjpnpaaGreat.Old
open Go.RowKit

abbrev Nm := List UInt8

/-- all that lay in w lies in w' unturned -/
def Ext (w w' : World) : Prop := Below w.heap.size w w'

theorem Ext.refl (w : World) : Ext w w := Below.refl _ _
theorem Ext.trans {a b c : World} (h : Ext a b) (k : Ext b c) : Ext a c := Below.trans h (Below.mono k h.size)
theorem Ext.drew {a w : World} (h : Ext a w) : Ext a w.drew := Below.drew h
theorem Ext.drewN {a w : World} (h : Ext a w) (n : Nat) : Ext a (w.drewN n) := ⟨h.os, h.tape, h.output, h.size, h.block⟩
theorem Ext.alloc {a w : World} (h : Ext a w) (o : Obj) : Ext a (w.alloc o) := Below.alloc h h.size o
theorem Ext.setCell {a w : World} (h : Ext a w) {p : Addr} (hp : a.heap.size ≤ p.block) (u : Value) : Ext a (w.setCell p u) := Below.setCell h hp u
theorem Ext.grown {a w w' : World} {row : Option Nat} (h : Ext a w) (hg : w.grownBy w' row) (hr : ∀ k, row = some k → a.heap.size ≤ k) : Ext a w' := Below.grown h hg h.size hr
theorem Ext.size {a w : World} (h : Ext a w) : a.heap.size ≤ w.heap.size := Below.size h
theorem Ext.cell {w w' : World} (h : Ext w w') {p : Addr} {u : Value} (hc : w.cell? p = some u) : w'.cell? p = some u := by
  have hb := World.block_lt_of_cell? w p hc
  rw [Below.cell h hb]; exact hc

/-- a slice whose elements have k cells and of whose elements E tells -/
def RdG {α : Type} (w : World) (k : Nat) (E : α → Nat → Nat → Prop) (v : Value) (l : List α) : Prop :=
  ∃ A n c, v = .slice A n c ∧ l.length = n ∧ n ≤ c ∧ c ≤ maxLen ∧
    (0 < n → ∃ b off, A = some ⟨b, off, none⟩ ∧ b < w.heap.size ∧ ∀ j x, l[j]? = some x → E x b (off + j * k))

theorem RdG.mono {α : Type} {w w' : World} {k : Nat} {E E' : α → Nat → Nat → Prop} {v : Value} {l : List α} (h : RdG w k E v l) (he : Ext w w')
    (hE : ∀ x b o, x ∈ l → b < w.heap.size → E x b o → E' x b o) : RdG w' k E' v l := by
  obtain ⟨A, n, c, hv, hl, h1, h2, h3⟩ := h
  refine ⟨A, n, c, hv, hl, h1, h2, fun hn => ?_⟩
  obtain ⟨b, off, hA, hb, hc⟩ := h3 hn
  exact ⟨b, off, hA, Nat.lt_of_lt_of_le hb he.size, fun j x hj => hE _ _ _ (List.mem_of_getElem? hj) hb (hc j x hj)⟩

/-- one cell an element -/
def Rd1 {α : Type} (w : World) (enc : α → Value) (v : Value) (l : List α) : Prop :=
  ∃ A n c, v = .slice A n c ∧ l.length = n ∧ n ≤ c ∧ c ≤ maxLen ∧
    (0 < n → ∃ b off, A = some ⟨b, off, none⟩ ∧ b < w.heap.size ∧ ∀ j x, l[j]? = some x → w.cell? ⟨b, off + j, none⟩ = some (enc x))

theorem Rd1.ext {α : Type} {w w' : World} {enc : α → Value} {v : Value} {l : List α} (h : Rd1 w enc v l) (he : Ext w w') : Rd1 w' enc v l := by
  obtain ⟨A, n, c, hv, hl, h1, h2, h3⟩ := h
  refine ⟨A, n, c, hv, hl, h1, h2, fun hn => ?_⟩
  obtain ⟨b, off, hA, hb, hc⟩ := h3 hn
  exact ⟨b, off, hA, Nat.lt_of_lt_of_le hb he.size, fun j x hj => he.cell (hc j x hj)⟩

abbrev encS (x : Nm) : Value := .string ⟨x.toArray⟩
abbrev RdS (w : World) (v : Value) (l : List Nm) : Prop := Rd1 w encS v l
theorem block_of_add (a : Addr) (n : Nat) : (a.add n).block = a.block := by unfold Addr.add; split <;> rfl
def Reads (w : World) (B size : Nat) (A : Option Addr) (n : Nat) (xs : List Value) : Prop :=
  xs.length = n * size ∧ (0 < n → ∃ ad, A = some ad ∧ ad.block < B ∧ ∀ j u, xs[j]? = some u → w.cell? (ad.add j) = some u)

section
variable {w w' : World} {B B' size n : Nat} {A : Option Addr} {xs : List Value}
theorem Reads.at_ {k : Nat} (h : Reads w B 1 A n xs) (hk : k < n) : ∃ ad u, A = some ad ∧ ad.block < B ∧ xs[k]? = some u ∧ w.cell? (ad.add k) = some u := by
  obtain ⟨ad, e, hb, hc⟩ := h.2 (by omega)
  have hl : k < xs.length := by have := h.1; omega
  exact ⟨ad, xs[k], e, hb, List.getElem?_eq_getElem hl, hc k _ (List.getElem?_eq_getElem hl)⟩
theorem Reads.keep (h : Reads w B size A n xs) (hk : ∀ p : Addr, p.block < B → w'.cell? p = w.cell? p) : Reads w' B size A n xs :=
  ⟨h.1, fun hn => by
    obtain ⟨ad, e, hb, hc⟩ := h.2 hn
    exact ⟨ad, e, hb, fun j u hu => (hk _ (by rw [block_of_add]; exact hb)).trans (hc j u hu)⟩⟩
theorem Reads.more (h : Reads w B size A n xs) (hB : B ≤ B') : Reads w B' size A n xs :=
  ⟨h.1, fun hn => by
    obtain ⟨ad, e, hb, hc⟩ := h.2 hn
    exact ⟨ad, e, by omega, hc⟩⟩
theorem Reads.below (h : Reads w B size A n xs) (hb : Below B w w') : Reads w' B size A n xs := h.keep fun _ hp => hb.cell hp
theorem Reads.drew (h : Reads w B size A n xs) : Reads w.drew B size A n xs := h
theorem Reads.drewN (h : Reads w B size A n xs) (k : Nat) : Reads (w.drewN k) B size A n xs := h
theorem Reads.alloc (h : Reads w B size A n xs) (hB : B ≤ w.heap.size) (o : Obj) : Reads (w.alloc o) B size A n xs := h.keep fun p hp => World.cell?_alloc_lt w o p (by omega)
theorem Reads.setCell (h : Reads w B size A n xs) {p : Addr} (hB : B ≤ p.block) (u : Value) : Reads (w.setCell p u) B size A n xs :=
  h.keep fun q hq => World.cell?_setCell_other w p q u (fun e => by subst e; omega)
theorem Reads.grown (h : Reads w B size A n xs) {row : Option Nat} (hg : w.grownBy w' row) (hB : B ≤ w.heap.size) (hr : ∀ g, row = some g → B ≤ g) : Reads w' B size A n xs :=
  h.keep fun p hp => World.cell?_of_block (hg.block p.block (by omega) (fun e => by have := hr _ e.symm; omega))
theorem Reads.of_own {base : Nat} {e : TypeId} {c : Nat} (h : w.ownsRow base e size (.slice A n c) n xs) : Reads w w.heap.size size A n xs := by
  refine ⟨h.1, fun hn => ?_⟩
  obtain ⟨g, cap, hv, _, hlt⟩ := h.form hn
  have hA : A = some ⟨g, 0, none⟩ := by injection hv
  subst hA
  exact ⟨_, rfl, hlt, h.cells (g := g) rfl⟩
end

def Blk (w : World) (g : Nat) (t : TypeId) (cs : Array Value) : Prop := w.heap[g]? = some (.cells cs t (0, 0))

section
variable {w w' : World} {g : Nat} {t : TypeId} {cs : Array Value}
theorem Blk.lt (h : Blk w g t cs) : g < w.heap.size := by
  rcases Nat.lt_or_ge g w.heap.size with hlt | hge
  · exact hlt
  · unfold Blk at h; rw [Array.getElem?_eq_none hge] at h; cases h
theorem Blk.cell (h : Blk w g t cs) (i : Nat) : w.cell? ⟨g, i, none⟩ = cs[i]? := cell_of_row w g i cs t (0, 0) h
theorem Blk.frozen (h : Blk w g t cs) (i : Nat) : w.frozen? ⟨g, i, none⟩ = false := by
  unfold Blk at h
  simp [World.frozen?, h]
theorem Blk.new (w : World) (t : TypeId) (cs : Array Value) : Blk (w.alloc (.cells cs t)) w.heap.size t cs := heap_alloc_new w _
theorem Blk.drew (h : Blk w g t cs) : Blk w.drew g t cs := h
theorem Blk.drewN (h : Blk w g t cs) (n : Nat) : Blk (w.drewN n) g t cs := h
theorem Blk.alloc (h : Blk w g t cs) (o : Obj) : Blk (w.alloc o) g t cs := (Below.heap_alloc w o g h.lt).trans h
theorem Blk.far (h : Blk w g t cs) {p : Addr} (hp : g ≠ p.block) (u : Value) : Blk (w.setCell p u) g t cs := (Below.heap_setCell w p u g hp).trans h
theorem Blk.below {B : Nat} (h : Blk w g t cs) (hb : Below B w w') (hg : g < B) : Blk w' g t cs := (hb.block g hg).trans h
theorem Blk.grown {row : Option Nat} (h : Blk w g t cs) (hb : w.grownBy w' row) (hg : some g ≠ row) : Blk w' g t cs := (hb.block g h.lt hg).trans h
theorem Blk.ne_ {g' : Nat} {t' : TypeId} {cs' : Array Value} (h : Blk w g t cs) (h' : Blk w g' t' cs') (hne : t ≠ t') : g ≠ g' := by
  rintro rfl
  unfold Blk at h h'
  rw [h] at h'
  injection h' with h'
  injection h' with _ ht
  exact hne ht
theorem own_blk_ne {base : Nat} {e : TypeId} {size n : Nat} {v : Value} {xs : List Value} (h : w.ownsRow base e size v n xs) (hg : Blk w g t cs) (hne : e ≠ t) : v.ownBlock ≠ some g := by
  rcases h.2 with ⟨rfl, _⟩ | ⟨g', cap, cur, rfl, _, hh, _⟩
  · simp [Value.ownBlock]
  · intro he
    have : g' = g := by simpa [Value.ownBlock] using he
    subst this
    exact Blk.ne_ (t := e) hh hg hne rfl
end

section
variable {P : Program} (w : World)

end

/-! ### words of this seat -/
theorem Ext.heap {w w' : World} (h : Ext w w') {g : Nat} {o : Obj} (hg : w.heap[g]? = some o) : w'.heap[g]? = some o := by
  have hlt : g < w.heap.size := (Array.getElem?_eq_some_iff.1 hg).1
  rw [h.block g hlt]; exact hg
theorem Blk.ext {w w' : World} {g : Nat} {t : TypeId} {cs : Array Value} (h : Blk w g t cs) (he : Ext w w') : Blk w' g t cs := he.heap h

/-- an array of the call's own, known whole -/
def Arr {α : Type} (w : World) (t : TypeId) (enc : α → Value) (g : Nat) (l : List α) : Prop := Blk w g t (l.map enc).toArray
section
variable {α : Type} {w w' : World} {t : TypeId} {enc : α → Value} {g : Nat} {l : List α}
theorem Arr.cell (h : Arr w t enc g l) {i : Nat} {x : α} (hx : l[i]? = some x) : w.cell? ⟨g, i, none⟩ = some (enc x) := by
  rw [Blk.cell h i]; simp [hx]
theorem Arr.frozen (h : Arr w t enc g l) (i : Nat) : w.frozen? ⟨g, i, none⟩ = false := Blk.frozen h i
theorem Arr.lt (h : Arr w t enc g l) : g < w.heap.size := Blk.lt h
theorem Arr.ext (h : Arr w t enc g l) (he : Ext w w') : Arr w' t enc g l := Blk.ext h he
theorem Arr.far (h : Arr w t enc g l) {p : Addr} (hp : g ≠ p.block) (u : Value) : Arr (w.setCell p u) t enc g l := Blk.far h hp u
theorem Arr.rd (h : Arr w t enc g l) (hm : l.length ≤ maxLen) : Rd1 w enc (.slice (some ⟨g, 0, none⟩) l.length l.length) l :=
  ⟨_, _, _, rfl, rfl, Nat.le_refl _, hm, fun _ => ⟨g, 0, rfl, h.lt, fun j x hj => by rw [Nat.zero_add]; exact h.cell hj⟩⟩
end

/-- a row of the call's own that reads as a list, one cell an element -/
def Own {α : Type} (w : World) (base : Nat) (t : TypeId) (enc : α → Value) (v : Value) (l : List α) : Prop := w.ownsRow base t 1 v l.length (l.map enc)
section
variable {α : Type} {w w' : World} {base : Nat} {t : TypeId} {enc : α → Value} {v : Value} {l : List α}
theorem Own.nil (w : World) (base : Nat) (t : TypeId) (enc : α → Value) : Own w base t enc (.slice none 0 0) [] := World.ownsRow_nil w base t 1
theorem Own.ext (h : Own w base t enc v l) (he : Ext w w') : Own w' base t enc v l :=
  World.ownsRow.kept (row := none) h ⟨he.os, he.tape, he.output, he.size, fun k hk _ => he.block k hk⟩ (by
    rcases hv : v.ownBlock with _ | k
    · exact .inl rfl
    · right; simp)
theorem Own.up {base' : Nat} (h : Own w base t enc v l) (hb : base' ≤ base) : Own w base' t enc v l := by
  obtain ⟨h1, h2⟩ := h
  refine ⟨h1, ?_⟩
  rcases h2 with h2 | ⟨g, cap, cur, hv, hg, r⟩
  · exact .inl h2
  · exact .inr ⟨g, cap, cur, hv, Nat.le_trans hb hg, r⟩
theorem Own.rd (h : Own w base t enc v l) : Rd1 w enc v l := by
  obtain ⟨h1, h2⟩ := h
  rcases h2 with ⟨rfl, hn⟩ | ⟨g, cap, cur, rfl, hb, hg, hnc, hcm, hcs, htk⟩
  · exact ⟨none, 0, 0, rfl, hn, Nat.le_refl _, Nat.zero_le _, fun h => absurd h (by omega)⟩
  · refine ⟨_, _, _, rfl, rfl, hnc, hcm, fun hn => ⟨g, 0, rfl, (Array.getElem?_eq_some_iff.1 hg).1, fun j x hj => ?_⟩⟩
    have hjl : j < l.length := (List.getElem?_eq_some_iff.1 hj).1
    rw [Nat.zero_add, cell_of_row w g j cur t (0, 0) hg]
    have : (cur.toList.take (l.length * 1))[j]? = some (enc x) := by rw [htk]; simp [hj]
    rw [List.getElem?_take] at this
    simp only [Nat.mul_one, hjl, if_true] at this
    simpa using this
end
theorem Rd1.reads {α : Type} {w : World} {enc : α → Value} {v : Value} {l : List α} (h : Rd1 w enc v l) : ∃ A n c, v = .slice A n c ∧ n = l.length ∧ Reads w w.heap.size 1 A n (l.map enc) := by
  obtain ⟨A, n, c, rfl, hl, h1, h2, h3⟩ := h
  refine ⟨A, n, c, rfl, hl.symm, by simp [hl], fun hn => ?_⟩
  obtain ⟨b, off, rfl, hb, hc⟩ := h3 hn
  refine ⟨⟨b, off, none⟩, rfl, hb, fun j u hu => ?_⟩
  rw [List.getElem?_map] at hu
  cases hx : l[j]? with
  | none => rw [hx] at hu; cases hu
  | some x =>
    rw [hx] at hu
    cases hu
    have := hc j x hx
    unfold Addr.add
    split
    · subst_vars; simpa using this
    · exact this
theorem cell_new1 (w : World) (x : Value) (t : TypeId) : (w.alloc (.cells #[x] t)).cell? ⟨w.heap.size, 0, none⟩ = some x := by
  exact (Blk.new w t #[x]).cell 0

/-! ### make and append, the world behind them a letter -/
section
variable {P : Program} {w : World} {ops : Array Oper} {rest : List Oper} {o : Oper} {a : Act} {Q : Exit → Act → World → Prop}
theorem Own.base {α : Type} {w0 w : World} {e : TypeId} {enc : α → Value} {v : Value} {l : List α} (hown : Own w w0.heap.size e enc v l) : ∀ k, v.ownBlock = some k → w0.heap.size ≤ k :=
  fun k hk => (World.ownsRow.lt hown k hk).1

theorem wp_append_one {K : Act → World → Prop} (s x : Operand) (t : TypeId) (ho : o.op = .call { callee := .builtin .append, args := #[s, x], argTypes := #[t, t] })
    (e : TypeId) (i : TypeInfo) (z : Value) (bytes : Nat) (ht : P.underlying t = some (.slice e)) (hi : P.info? e = some i) (hz : i.zero = some z)
    (hz1 : i.size = 1) (hby : i.bytes = bytes) (hcells : z.cells.size = 1) {α : Type} (enc : α → Value) (w0 : World) (hE : Ext w0 w) (v : Value) (l : List α) (hs : a.eval s = v) (hown : Own w w0.heap.size e enc v l)
    (g c : Nat) (y : α) (hx : a.eval x = .slice (some ⟨g, 0, none⟩) 1 c) (hcell : w.cell? ⟨g, 0, none⟩ = some (enc y)) (h1 : (enc y).oneCell' = true)
    (hm : l.length + 1 ≤ maxLen) (hb : (l.length + 1) * bytes ≤ 140737488355328)
    (h : ∀ v' w', Own w' w0.heap.size e enc v' (l ++ [y]) → Ext w0 w' → w.grownBy w' v.ownBlock → K (a.put o.dst v') w') : o.wp P a w K Q := by
  refine wp_append_own w s x t ho w0.heap.size e i z 1 bytes ht hi hz hz1 hby hcells (by decide) v l.length (l.map enc) hs hown ⟨g, 0, none⟩ 1 c [enc y] hx rfl ?_ ?_ hm hb hE.size ?_
  · intro j u hu
    cases j with
    | zero => cases hu; exact hcell
    | succ j => simp at hu
  · intro u hu
    rw [List.mem_singleton] at hu
    subst hu
    exact h1
  · intro v' w' hown' hg _
    refine h v' w' ?_ (hE.grown hg (Own.base hown)) hg
    show w'.ownsRow _ _ _ _ _ _
    simpa using hown'

theorem wpList_append_one (hgd : o.guard = none) (s x : Operand) (t : TypeId) (ho : o.op = .call { callee := .builtin .append, args := #[s, x], argTypes := #[t, t] })
    (e : TypeId) (i : TypeInfo) (z : Value) (bytes : Nat) (ht : P.underlying t = some (.slice e)) (hi : P.info? e = some i) (hz : i.zero = some z)
    (hz1 : i.size = 1) (hby : i.bytes = bytes) (hcells : z.cells.size = 1) {α : Type} (enc : α → Value) (w0 : World) (hE : Ext w0 w) (v : Value) (l : List α) (hs : a.eval s = v) (hown : Own w w0.heap.size e enc v l)
    (g c : Nat) (y : α) (hx : a.eval x = .slice (some ⟨g, 0, none⟩) 1 c) (hcell : w.cell? ⟨g, 0, none⟩ = some (enc y)) (h1 : (enc y).oneCell' = true)
    (hm : l.length + 1 ≤ maxLen) (hb : (l.length + 1) * bytes ≤ 140737488355328)
    (h : ∀ v' w', Own w' w0.heap.size e enc v' (l ++ [y]) → Ext w0 w' → w.grownBy w' v.ownBlock → wpList P ops Q rest (a.put o.dst v') w') : wpList P ops Q (o :: rest) a w :=
  wpList_plain hgd fun _ hK => wp_append_one s x t ho e i z bytes ht hi hz hz1 hby hcells enc w0 hE v l hs hown g c y hx hcell h1 hm hb fun v' w' h2 h3 h4 => hK _ _ (h v' w' h2 h3 h4)
end

/-- an array of another element type stays while a row is appended to -/
theorem Blk.appended {w w' : World} {g : Nat} {t : TypeId} {cs : Array Value} {base : Nat} {e : TypeId} {size n : Nat} {v : Value} {xs : List Value} (h : Blk w g t cs) (hg : w.grownBy w' v.ownBlock)
    (hown : w.ownsRow base e size v n xs) (hne : e ≠ t) : Blk w' g t cs :=
  h.grown hg (fun he => own_blk_ne hown h hne he.symm)
theorem Arr.appended {α β : Type} {w w' : World} {g : Nat} {t : TypeId} {enc : α → Value} {l : List α} {base : Nat} {e : TypeId} {enc' : β → Value} {v : Value} {xs : List β} (h : Arr w t enc g l) (hg : w.grownBy w' v.ownBlock)
    (hown : Own w base e enc' v xs) (hne : e ≠ t) : Arr w' t enc g l := Blk.appended h hg hown hne
/-- a row of the call's own, k cells an element -/
def OwnN {α : Type} (w : World) (base : Nat) (t : TypeId) (k : Nat) (enc : α → List Value) (v : Value) (l : List α) : Prop := w.ownsRow base t k v l.length (l.flatMap enc)
section
variable {α : Type} {w w' w0 : World} {base : Nat} {t : TypeId} {k : Nat} {enc : α → List Value} {v : Value} {l : List α}
theorem OwnN.nil (w : World) (base : Nat) (t : TypeId) (k : Nat) (enc : α → List Value) : OwnN w base t k enc (.slice none 0 0) [] := World.ownsRow_nil w base t k
theorem OwnN.ext (h : OwnN w base t k enc v l) (he : Ext w w') : OwnN w' base t k enc v l :=
  World.ownsRow.kept (row := none) h ⟨he.os, he.tape, he.output, he.size, fun k hk _ => he.block k hk⟩ (by
    rcases hv : v.ownBlock with _ | k
    · exact .inl rfl
    · right; simp)
theorem flatMap_get (hk : ∀ x, (enc x).length = k) {j : Nat} {x : α} (hx : l[j]? = some x) {i : Nat} (hi : i < k) : (l.flatMap enc)[j * k + i]? = (enc x)[i]? := by
  induction l generalizing j with
  | nil => simp at hx
  | cons a t ih =>
    rw [List.flatMap_cons]
    cases j with
    | zero =>
      simp only [List.getElem?_cons_zero, Option.some.injEq] at hx
      subst hx
      rw [List.getElem?_append_left (by rw [hk]; omega)]
      simp
    | succ j =>
      rw [List.getElem?_cons_succ] at hx
      rw [List.getElem?_append_right (by rw [hk, Nat.succ_mul]; omega), hk, ← ih hx]
      congr 1
      rw [Nat.succ_mul]
      omega
theorem flatMap_len (hk : ∀ x, (enc x).length = k) : (l.flatMap enc).length = l.length * k := by
  induction l with
  | nil => simp
  | cons a t ih => rw [List.flatMap_cons, List.length_append, hk, ih, List.length_cons, Nat.succ_mul]; omega
/-- an owned row read: its slice, and each cell -/
theorem OwnN.rd (h : OwnN w base t k enc v l) (hk : ∀ x, (enc x).length = k) :
    ∃ A n c, v = .slice A n c ∧ l.length = n ∧ n ≤ c ∧ c ≤ maxLen ∧ (0 < n → ∃ b, A = some ⟨b, 0, none⟩ ∧ b < w.heap.size ∧ ∀ j x, l[j]? = some x → ∀ i u, (enc x)[i]? = some u → w.cell? ⟨b, j * k + i, none⟩ = some u) := by
  obtain ⟨h1, h2⟩ := h
  rcases h2 with ⟨rfl, hn⟩ | ⟨g, cap, cur, rfl, hb, hg, hnc, hcm, hcs, htk⟩
  · exact ⟨none, 0, 0, rfl, hn, Nat.le_refl _, Nat.zero_le _, fun h => absurd h (by omega)⟩
  · refine ⟨_, _, _, rfl, rfl, hnc, hcm, fun hn => ⟨g, rfl, (Array.getElem?_eq_some_iff.1 hg).1, fun j x hj i u hu => ?_⟩⟩
    have hjl : j < l.length := (List.getElem?_eq_some_iff.1 hj).1
    have hil : i < k := by have := (List.getElem?_eq_some_iff.1 hu).1; rwa [hk] at this
    rw [cell_of_row w g _ cur t (0, 0) hg]
    have h3 : (cur.toList.take (l.length * k))[j * k + i]? = some u := by rw [htk, flatMap_get hk hj hil, hu]
    rw [List.getElem?_take] at h3
    have h4 : j * k + i < l.length * k := by
      have := Nat.mul_le_mul_right k (Nat.succ_le_of_lt hjl)
      rw [Nat.succ_mul] at this
      omega
    rw [if_pos h4] at h3
    simpa using h3
end

section
variable {P : Program} {w : World} {ops : Array Oper} {rest : List Oper} {o : Oper} {a : Act} {Q : Exit → Act → World → Prop}
end
/-! ### copy of a whole slice into an array of the call's own -/
theorem OwnN.far {α : Type} {w : World} {base : Nat} {t t' : TypeId} {k : Nat} {enc : α → List Value} {v : Value} {l : List α} (h : OwnN w base t k enc v l) {g i : Nat} {cs : Array Value} (hb : Blk w g t' cs) (hne : t ≠ t') (u : Value) :
    OwnN (w.setCell ⟨g, i, none⟩ u) base t k enc v l := by
  obtain ⟨h1, h2⟩ := h
  refine ⟨h1, ?_⟩
  rcases h2 with h2 | ⟨g', cap, cur, hv, hg, hh, r⟩
  · exact Or.inl h2
  · refine Or.inr ⟨g', cap, cur, hv, hg, ?_, r⟩
    rw [Below.heap_setCell _ _ _ _ ?_]
    · exact hh
    · intro he
      exact Blk.ne_ (show Blk w g' t cur from hh) hb hne he
theorem Own.far {α : Type} {w : World} {base : Nat} {t t' : TypeId} {enc : α → Value} {v : Value} {l : List α} (h : Own w base t enc v l) {g i : Nat} {cs : Array Value} (hb : Blk w g t' cs) (hne : t ≠ t') (u : Value) :
    Own (w.setCell ⟨g, i, none⟩ u) base t enc v l := by
  obtain ⟨h1, h2⟩ := h
  refine ⟨h1, ?_⟩
  rcases h2 with h2 | ⟨g', cap, cur, hv, hg, hh, r⟩
  · exact Or.inl h2
  · refine Or.inr ⟨g', cap, cur, hv, hg, ?_, r⟩
    rw [Below.heap_setCell _ _ _ _ ?_]
    · exact hh
    · intro he
      exact Blk.ne_ (show Blk w g' t cur from hh) hb hne he

/-- a function value that answers U at the places below n, now and in all that grows from w -/
def UseAt (P : Program) (f : Value) (n : Nat) (U : Nat → Bool) (w : World) : Prop :=
  ∃ g cap, f = .func (.func g) #[] cap ∧ (∀ (args : Array Value) (w : World), (callFunc g args).run P w = .ok (.enter g args) w) ∧ ∀ W (i : Nat), Ext w W → i < n → Calls P g (#[.int .i64 (i : Int)] ++ cap) W fun e W' => e = .returned (.bool (U i)) ∧ W = W'
theorem UseAt.ext {P : Program} {f : Value} {n : Nat} {U : Nat → Bool} {w w' : World} (h : UseAt P f n U w) (he : Ext w w') : UseAt P f n U w' := by
  obtain ⟨g, cap, hf, hen, hc⟩ := h
  exact ⟨g, cap, hf, hen, fun W i hE hi => hc W i (he.trans hE) hi⟩
section
variable {P : Program} {w : World} {ops : Array Oper} {rest : List Oper} {o : Oper} {a : Act} {Q : Exit → Act → World → Prop}
end

theorem Blk.new' (w : World) (t : TypeId) (cs : Array Value) (n : Nat) (hn : n = w.heap.size) : Blk (w.alloc (.cells cs t)) n t cs := by subst hn; exact Blk.new w t cs

theorem Own.lit {α : Type} (w : World) (base : Nat) (t : TypeId) (enc : α → Value) (l : List α) (cs : Array Value) (n : Nat) (hcs : cs = (l.map enc).toArray) (hn : n = l.length) (hb : base ≤ w.heap.size) (hm : l.length ≤ maxLen) :
    Own (w.alloc (.cells cs t)) base t enc (.slice (some ⟨w.heap.size, 0, none⟩) n n) l := by
  subst hcs hn
  refine ⟨by simp, .inr ⟨w.heap.size, l.length, (l.map enc).toArray, rfl, hb, heap_alloc_new w _, Nat.le_refl _, hm, by simp, ?_⟩⟩
  exact List.take_of_length_le (by simp)

section
variable {P : Program} {w : World} {ops : Array Oper} {rest : List Oper} {o : Oper} {a : Act} {Q : Exit → Act → World → Prop}
end

/-- a list of lists of names, read -/
def RdSS (w : World) (v : Value) (L : List (List Nm)) : Prop :=
  ∃ qs : List Value, Rd1 w id v qs ∧ qs.length = L.length ∧ ∀ (j : Nat) (q : Value) (l : List Nm), qs[j]? = some q → L[j]? = some l → RdS w q l
theorem RdSS.ext {w w' : World} {v : Value} {L : List (List Nm)} (h : RdSS w v L) (he : Ext w w') : RdSS w' v L := by
  obtain ⟨qs, h1, h2, h3⟩ := h
  exact ⟨qs, h1.ext he, h2, fun j q l hq hl => (h3 j q l hq hl).ext he⟩
def RdN {α : Type} (w : World) (k : Nat) (enc : α → List Value) (v : Value) (l : List α) : Prop :=
  ∃ A n c, v = .slice A n c ∧ l.length = n ∧ n ≤ c ∧ c ≤ maxLen ∧
    (0 < n → ∃ b off, A = some ⟨b, off, none⟩ ∧ b < w.heap.size ∧ ∀ j x, l[j]? = some x → ∀ i u, (enc x)[i]? = some u → w.cell? ⟨b, off + (j * k + i), none⟩ = some u)
section
variable {α : Type} {w w' : World} {k : Nat} {enc : α → List Value} {v : Value} {l : List α}
theorem RdN.ext (h : RdN w k enc v l) (he : Ext w w') : RdN w' k enc v l := by
  obtain ⟨A, n, c, hv, hl, h1, h2, h3⟩ := h
  refine ⟨A, n, c, hv, hl, h1, h2, fun hn => ?_⟩
  obtain ⟨b, off, hA, hb, hc⟩ := h3 hn
  exact ⟨b, off, hA, Nat.lt_of_lt_of_le hb he.size, fun j x hj i u hu => he.cell (hc j x hj i u hu)⟩
theorem RdN.open_ {A : Option Addr} {n c : Nat} (h : RdN w k enc (.slice A n c) l) :
    l.length = n ∧ n ≤ c ∧ c ≤ maxLen ∧ (0 < n → ∃ b off, A = some ⟨b, off, none⟩ ∧ b < w.heap.size ∧ ∀ j x, l[j]? = some x → ∀ i u, (enc x)[i]? = some u → w.cell? ⟨b, off + (j * k + i), none⟩ = some u) := by
  obtain ⟨A', n', c', he, h1, h2, h3, h4⟩ := h
  injection he with e1 e2 e3
  subst e1 e2 e3
  exact ⟨h1, h2, h3, h4⟩
theorem OwnN.rdN {base : Nat} {t : TypeId} (h : OwnN w base t k enc v l) (hk : ∀ x, (enc x).length = k) : RdN w k enc v l := by
  obtain ⟨A, n, c, hv, hl, h1, h2, h3⟩ := h.rd hk
  refine ⟨A, n, c, hv, hl, h1, h2, fun hn => ?_⟩
  obtain ⟨b, hA, hb, hc⟩ := h3 hn
  exact ⟨b, 0, hA, hb, fun j x hj i u hu => by rw [Nat.zero_add]; exact hc j x hj i u hu⟩
theorem RdN.pre {A : Option Addr} {n c : Nat} (h : RdN w k enc (.slice A n c) l) {i : Nat} (hi : i ≤ n) : RdN w k enc (.slice A i c) (l.take i) := by
  obtain ⟨hl, h1, h2, h3⟩ := h.open_
  refine ⟨_, _, _, rfl, by simp; omega, by omega, h2, fun hn => ?_⟩
  obtain ⟨b, off, hA, hb, hc⟩ := h3 (by omega)
  refine ⟨b, off, hA, hb, fun j x hj => hc j x ?_⟩
  rw [List.getElem?_take] at hj
  split at hj
  · exact hj
  · cases hj
theorem RdN.reads (h : RdN w k enc v l) (hk : ∀ x, (enc x).length = k) (hk0 : 0 < k) : ∃ A n c, v = .slice A n c ∧ n = l.length ∧ Reads w w.heap.size k A n (l.flatMap enc) := by
  obtain ⟨A, n, c, rfl, hl, h1, h2, h3⟩ := h
  refine ⟨A, n, c, rfl, hl.symm, by rw [flatMap_len hk, hl], fun hn => ?_⟩
  obtain ⟨b, off, rfl, hb, hc⟩ := h3 hn
  refine ⟨⟨b, off, none⟩, rfl, hb, fun j u hu => ?_⟩
  have hjl : j < l.length * k := by have := (List.getElem?_eq_some_iff.1 hu).1; rwa [flatMap_len hk] at this
  have hq : j / k < l.length := Nat.div_lt_of_lt_mul (by rw [Nat.mul_comm]; exact hjl)
  have hj : j = j / k * k + j % k := by rw [Nat.mul_comm]; exact (Nat.div_add_mod j k).symm
  have e := flatMap_get hk (List.getElem?_eq_getElem hq) (Nat.mod_lt j hk0)
  rw [← hj, hu] at e
  have := hc (j / k) _ (List.getElem?_eq_getElem hq) (j % k) u e.symm
  rw [← hj] at this
  unfold Addr.add
  split
  · subst_vars; simpa using this
  · exact this
end
section
variable {P : Program} {w : World} {ops : Array Oper} {rest : List Oper} {o : Oper} {a : Act} {Q : Exit → Act → World → Prop}
end
end Go.Proofs.YthldgioggjpnpaaGreat.Old

namespace Go.Proofs.YthldgioggjpnpaaGreat.Old
open Go.RowKit

abbrev Tk := Int × Int
def encT (t : Tk) : List Value := [.int .i64 t.1, .int .i64 t.2]
abbrev RdT (w : World) (v : Value) (ts : List Tk) : Prop := RdN w 2 encT v ts

def okTk (last : Int) (t : Tk) : Bool := decide (last < t.1) && decide (t.1 ≤ 63) && decide (1 ≤ t.2) && decide (t.2 ≤ 1000000000000000)
def goodF (last : Int) : List Tk → Bool
  | [] => true
  | t :: r => okTk last t && goodF t.1 r
def validT (ts : List Tk) : Bool := goodF (-1) ts

/-- cells of the j-th tick -/
theorem RdT.tick {w : World} {A : Option Addr} {n c : Nat} {ts : List Tk} (h : RdT w (.slice A n c) ts) {j : Nat} (hj : j < n) :
    ∃ b off t, A = some ⟨b, off, none⟩ ∧ b < w.heap.size ∧ ts[j]? = some t ∧ w.cell? ⟨b, off + j * 2, none⟩ = some (.int .i64 t.1) ∧ w.cell? ⟨b, off + j * 2 + 1, none⟩ = some (.int .i64 t.2) := by
  obtain ⟨hl, h1, h2, h3⟩ := h.open_
  obtain ⟨b, off, hA, hb, hc⟩ := h3 (by omega)
  have hjl : j < ts.length := by omega
  have e := List.getElem?_eq_getElem hjl
  exact ⟨b, off, ts[j], hA, hb, e, by simpa using hc j _ e 0 _ rfl, by simpa [Nat.add_assoc] using hc j _ e 1 _ rfl⟩
end Go.Proofs.YthldgioggjpnpaaGreat.Old

namespace Go.Proofs.YthldgioggjpnpaaGreat.Old
open Go.RowKit

end Go.Proofs.YthldgioggjpnpaaGreat.Old

namespace Go.Proofs.YthldgioggjpnpaaGreat.Old
open Go.RowKit

def ckT (p k : Int) : List Tk := if 0 < k then [(p, k)] else []
def walkT (f : Int → Int → Int) (a b : List Tk) : List Tk :=
  match a, b with
  | [], [] => []
  | t :: a', [] => ckT t.1 (f t.2 0) ++ walkT f a' []
  | [], u :: b' => ckT u.1 (f 0 u.2) ++ walkT f [] b'
  | t :: a', u :: b' =>
    if t.1 < u.1 then ckT t.1 (f t.2 0) ++ walkT f a' (u :: b')
    else if u.1 < t.1 then ckT u.1 (f 0 u.2) ++ walkT f (t :: a') b'
    else ckT t.1 (f t.2 u.2) ++ walkT f a' b'
termination_by a.length + b.length

end Go.Proofs.YthldgioggjpnpaaGreat.Old

namespace Go.Proofs.YthldgioggjpnpaaGreat.Old
open Go.RowKit

def getT : List Tk → Int → Int
  | [], _ => 0
  | t :: r, p => if t.1 = p then t.2 else getT r p

def maxF (m n : Int) : Int := max m n
def minusF (m n : Int) : Int := if n < m then m else 0

def cmpT (a b : List Tk) : Int :=
  if (walkT minusF a b).length = 0 then (if (walkT minusF b a).length = 0 then 0 else 1)
  else (if (walkT minusF b a).length = 0 then 2 else 3)

theorem OwnN.up {α : Type} {w : World} {base base' : Nat} {t : TypeId} {k : Nat} {enc : α → List Value} {v : Value} {l : List α} (h : OwnN w base t k enc v l) (hb : base' ≤ base) : OwnN w base' t k enc v l := by
  obtain ⟨h1, h2⟩ := h
  refine ⟨h1, ?_⟩
  rcases h2 with h2 | ⟨g, cap, cur, hv, hg, r⟩
  · exact .inl h2
  · exact .inr ⟨g, cap, cur, hv, Nat.le_trans hb hg, r⟩
theorem OwnN.form {α : Type} {w : World} {base : Nat} {t : TypeId} {k : Nat} {enc : α → List Value} {v : Value} {l : List α} (h : OwnN w base t k enc v l) : ∃ A c, v = .slice A l.length c := by
  rcases h.2 with ⟨rfl, hn⟩ | ⟨g, cap, cur, rfl, _⟩
  · exact ⟨_, _, by rw [hn]⟩
  · exact ⟨_, _, rfl⟩

end Go.Proofs.YthldgioggjpnpaaGreat.Old

namespace Go.Proofs.YthldgioggjpnpaaGreat.Old
open Go.Shelf
def shl_lays190_ren : Go.Shelf.Ren := ⟨fun | 190 => 43 | 125 => 65 | 258 => 64 | 128 => 100 | 129 => 101 | 302 => 91 | 303 => 92 | 304 => 93 | 305 => 94 | 306 => 95 | 307 => 96 | 308 => 97 | 309 => 98 | 310 => 99 | 333 => 128 | 329 => 129 | 330 => 130 | 334 => 131 | 335 => 132 | 336 => 133 | 344 => 159 | n => n, fun | 31 => 22 | 9 => 9 | 3 => 3 | 46 => 91 | 0 => 0 | 51 => 121 | 53 => 123 | 4 => 4 | 183 => 113 | 182 => 112 | 131 => 118 | 5 => 5 | 218 => 141 | 222 => 145 | 228 => 169 | 229 => 170 | n => n, fun | n => n⟩
theorem shl_lays190 : Go.Proofs.Lays.n190 Tryz.prog shl_lays190_ren := {
  mixed := by kernel_rfl
  f125 := Tryz.func65.trans (congrArg some (by kernel_rfl))
  f128 := Tryz.func100.trans (congrArg some (by kernel_rfl))
  f129 := Tryz.func101.trans (congrArg some (by kernel_rfl))
  f190 := Tryz.func43.trans (congrArg some (by kernel_rfl))
  f258 := Tryz.func64.trans (congrArg some (by kernel_rfl))
  f302 := Tryz.func91.trans (congrArg some (by kernel_rfl))
  f303 := Tryz.func92.trans (congrArg some (by kernel_rfl))
  f304 := Tryz.func93.trans (congrArg some (by kernel_rfl))
  f305 := Tryz.func94.trans (congrArg some (by kernel_rfl))
  f306 := Tryz.func95.trans (congrArg some (by kernel_rfl))
  f307 := Tryz.func96.trans (congrArg some (by kernel_rfl))
  f308 := Tryz.func97.trans (congrArg some (by kernel_rfl))
  f309 := Tryz.func98.trans (congrArg some (by kernel_rfl))
  f310 := Tryz.func99.trans (congrArg some (by kernel_rfl))
  f329 := Tryz.func129.trans (congrArg some (by kernel_rfl))
  f330 := Tryz.func130.trans (congrArg some (by kernel_rfl))
  f333 := Tryz.func128.trans (congrArg some (by kernel_rfl))
  f334 := Tryz.func131.trans (congrArg some (by kernel_rfl))
  f335 := Tryz.func132.trans (congrArg some (by kernel_rfl))
  f336 := Tryz.func133.trans (congrArg some (by kernel_rfl))
  f344 := Tryz.func159.trans (congrArg some (by kernel_rfl))
  t0 := Tryz.underlying0
  a0 := Tryz.isAgg0
  z0 := Tryz.sizeOf0
  v0 := Tryz.zeroValue0
  t3 := Tryz.underlying3
  a3 := Tryz.isAgg3
  z3 := Tryz.sizeOf3
  v3 := Tryz.zeroValue3
  t4 := Tryz.underlying4
  a4 := Tryz.isAgg4
  z4 := Tryz.sizeOf4
  v4 := Tryz.zeroValue4
  t5 := Tryz.underlying5
  a5 := Tryz.isAgg5
  z5 := Tryz.sizeOf5
  v5 := Tryz.zeroValue5
  t9 := Tryz.underlying9
  a9 := Tryz.isAgg9
  z9 := Tryz.sizeOf9
  v9 := Tryz.zeroValue9
  t31 := Tryz.underlying22
  a31 := Tryz.isAgg22
  z31 := Tryz.sizeOf22
  v31 := Tryz.zeroValue22
  t46 := Tryz.underlying91
  a46 := Tryz.isAgg91
  z46 := Tryz.sizeOf91
  v46 := Tryz.zeroValue91
  t51 := Tryz.underlying121
  a51 := Tryz.isAgg121
  z51 := Tryz.sizeOf121
  v51 := Tryz.zeroValue121
  t53 := Tryz.underlying123
  a53 := Tryz.isAgg123
  z53 := Tryz.sizeOf123
  v53 := Tryz.zeroValue123
  t131 := Tryz.underlying118
  a131 := Tryz.isAgg118
  z131 := Tryz.sizeOf118
  v131 := Tryz.zeroValue118
  t182 := Tryz.underlying112
  a182 := Tryz.isAgg112
  z182 := Tryz.sizeOf112
  v182 := Tryz.zeroValue112
  t183 := Tryz.underlying113
  a183 := Tryz.isAgg113
  z183 := Tryz.sizeOf113
  v183 := Tryz.zeroValue113
  t218 := Tryz.underlying141
  a218 := Tryz.isAgg141
  z218 := Tryz.sizeOf141
  v218 := Tryz.zeroValue141
  t222 := Tryz.underlying145
  a222 := Tryz.isAgg145
  z222 := Tryz.sizeOf145
  v222 := Tryz.zeroValue145
  t228 := Tryz.underlying169
  a228 := Tryz.isAgg169
  z228 := Tryz.sizeOf169
  v228 := Tryz.zeroValue169
  t229 := Tryz.underlying170
  a229 := Tryz.isAgg170
  z229 := Tryz.sizeOf170
  v229 := Tryz.zeroValue170 }
open Go.Sort Go.RowKit in
theorem shl_slices_Sort_string (blk off cap : Nat) (ss : List (List UInt8)) (w : World) (hH : Holds encStr w blk off ss.toArray) (hblk : blk < w.heap.size) (hsz : ss.length < 4611686018427387904) :
    Calls Tryz.prog 43 #[.slice (some ⟨blk, off, none⟩) ss.length cap] w fun e w' =>
      e = .returned (.tuple #[]) ∧ ∃ n os, w' = grow (putRow encStr (Sort.ahead w n) blk off (ss.mergeSort fun x y => decide (x ≤ y)).toArray) os := Any.slices_Sort_string shl_lays190 blk off cap ss w hH hblk hsz
open Go.RowKit Go.Sort in
theorem shl_slices_Sort_string_none (p : Option Addr) (cap : Nat) (w : World) :
    Calls Tryz.prog 43 #[.slice p 0 cap] w fun e w' => e = .returned (.tuple #[]) ∧ w' = w := Any.slices_Sort_string_none shl_lays190 p cap w
end Go.Proofs.YthldgioggjpnpaaGreat.Old
