/-
  Words for memory (the Register group): Ext, slices that read as lists, rows of the call's own, appends.
-/
import Derived.WalkKit
import Derived.WalkSpells
import Derived.WalkLawsBesides
import Derived.StillTactics
import Derived.Outline
import Derived.LoopTactic
import Derived.Lib.Hide
import Derived.Below
import Derived.Laws.OwnMore
import Derived.Deep.AppendLies
import Derived.Deep.Draws
import Derived.Laws.Rows
import Derived.Maps.AppendAt
import Derived.RegionTactic
import Derived.OwnWalk
import Derived.Deep.RegionLaw
import Derived.Laws.CopyOwn
import Derived.Laws.MakeOwn
import Derived.Deep.DeepMust
import Derived.Deep.DeepCutAuto
import Derived.Deep.CutBlock
import Derived.Deep.QuietTactic
import Derived.BigQuiet
import Derived.Test.YthldgioggjpnpaaGreatRows
namespace Go.Proofs.YthldgioggjpnpaaGreat
open Go.RowKit

abbrev Nm := List UInt8

/-- all that lay in w lies in w' unturned -/
def Ext (w w' : World) : Prop := Below w.heap.size w w'

theorem Ext.refl (w : World) : Ext w w := Below.refl _ _
theorem Ext.trans {a b c : World} (h : Ext a b) (k : Ext b c) : Ext a c := Below.trans h (Below.mono k h.size)
theorem Ext.drew {a w : World} (h : Ext a w) : Ext a w.drew := Below.drew h
theorem Ext.drewN {a w : World} (h : Ext a w) (n : Nat) : Ext a (w.drewN n) := ⟨h.os, h.tape, h.output, h.size, h.block⟩
theorem Ext.alloc {a w : World} (h : Ext a w) (o : Obj) : Ext a (w.alloc o) := Below.alloc h h.size o
theorem Ext.setCell {a w : World} (h : Ext a w) {p : Addr} (hp : a.heap.size ≤ p.block) (u : Value) : Ext a (w.setCell p u) := Below.setCell h hp u
theorem Ext.grown {a w w' : World} {row : Option Nat} (h : Ext a w) (hg : w.grownBy w' row) (hr : ∀ k, row = some k → a.heap.size ≤ k) : Ext a w' := Below.grown h hg h.size hr
theorem Ext.size {a w : World} (h : Ext a w) : a.heap.size ≤ w.heap.size := Below.size h
theorem Ext.cell {w w' : World} (h : Ext w w') {p : Addr} {u : Value} (hc : w.cell? p = some u) : w'.cell? p = some u := by
  have hb := World.block_lt_of_cell? w p hc
  rw [Below.cell h hb]; exact hc

/-- a slice whose elements have k cells and of whose elements E tells -/
def RdG {α : Type} (w : World) (k : Nat) (E : α → Nat → Nat → Prop) (v : Value) (l : List α) : Prop :=
  ∃ A n c, v = .slice A n c ∧ l.length = n ∧ n ≤ c ∧ c ≤ maxLen ∧
    (0 < n → ∃ b off, A = some ⟨b, off, none⟩ ∧ b < w.heap.size ∧ ∀ j x, l[j]? = some x → E x b (off + j * k))

theorem RdG.mono {α : Type} {w w' : World} {k : Nat} {E E' : α → Nat → Nat → Prop} {v : Value} {l : List α} (h : RdG w k E v l) (he : Ext w w')
    (hE : ∀ x b o, x ∈ l → b < w.heap.size → E x b o → E' x b o) : RdG w' k E' v l := by
  obtain ⟨A, n, c, hv, hl, h1, h2, h3⟩ := h
  refine ⟨A, n, c, hv, hl, h1, h2, fun hn => ?_⟩
  obtain ⟨b, off, hA, hb, hc⟩ := h3 hn
  exact ⟨b, off, hA, Nat.lt_of_lt_of_le hb he.size, fun j x hj => hE _ _ _ (List.mem_of_getElem? hj) hb (hc j x hj)⟩

/-- one cell an element -/
def Rd1 {α : Type} (w : World) (enc : α → Value) (v : Value) (l : List α) : Prop :=
  ∃ A n c, v = .slice A n c ∧ l.length = n ∧ n ≤ c ∧ c ≤ maxLen ∧
    (0 < n → ∃ b off, A = some ⟨b, off, none⟩ ∧ b < w.heap.size ∧ ∀ j x, l[j]? = some x → w.cell? ⟨b, off + j, none⟩ = some (enc x))

theorem Rd1.ext {α : Type} {w w' : World} {enc : α → Value} {v : Value} {l : List α} (h : Rd1 w enc v l) (he : Ext w w') : Rd1 w' enc v l := by
  obtain ⟨A, n, c, hv, hl, h1, h2, h3⟩ := h
  refine ⟨A, n, c, hv, hl, h1, h2, fun hn => ?_⟩
  obtain ⟨b, off, hA, hb, hc⟩ := h3 hn
  exact ⟨b, off, hA, Nat.lt_of_lt_of_le hb he.size, fun j x hj => he.cell (hc j x hj)⟩

abbrev encS (x : Nm) : Value := .string ⟨x.toArray⟩
abbrev RdS (w : World) (v : Value) (l : List Nm) : Prop := Rd1 w encS v l
theorem block_of_add (a : Addr) (n : Nat) : (a.add n).block = a.block := by unfold Addr.add; split <;> rfl
theorem add_of_add (a : Addr) (i j : Nat) : (a.add i).add j = a.add (i + j) := by
  unfold Addr.add
  by_cases hi : i = 0 <;> by_cases hj : j = 0 <;> simp [hi, hj, Nat.add_assoc]

def Reads (w : World) (B size : Nat) (A : Option Addr) (n : Nat) (xs : List Value) : Prop :=
  xs.length = n * size ∧ (0 < n → ∃ ad, A = some ad ∧ ad.block < B ∧ ∀ j u, xs[j]? = some u → w.cell? (ad.add j) = some u)

section
variable {w w' : World} {B B' size n : Nat} {A : Option Addr} {xs : List Value}
theorem Reads.none_ : Reads w B size A 0 [] := ⟨by simp, fun h => absurd h (by omega)⟩
theorem Reads.at_ {k : Nat} (h : Reads w B 1 A n xs) (hk : k < n) : ∃ ad u, A = some ad ∧ ad.block < B ∧ xs[k]? = some u ∧ w.cell? (ad.add k) = some u := by
  obtain ⟨ad, e, hb, hc⟩ := h.2 (by omega)
  have hl : k < xs.length := by have := h.1; omega
  exact ⟨ad, xs[k], e, hb, List.getElem?_eq_getElem hl, hc k _ (List.getElem?_eq_getElem hl)⟩
theorem Reads.keep (h : Reads w B size A n xs) (hk : ∀ p : Addr, p.block < B → w'.cell? p = w.cell? p) : Reads w' B size A n xs :=
  ⟨h.1, fun hn => by
    obtain ⟨ad, e, hb, hc⟩ := h.2 hn
    exact ⟨ad, e, hb, fun j u hu => (hk _ (by rw [block_of_add]; exact hb)).trans (hc j u hu)⟩⟩
theorem Reads.more (h : Reads w B size A n xs) (hB : B ≤ B') : Reads w B' size A n xs :=
  ⟨h.1, fun hn => by
    obtain ⟨ad, e, hb, hc⟩ := h.2 hn
    exact ⟨ad, e, by omega, hc⟩⟩
theorem Reads.below (h : Reads w B size A n xs) (hb : Below B w w') : Reads w' B size A n xs := h.keep fun _ hp => hb.cell hp
theorem Reads.drew (h : Reads w B size A n xs) : Reads w.drew B size A n xs := h
theorem Reads.drewN (h : Reads w B size A n xs) (k : Nat) : Reads (w.drewN k) B size A n xs := h
theorem Reads.alloc (h : Reads w B size A n xs) (hB : B ≤ w.heap.size) (o : Obj) : Reads (w.alloc o) B size A n xs := h.keep fun p hp => World.cell?_alloc_lt w o p (by omega)
theorem Reads.setCell (h : Reads w B size A n xs) {p : Addr} (hB : B ≤ p.block) (u : Value) : Reads (w.setCell p u) B size A n xs :=
  h.keep fun q hq => World.cell?_setCell_other w p q u (fun e => by subst e; omega)
theorem Reads.grown (h : Reads w B size A n xs) {row : Option Nat} (hg : w.grownBy w' row) (hB : B ≤ w.heap.size) (hr : ∀ g, row = some g → B ≤ g) : Reads w' B size A n xs :=
  h.keep fun p hp => World.cell?_of_block (hg.block p.block (by omega) (fun e => by have := hr _ e.symm; omega))
theorem Reads.cut (h : Reads w B size A n xs) {k cap : Nat} (hk : k ≤ n) (hc : n ≤ cap) :
    Reads w B size (if cap = k then A else A.map (·.add (k * size))) (n - k) (xs.drop (k * size)) := by
  refine ⟨by rw [List.length_drop, h.1, Nat.sub_mul], fun hn => ?_⟩
  obtain ⟨ad, rfl, hb, hcell⟩ := h.2 (by omega)
  rw [if_neg (by omega)]
  refine ⟨ad.add (k * size), rfl, by rw [block_of_add]; exact hb, fun j u hu => ?_⟩
  rw [add_of_add]
  exact hcell _ u (by rw [← hu, List.getElem?_drop])
theorem Reads.of_own {base : Nat} {e : TypeId} {c : Nat} (h : w.ownsRow base e size (.slice A n c) n xs) : Reads w w.heap.size size A n xs := by
  refine ⟨h.1, fun hn => ?_⟩
  obtain ⟨g, cap, hv, _, hlt⟩ := h.form hn
  have hA : A = some ⟨g, 0, none⟩ := by injection hv
  subst hA
  exact ⟨_, rfl, hlt, h.cells (g := g) rfl⟩
end

def Blk (w : World) (g : Nat) (t : TypeId) (cs : Array Value) : Prop := w.heap[g]? = some (.cells cs t (0, 0))

section
variable {w w' : World} {g : Nat} {t : TypeId} {cs : Array Value}
theorem Blk.lt (h : Blk w g t cs) : g < w.heap.size := by
  rcases Nat.lt_or_ge g w.heap.size with hlt | hge
  · exact hlt
  · unfold Blk at h; rw [Array.getElem?_eq_none hge] at h; cases h
theorem Blk.cell (h : Blk w g t cs) (i : Nat) : w.cell? ⟨g, i, none⟩ = cs[i]? := cell_of_row w g i cs t (0, 0) h
theorem Blk.frozen (h : Blk w g t cs) (i : Nat) : w.frozen? ⟨g, i, none⟩ = false := by
  unfold Blk at h
  simp [World.frozen?, h]
theorem Blk.new (w : World) (t : TypeId) (cs : Array Value) : Blk (w.alloc (.cells cs t)) w.heap.size t cs := heap_alloc_new w _
theorem Blk.drew (h : Blk w g t cs) : Blk w.drew g t cs := h
theorem Blk.drewN (h : Blk w g t cs) (n : Nat) : Blk (w.drewN n) g t cs := h
theorem Blk.alloc (h : Blk w g t cs) (o : Obj) : Blk (w.alloc o) g t cs := (Below.heap_alloc w o g h.lt).trans h
theorem Blk.set_ (h : Blk w g t cs) (i : Nat) (u : Value) : Blk (w.setCell ⟨g, i, none⟩ u) g t (cs.setIfInBounds i u) := by
  unfold Blk at h ⊢
  simp [World.setCell, Array.getElem?_modify, h]
theorem Blk.far (h : Blk w g t cs) {p : Addr} (hp : g ≠ p.block) (u : Value) : Blk (w.setCell p u) g t cs := (Below.heap_setCell w p u g hp).trans h
theorem Blk.below {B : Nat} (h : Blk w g t cs) (hb : Below B w w') (hg : g < B) : Blk w' g t cs := (hb.block g hg).trans h
theorem Blk.grown {row : Option Nat} (h : Blk w g t cs) (hb : w.grownBy w' row) (hg : some g ≠ row) : Blk w' g t cs := (hb.block g h.lt hg).trans h
theorem Blk.ne_ {g' : Nat} {t' : TypeId} {cs' : Array Value} (h : Blk w g t cs) (h' : Blk w g' t' cs') (hne : t ≠ t') : g ≠ g' := by
  rintro rfl
  unfold Blk at h h'
  rw [h] at h'
  injection h' with h'
  injection h' with _ ht
  exact hne ht
theorem own_blk_ne {base : Nat} {e : TypeId} {size n : Nat} {v : Value} {xs : List Value} (h : w.ownsRow base e size v n xs) (hg : Blk w g t cs) (hne : e ≠ t) : v.ownBlock ≠ some g := by
  rcases h.2 with ⟨rfl, _⟩ | ⟨g', cap, cur, rfl, _, hh, _⟩
  · simp [Value.ownBlock]
  · intro he
    have : g' = g := by simpa [Value.ownBlock] using he
    subst this
    exact Blk.ne_ (t := e) hh hg hne rfl
end

section
variable {P : Program} (w : World)

theorem run_append_of_nil (base : Nat) (t ty e : TypeId) (i : TypeInfo) (size : Nat) (ht : P.underlying t = some (.slice e)) (hi : P.info? e = some i)
    (v : Value) (n : Nat) (xs : List Value) (hown : w.ownsRow base e size v n xs) (c : Nat) : (Builtin.append_ #[t, t] ty #[v, .slice none 0 c]).run P w = .ok v w := by
  rcases hown.2 with ⟨rfl, rfl⟩ | ⟨g, cap, cur, rfl, _, _, hnc, _⟩
  · simp [Builtin.append_, run_underlying ht, sizeOf, typeInfo, hi, Builtin.lenOf, Builtin.firstCells]
  · simp [Builtin.append_, run_underlying ht, sizeOf, typeInfo, hi, Builtin.lenOf, Builtin.firstCells, hnc, storeCells]

theorem run_append_any (base : Nat) (t ty e : TypeId) (i : TypeInfo) (z : Value) (size bytes : Nat) (ht : P.underlying t = some (.slice e)) (hi : P.info? e = some i) (hz : i.zero = some z)
    (hsize : i.size = size) (hby : i.bytes = bytes) (hzs : z.cells.size = size) (hsz : 0 < size)
    (v : Value) (n : Nat) (xs : List Value) (hown : w.ownsRow base e size v n xs)
    (B : Nat) (A : Option Addr) (m c : Nat) (news : List Value) (hr : Reads w B size A m news) (h1 : ∀ u ∈ news, u.oneCell' = true)
    (h63 : n + m ≤ maxLen) (hbytes : (n + m) * bytes ≤ 140737488355328) (hbase : base ≤ w.heap.size) :
    ∃ v' w', (Builtin.append_ #[t, t] ty #[v, .slice A m c]).run P w = .ok v' w' ∧ w'.ownsRow base e size v' (n + m) (xs ++ news) ∧ w.grownBy w' v.ownBlock ∧
      (v'.ownBlock = v.ownBlock ∨ v'.ownBlock = some w.heap.size) := by
  rcases A with _ | ad
  · have hm : m = 0 := by
      rcases Nat.eq_zero_or_pos m with h0 | h0
      · exact h0
      · obtain ⟨ad, h, _⟩ := hr.2 h0
        cases h
    subst hm
    have hn : news = [] := List.eq_nil_of_length_eq_zero (by simpa using hr.1)
    subst hn
    exact ⟨v, w, run_append_of_nil w base t ty e i size ht hi v n xs hown c, by simpa using hown, World.grownBy.refl w _, .inl rfl⟩
  · have hcells : ∀ j u, news[j]? = some u → w.cell? (ad.add j) = some u := by
      intro j u hu
      rcases Nat.eq_zero_or_pos m with h0 | h0
      · subst h0
        have hn : news = [] := List.eq_nil_of_length_eq_zero (by simpa using hr.1)
        subst hn
        simp at hu
      · obtain ⟨ad', h, _, hc⟩ := hr.2 h0
        injection h with h
        subst h
        exact hc j u hu
    obtain ⟨v', w', hrun, h2, h3, _, h5⟩ := run_append_own_at (P := P) w base t ty e i z size bytes ht hi hz hsize hby hzs hsz v n xs hown ad m c news hr.1 hcells h1 h63 hbytes hbase
    exact ⟨v', w', hrun, h2, h3, h5⟩

theorem wp_append_any {o : Oper} {a : Act} {K : Act → World → Prop} {Q : Exit → Act → World → Prop} (s x : Operand) (t : TypeId)
    (ho : o.op = .call { callee := .builtin .append, args := #[s, x], argTypes := #[t, t] })
    (base : Nat) (e : TypeId) (i : TypeInfo) (z : Value) (size bytes : Nat) (ht : P.underlying t = some (.slice e)) (hi : P.info? e = some i) (hz : i.zero = some z)
    (hsize : i.size = size) (hby : i.bytes = bytes) (hzs : z.cells.size = size) (hsz : 0 < size)
    (v : Value) (n : Nat) (xs : List Value) (hs : a.eval s = v) (hown : w.ownsRow base e size v n xs)
    (B : Nat) (A : Option Addr) (m c : Nat) (news : List Value) (hx : a.eval x = .slice A m c) (hr : Reads w B size A m news) (h1 : ∀ u ∈ news, u.oneCell' = true)
    (h63 : n + m ≤ maxLen) (hbytes : (n + m) * bytes ≤ 140737488355328) (hbase : base ≤ w.heap.size)
    (h : ∀ v' w', w'.ownsRow base e size v' (n + m) (xs ++ news) → w.grownBy w' v.ownBlock → (v'.ownBlock = v.ownBlock ∨ v'.ownBlock = some w.heap.size) → K (a.put o.dst v') w') : o.wp P a w K Q := by
  obtain ⟨v', w', hrun, h2, h3, h4⟩ := run_append_any (P := P) w base t o.type e i z size bytes ht hi hz hsize hby hzs hsz v n xs hown B A m c news hr h1 h63 hbytes hbase
  unfold Oper.wp execOp
  simp only [ho, resolve, invoke, builtin, Sem.run_bind, Sem.run_pure, Result.andThen_ok, List.map_toArray, List.map_cons, List.map_nil, hs, hx, hrun]
  exact h v' w' h2 h3 h4

theorem wpList_append_any {ops : Array Oper} {rest : List Oper} {o : Oper} {a : Act} {Q : Exit → Act → World → Prop} (hgd : o.guard = none) (s x : Operand) (t : TypeId)
    (ho : o.op = .call { callee := .builtin .append, args := #[s, x], argTypes := #[t, t] })
    (base : Nat) (e : TypeId) (i : TypeInfo) (z : Value) (size bytes : Nat) (ht : P.underlying t = some (.slice e)) (hi : P.info? e = some i) (hz : i.zero = some z)
    (hsize : i.size = size) (hby : i.bytes = bytes) (hzs : z.cells.size = size) (hsz : 0 < size)
    (v : Value) (n : Nat) (xs : List Value) (hs : a.eval s = v) (hown : w.ownsRow base e size v n xs)
    (B : Nat) (A : Option Addr) (m c : Nat) (news : List Value) (hx : a.eval x = .slice A m c) (hr : Reads w B size A m news) (h1 : ∀ u ∈ news, u.oneCell' = true)
    (h63 : n + m ≤ maxLen) (hbytes : (n + m) * bytes ≤ 140737488355328) (hbase : base ≤ w.heap.size)
    (h : ∀ v' w', w'.ownsRow base e size v' (n + m) (xs ++ news) → w.grownBy w' v.ownBlock → (v'.ownBlock = v.ownBlock ∨ v'.ownBlock = some w.heap.size) → wpList P ops Q rest (a.put o.dst v') w') : wpList P ops Q (o :: rest) a w :=
  wpList_plain hgd fun _ hK => wp_append_any w s x t ho base e i z size bytes ht hi hz hsize hby hzs hsz v n xs hs hown B A m c news hx hr h1 h63 hbytes hbase fun v' w' h2 h3 h4 => hK _ _ (h v' w' h2 h3 h4)

theorem step_append_any {ops : Array Oper} {o : Oper} {a : Act} {K : Act → World → Prop} {Q : Exit → Act → World → Prop} {E : Prop} (hgd : o.guard = none) (s x : Operand) (t : TypeId)
    (ho : o.op = .call { callee := .builtin .append, args := #[s, x], argTypes := #[t, t] })
    (base : Nat) (e : TypeId) (i : TypeInfo) (z : Value) (size bytes : Nat) (ht : P.underlying t = some (.slice e)) (hi : P.info? e = some i) (hz : i.zero = some z)
    (hsize : i.size = size) (hby : i.bytes = bytes) (hzs : z.cells.size = size) (hsz : 0 < size)
    (v : Value) (n : Nat) (xs : List Value) (hs : a.eval s = v) (hown : w.ownsRow base e size v n xs)
    (B : Nat) (A : Option Addr) (m c : Nat) (news : List Value) (hx : a.eval x = .slice A m c) (hr : Reads w B size A m news) (h1 : ∀ u ∈ news, u.oneCell' = true)
    (h63 : n + m ≤ maxLen) (hbytes : (n + m) * bytes ≤ 140737488355328) (hbase : base ≤ w.heap.size)
    (h : ∀ v' w', w'.ownsRow base e size v' (n + m) (xs ++ news) → w.grownBy w' v.ownBlock → (v'.ownBlock = v.ownBlock ∨ v'.ownBlock = some w.heap.size) → K (a.put o.dst v') w') :
    if Region.wanted o (yielded ops a.tmps) = true then Oper.wp P o a w K Q else E := by
  have hw : Region.wanted o (yielded ops a.tmps) = true := by simp [Region.wanted, hgd]
  rw [if_pos hw]
  exact wp_append_any w s x t ho base e i z size bytes ht hi hz hsize hby hzs hsz v n xs hs hown B A m c news hx hr h1 h63 hbytes hbase h
end

/-! ### words of this seat -/
theorem Ext.heap {w w' : World} (h : Ext w w') {g : Nat} {o : Obj} (hg : w.heap[g]? = some o) : w'.heap[g]? = some o := by
  have hlt : g < w.heap.size := (Array.getElem?_eq_some_iff.1 hg).1
  rw [h.block g hlt]; exact hg
theorem Blk.ext {w w' : World} {g : Nat} {t : TypeId} {cs : Array Value} (h : Blk w g t cs) (he : Ext w w') : Blk w' g t cs := he.heap h

/-- an array of the call's own, known whole -/
def Arr {α : Type} (w : World) (t : TypeId) (enc : α → Value) (g : Nat) (l : List α) : Prop := Blk w g t (l.map enc).toArray
section
variable {α : Type} {w w' : World} {t : TypeId} {enc : α → Value} {g : Nat} {l : List α}
theorem Arr.cell (h : Arr w t enc g l) {i : Nat} {x : α} (hx : l[i]? = some x) : w.cell? ⟨g, i, none⟩ = some (enc x) := by
  rw [Blk.cell h i]; simp [hx]
theorem Arr.frozen (h : Arr w t enc g l) (i : Nat) : w.frozen? ⟨g, i, none⟩ = false := Blk.frozen h i
theorem Arr.lt (h : Arr w t enc g l) : g < w.heap.size := Blk.lt h
theorem Arr.ext (h : Arr w t enc g l) (he : Ext w w') : Arr w' t enc g l := Blk.ext h he
theorem Arr.set_ (h : Arr w t enc g l) (i : Nat) (x : α) : Arr (w.setCell ⟨g, i, none⟩ (enc x)) t enc g (l.set i x) := by
  have := Blk.set_ h i (enc x)
  unfold Arr
  rw [List.map_set]
  simpa using this
theorem Arr.far (h : Arr w t enc g l) {p : Addr} (hp : g ≠ p.block) (u : Value) : Arr (w.setCell p u) t enc g l := Blk.far h hp u
theorem Arr.rd (h : Arr w t enc g l) (hm : l.length ≤ maxLen) : Rd1 w enc (.slice (some ⟨g, 0, none⟩) l.length l.length) l :=
  ⟨_, _, _, rfl, rfl, Nat.le_refl _, hm, fun _ => ⟨g, 0, rfl, h.lt, fun j x hj => by rw [Nat.zero_add]; exact h.cell hj⟩⟩
end

/-- a row of the call's own that reads as a list, one cell an element -/
def Own {α : Type} (w : World) (base : Nat) (t : TypeId) (enc : α → Value) (v : Value) (l : List α) : Prop := w.ownsRow base t 1 v l.length (l.map enc)
section
variable {α : Type} {w w' : World} {base : Nat} {t : TypeId} {enc : α → Value} {v : Value} {l : List α}
theorem Own.nil (w : World) (base : Nat) (t : TypeId) (enc : α → Value) : Own w base t enc (.slice none 0 0) [] := World.ownsRow_nil w base t 1
theorem Own.ext (h : Own w base t enc v l) (he : Ext w w') : Own w' base t enc v l :=
  World.ownsRow.kept (row := none) h ⟨he.os, he.tape, he.output, he.size, fun k hk _ => he.block k hk⟩ (by
    rcases hv : v.ownBlock with _ | k
    · exact .inl rfl
    · right; simp)
theorem Own.up {base' : Nat} (h : Own w base t enc v l) (hb : base' ≤ base) : Own w base' t enc v l := by
  obtain ⟨h1, h2⟩ := h
  refine ⟨h1, ?_⟩
  rcases h2 with h2 | ⟨g, cap, cur, hv, hg, r⟩
  · exact .inl h2
  · exact .inr ⟨g, cap, cur, hv, Nat.le_trans hb hg, r⟩
theorem Own.rd (h : Own w base t enc v l) : Rd1 w enc v l := by
  obtain ⟨h1, h2⟩ := h
  rcases h2 with ⟨rfl, hn⟩ | ⟨g, cap, cur, rfl, hb, hg, hnc, hcm, hcs, htk⟩
  · exact ⟨none, 0, 0, rfl, hn, Nat.le_refl _, Nat.zero_le _, fun h => absurd h (by omega)⟩
  · refine ⟨_, _, _, rfl, rfl, hnc, hcm, fun hn => ⟨g, 0, rfl, (Array.getElem?_eq_some_iff.1 hg).1, fun j x hj => ?_⟩⟩
    have hjl : j < l.length := (List.getElem?_eq_some_iff.1 hj).1
    rw [Nat.zero_add, cell_of_row w g j cur t (0, 0) hg]
    have : (cur.toList.take (l.length * 1))[j]? = some (enc x) := by rw [htk]; simp [hj]
    rw [List.getElem?_take] at this
    simp only [Nat.mul_one, hjl, if_true] at this
    simpa using this
end
theorem Rd1.reads {α : Type} {w : World} {enc : α → Value} {v : Value} {l : List α} (h : Rd1 w enc v l) : ∃ A n c, v = .slice A n c ∧ n = l.length ∧ Reads w w.heap.size 1 A n (l.map enc) := by
  obtain ⟨A, n, c, rfl, hl, h1, h2, h3⟩ := h
  refine ⟨A, n, c, rfl, hl.symm, by simp [hl], fun hn => ?_⟩
  obtain ⟨b, off, rfl, hb, hc⟩ := h3 hn
  refine ⟨⟨b, off, none⟩, rfl, hb, fun j u hu => ?_⟩
  rw [List.getElem?_map] at hu
  cases hx : l[j]? with
  | none => rw [hx] at hu; cases hu
  | some x =>
    rw [hx] at hu
    cases hu
    have := hc j x hx
    unfold Addr.add
    split
    · subst_vars; simpa using this
    · exact this
theorem Rd1.length_le {α : Type} {w : World} {enc : α → Value} {v : Value} {l : List α} (h : Rd1 w enc v l) : l.length ≤ maxLen := by
  obtain ⟨A, n, c, rfl, hl, h1, h2, h3⟩ := h; omega

theorem cell_new1 (w : World) (x : Value) (t : TypeId) : (w.alloc (.cells #[x] t)).cell? ⟨w.heap.size, 0, none⟩ = some x := by
  exact (Blk.new w t #[x]).cell 0

/-! ### make and append, the world behind them a letter -/
theorem madeCells_one (z : Value) (n : Nat) (hz : z.cells = #[z]) : madeCells z.cells n = Array.replicate n z := by
  rw [hz]
  apply Array.ext_getElem?
  intro i
  by_cases h : i < n
  · simp [madeCells, h, Nat.mod_one]
  · simp [madeCells, h]

section
variable {P : Program} {w : World} {ops : Array Oper} {rest : List Oper} {o : Oper} {a : Act} {Q : Exit → Act → World → Prop}
theorem wpList_make_arr (hgd : o.guard = none) (ln cp : Operand) (t e : TypeId) (ho : o.op = .makeSlice t ln cp) (i : TypeInfo) (z : Value) (bytes : Nat) (ht : P.underlying t = some (.slice e)) (hi : P.info? e = some i) (hz : i.zero = some z)
    (hz1 : i.size = 1) (hby : i.bytes = bytes) (hcells : z.cells = #[z]) (n : Nat) (hl : a.eval ln = .int .i64 n) (hc : a.eval cp = .int .i64 n) (hb : bytes * n ≤ 281474976710656) (h63 : n ≤ maxLen)
    (h : ∀ w1 g, Blk w1 g e (Array.replicate n z) → w.heap.size ≤ g → Ext w w1 → wpList P ops Q rest (a.put o.dst (.slice (some ⟨g, 0, none⟩) n n)) w1) : wpList P ops Q (o :: rest) a w := by
  refine wpList_plain hgd fun K hK => ?_
  have hbI : (i.bytes : Int) * (n : Int) ≤ 281474976710656 := by
    have h0 : ((i.bytes * n : Nat) : Int) ≤ 281474976710656 := by rw [hby]; omega
    rwa [Int.natCast_mul] at h0
  have hrun := run_make (P := P) w t e i z ht hi hz .i64 .i64 (n : Int) (n : Int) (by omega) (by omega) hbI (by unfold maxLen at h63; omega)
  unfold Oper.wp
  simp [execOp, ho, hl, hc, hrun, Result.andThen]
  refine hK _ _ (h _ _ ?_ (Nat.le_refl _) ((Ext.refl w).alloc _))
  rw [hz1, Nat.mul_one, madeCells_one z n hcells]
  exact Blk.new _ _ _

theorem Own.base {α : Type} {w0 w : World} {e : TypeId} {enc : α → Value} {v : Value} {l : List α} (hown : Own w w0.heap.size e enc v l) : ∀ k, v.ownBlock = some k → w0.heap.size ≤ k :=
  fun k hk => (World.ownsRow.lt hown k hk).1

theorem wp_append_one {K : Act → World → Prop} (s x : Operand) (t : TypeId) (ho : o.op = .call { callee := .builtin .append, args := #[s, x], argTypes := #[t, t] })
    (e : TypeId) (i : TypeInfo) (z : Value) (bytes : Nat) (ht : P.underlying t = some (.slice e)) (hi : P.info? e = some i) (hz : i.zero = some z)
    (hz1 : i.size = 1) (hby : i.bytes = bytes) (hcells : z.cells.size = 1) {α : Type} (enc : α → Value) (w0 : World) (hE : Ext w0 w) (v : Value) (l : List α) (hs : a.eval s = v) (hown : Own w w0.heap.size e enc v l)
    (g c : Nat) (y : α) (hx : a.eval x = .slice (some ⟨g, 0, none⟩) 1 c) (hcell : w.cell? ⟨g, 0, none⟩ = some (enc y)) (h1 : (enc y).oneCell' = true)
    (hm : l.length + 1 ≤ maxLen) (hb : (l.length + 1) * bytes ≤ 140737488355328)
    (h : ∀ v' w', Own w' w0.heap.size e enc v' (l ++ [y]) → Ext w0 w' → w.grownBy w' v.ownBlock → K (a.put o.dst v') w') : o.wp P a w K Q := by
  refine wp_append_own w s x t ho w0.heap.size e i z 1 bytes ht hi hz hz1 hby hcells (by decide) v l.length (l.map enc) hs hown ⟨g, 0, none⟩ 1 c [enc y] hx rfl ?_ ?_ hm hb hE.size ?_
  · intro j u hu
    cases j with
    | zero => cases hu; exact hcell
    | succ j => simp at hu
  · intro u hu
    rw [List.mem_singleton] at hu
    subst hu
    exact h1
  · intro v' w' hown' hg _
    refine h v' w' ?_ (hE.grown hg (Own.base hown)) hg
    show w'.ownsRow _ _ _ _ _ _
    simpa using hown'

theorem wpList_append_one (hgd : o.guard = none) (s x : Operand) (t : TypeId) (ho : o.op = .call { callee := .builtin .append, args := #[s, x], argTypes := #[t, t] })
    (e : TypeId) (i : TypeInfo) (z : Value) (bytes : Nat) (ht : P.underlying t = some (.slice e)) (hi : P.info? e = some i) (hz : i.zero = some z)
    (hz1 : i.size = 1) (hby : i.bytes = bytes) (hcells : z.cells.size = 1) {α : Type} (enc : α → Value) (w0 : World) (hE : Ext w0 w) (v : Value) (l : List α) (hs : a.eval s = v) (hown : Own w w0.heap.size e enc v l)
    (g c : Nat) (y : α) (hx : a.eval x = .slice (some ⟨g, 0, none⟩) 1 c) (hcell : w.cell? ⟨g, 0, none⟩ = some (enc y)) (h1 : (enc y).oneCell' = true)
    (hm : l.length + 1 ≤ maxLen) (hb : (l.length + 1) * bytes ≤ 140737488355328)
    (h : ∀ v' w', Own w' w0.heap.size e enc v' (l ++ [y]) → Ext w0 w' → w.grownBy w' v.ownBlock → wpList P ops Q rest (a.put o.dst v') w') : wpList P ops Q (o :: rest) a w :=
  wpList_plain hgd fun _ hK => wp_append_one s x t ho e i z bytes ht hi hz hz1 hby hcells enc w0 hE v l hs hown g c y hx hcell h1 hm hb fun v' w' h2 h3 h4 => hK _ _ (h v' w' h2 h3 h4)
end

/-- an array of another element type stays while a row is appended to -/
theorem Blk.appended {w w' : World} {g : Nat} {t : TypeId} {cs : Array Value} {base : Nat} {e : TypeId} {size n : Nat} {v : Value} {xs : List Value} (h : Blk w g t cs) (hg : w.grownBy w' v.ownBlock)
    (hown : w.ownsRow base e size v n xs) (hne : e ≠ t) : Blk w' g t cs :=
  h.grown hg (fun he => own_blk_ne hown h hne he.symm)
theorem Arr.appended {α β : Type} {w w' : World} {g : Nat} {t : TypeId} {enc : α → Value} {l : List α} {base : Nat} {e : TypeId} {enc' : β → Value} {v : Value} {xs : List β} (h : Arr w t enc g l) (hg : w.grownBy w' v.ownBlock)
    (hown : Own w base e enc' v xs) (hne : e ≠ t) : Arr w' t enc g l := Blk.appended h hg hown hne
abbrev encI (n : Nat) : Value := .int .i64 (n : Int)

/-- a row of the call's own, k cells an element -/
def OwnN {α : Type} (w : World) (base : Nat) (t : TypeId) (k : Nat) (enc : α → List Value) (v : Value) (l : List α) : Prop := w.ownsRow base t k v l.length (l.flatMap enc)
section
variable {α : Type} {w w' w0 : World} {base : Nat} {t : TypeId} {k : Nat} {enc : α → List Value} {v : Value} {l : List α}
theorem OwnN.nil (w : World) (base : Nat) (t : TypeId) (k : Nat) (enc : α → List Value) : OwnN w base t k enc (.slice none 0 0) [] := World.ownsRow_nil w base t k
theorem OwnN.ext (h : OwnN w base t k enc v l) (he : Ext w w') : OwnN w' base t k enc v l :=
  World.ownsRow.kept (row := none) h ⟨he.os, he.tape, he.output, he.size, fun k hk _ => he.block k hk⟩ (by
    rcases hv : v.ownBlock with _ | k
    · exact .inl rfl
    · right; simp)
theorem OwnN.from_ (hown : OwnN w w0.heap.size t k enc v l) : ∀ k, v.ownBlock = some k → w0.heap.size ≤ k :=
  fun k hk => (World.ownsRow.lt hown k hk).1
theorem flatMap_get (hk : ∀ x, (enc x).length = k) {j : Nat} {x : α} (hx : l[j]? = some x) {i : Nat} (hi : i < k) : (l.flatMap enc)[j * k + i]? = (enc x)[i]? := by
  induction l generalizing j with
  | nil => simp at hx
  | cons a t ih =>
    rw [List.flatMap_cons]
    cases j with
    | zero =>
      simp only [List.getElem?_cons_zero, Option.some.injEq] at hx
      subst hx
      rw [List.getElem?_append_left (by rw [hk]; omega)]
      simp
    | succ j =>
      rw [List.getElem?_cons_succ] at hx
      rw [List.getElem?_append_right (by rw [hk, Nat.succ_mul]; omega), hk, ← ih hx]
      congr 1
      rw [Nat.succ_mul]
      omega
theorem flatMap_len (hk : ∀ x, (enc x).length = k) : (l.flatMap enc).length = l.length * k := by
  induction l with
  | nil => simp
  | cons a t ih => rw [List.flatMap_cons, List.length_append, hk, ih, List.length_cons, Nat.succ_mul]; omega
/-- an owned row read: its slice, and each cell -/
theorem OwnN.rd (h : OwnN w base t k enc v l) (hk : ∀ x, (enc x).length = k) :
    ∃ A n c, v = .slice A n c ∧ l.length = n ∧ n ≤ c ∧ c ≤ maxLen ∧ (0 < n → ∃ b, A = some ⟨b, 0, none⟩ ∧ b < w.heap.size ∧ ∀ j x, l[j]? = some x → ∀ i u, (enc x)[i]? = some u → w.cell? ⟨b, j * k + i, none⟩ = some u) := by
  obtain ⟨h1, h2⟩ := h
  rcases h2 with ⟨rfl, hn⟩ | ⟨g, cap, cur, rfl, hb, hg, hnc, hcm, hcs, htk⟩
  · exact ⟨none, 0, 0, rfl, hn, Nat.le_refl _, Nat.zero_le _, fun h => absurd h (by omega)⟩
  · refine ⟨_, _, _, rfl, rfl, hnc, hcm, fun hn => ⟨g, rfl, (Array.getElem?_eq_some_iff.1 hg).1, fun j x hj i u hu => ?_⟩⟩
    have hjl : j < l.length := (List.getElem?_eq_some_iff.1 hj).1
    have hil : i < k := by have := (List.getElem?_eq_some_iff.1 hu).1; rwa [hk] at this
    rw [cell_of_row w g _ cur t (0, 0) hg]
    have h3 : (cur.toList.take (l.length * k))[j * k + i]? = some u := by rw [htk, flatMap_get hk hj hil, hu]
    rw [List.getElem?_take] at h3
    have h4 : j * k + i < l.length * k := by
      have := Nat.mul_le_mul_right k (Nat.succ_le_of_lt hjl)
      rw [Nat.succ_mul] at this
      omega
    rw [if_pos h4] at h3
    simpa using h3
end

section
variable {P : Program} {w : World} {ops : Array Oper} {rest : List Oper} {o : Oper} {a : Act} {Q : Exit → Act → World → Prop}
theorem wp_append_oneN {K : Act → World → Prop} (s x : Operand) (t : TypeId) (ho : o.op = .call { callee := .builtin .append, args := #[s, x], argTypes := #[t, t] })
    (e : TypeId) (i : TypeInfo) (z : Value) (k bytes : Nat) (ht : P.underlying t = some (.slice e)) (hi : P.info? e = some i) (hz : i.zero = some z)
    (hz1 : i.size = k) (hby : i.bytes = bytes) (hcells : z.cells.size = k) (hk0 : 0 < k) {α : Type} (enc : α → List Value) (hk : ∀ x, (enc x).length = k) (w0 : World) (hE : Ext w0 w) (v : Value) (l : List α) (hs : a.eval s = v) (hown : OwnN w w0.heap.size e k enc v l)
    (g c : Nat) (y : α) (hx : a.eval x = .slice (some ⟨g, 0, none⟩) 1 c) (hcell : ∀ i u, (enc y)[i]? = some u → w.cell? ⟨g, i, none⟩ = some u) (h1 : ∀ u ∈ enc y, u.oneCell' = true)
    (hm : l.length + 1 ≤ maxLen) (hb : (l.length + 1) * bytes ≤ 140737488355328)
    (h : ∀ v' w', OwnN w' w0.heap.size e k enc v' (l ++ [y]) → Ext w0 w' → w.grownBy w' v.ownBlock → K (a.put o.dst v') w') : o.wp P a w K Q := by
  refine wp_append_own w s x t ho w0.heap.size e i z k bytes ht hi hz hz1 hby hcells hk0 v l.length (l.flatMap enc) hs hown ⟨g, 0, none⟩ 1 c (enc y) hx (by rw [hk, Nat.one_mul]) ?_ h1 hm hb hE.size ?_
  · intro j u hu
    have := hcell j u hu
    unfold Addr.add
    split
    · subst_vars; exact this
    · simpa using this
  · intro v' w' hown' hg _
    refine h v' w' ?_ (hE.grown hg (OwnN.from_ hown)) hg
    show w'.ownsRow _ _ _ _ _ _
    simpa using hown'
theorem wpList_append_oneN (hgd : o.guard = none) (s x : Operand) (t : TypeId) (ho : o.op = .call { callee := .builtin .append, args := #[s, x], argTypes := #[t, t] })
    (e : TypeId) (i : TypeInfo) (z : Value) (k bytes : Nat) (ht : P.underlying t = some (.slice e)) (hi : P.info? e = some i) (hz : i.zero = some z)
    (hz1 : i.size = k) (hby : i.bytes = bytes) (hcells : z.cells.size = k) (hk0 : 0 < k) {α : Type} (enc : α → List Value) (hk : ∀ x, (enc x).length = k) (w0 : World) (hE : Ext w0 w) (v : Value) (l : List α) (hs : a.eval s = v) (hown : OwnN w w0.heap.size e k enc v l)
    (g c : Nat) (y : α) (hx : a.eval x = .slice (some ⟨g, 0, none⟩) 1 c) (hcell : ∀ i u, (enc y)[i]? = some u → w.cell? ⟨g, i, none⟩ = some u) (h1 : ∀ u ∈ enc y, u.oneCell' = true)
    (hm : l.length + 1 ≤ maxLen) (hb : (l.length + 1) * bytes ≤ 140737488355328)
    (h : ∀ v' w', OwnN w' w0.heap.size e k enc v' (l ++ [y]) → Ext w0 w' → w.grownBy w' v.ownBlock → wpList P ops Q rest (a.put o.dst v') w') : wpList P ops Q (o :: rest) a w :=
  wpList_plain hgd fun _ hK => wp_append_oneN s x t ho e i z k bytes ht hi hz hz1 hby hcells hk0 enc hk w0 hE v l hs hown g c y hx hcell h1 hm hb fun v' w' h2 h3 h4 => hK _ _ (h v' w' h2 h3 h4)
end
theorem Arr.appendedN {α β : Type} {w w' : World} {g : Nat} {t : TypeId} {enc : α → Value} {l : List α} {base : Nat} {e : TypeId} {k : Nat} {enc' : β → List Value} {v : Value} {xs : List β} (h : Arr w t enc g l) (hg : w.grownBy w' v.ownBlock)
    (hown : OwnN w base e k enc' v xs) (hne : e ≠ t) : Arr w' t enc g l := Blk.appended h hg hown hne
theorem Own.appendedN {α β : Type} {w w' : World} {base0 : Nat} {t : TypeId} {enc : α → Value} {v0 : Value} {l : List α} {base : Nat} {e : TypeId} {k : Nat} {enc' : β → List Value} {v : Value} {xs : List β} (h : Own w base0 t enc v0 l) (hg : w.grownBy w' v.ownBlock)
    (hown : OwnN w base e k enc' v xs) (hne : e ≠ t) : Own w' base0 t enc v0 l := by
  refine World.ownsRow.kept h hg ?_
  rcases h.2 with ⟨rfl, _⟩ | ⟨g, cap, cur, rfl, _, hh, _⟩
  · exact .inl rfl
  · exact .inr fun he => own_blk_ne hown (g := g) (t := t) (cs := cur) hh hne he.symm

/-! ### copy of a whole slice into an array of the call's own -/
theorem wpList_copy_arr {P : Program} {w : World} {ops : Array Oper} {rest : List Oper} {o : Oper} {a : Act} {Q : Exit → Act → World → Prop} (hgd : o.guard = none) (d s : Operand) (T : TypeId)
    (ho : o.op = .call { callee := .builtin .copy, args := #[d, s], argTypes := #[T, T] }) (elem : TypeId) (hu : P.underlying T = some (.slice elem)) (hsz : (P.info? elem).map (·.size) = some 1)
    {α : Type} (enc : α → Value) (g : Nat) (l0 l : List α) (vs : Value) (n : Nat) (hd : a.eval d = .slice (some ⟨g, 0, none⟩) n n) (hn0 : l0.length = n) (hs : a.eval s = vs) (hv : Rd1 w enc vs l) (hA : Arr w elem enc g l0)
    (hn1 : l.length = n) (h1 : ∀ x, (enc x).oneCell' = true) (w0 : World) (hE : Ext w0 w) (hg : w0.heap.size ≤ g)
    (h : ∀ w', Arr w' elem enc g l → Ext w0 w' → wpList P ops Q rest (a.put o.dst (goInt n)) w') : wpList P ops Q (o :: rest) a w := by
  obtain ⟨A, m, c, rfl, hl, hmc, hcm, hcell⟩ := hv
  obtain rfl : m = n := by omega
  refine wpList_copy_splice hgd d s T T ho elem hu hsz (some ⟨g, 0, none⟩) A m m m c hd hs g 0 (l0.map enc) elem hA (l.map enc) (by simp [hl]) ?_ (by simp; omega) ?_ w0.heap.size w0 hE hg ?_
  · intro h0
    refine ⟨rfl, ?_⟩
    obtain ⟨b, off, rfl, hb, hc⟩ := hcell (by simpa [hl] using h0)
    refine ⟨⟨b, off, none⟩, rfl, fun j v hj => ?_⟩
    rw [List.getElem?_map] at hj
    cases hx : l[j]? with
    | none => rw [hx] at hj; cases hj
    | some x =>
      rw [hx] at hj
      cases hj
      have := hc j x hx
      unfold Addr.add
      split
      · subst_vars; simpa using this
      · exact this
  · intro v hv
    obtain ⟨x, _, rfl⟩ := List.mem_map.1 hv
    exact h1 x
  · intro w' hw' hb
    rw [List.length_map, hl]
    refine h w' ?_ hb
    have := hw'.out
    unfold Arr Blk
    rw [this]
    congr 2
    simp [splice]
    omega

def lenV : Value → Nat | .slice _ n _ => n | _ => 0
theorem OwnN.lenV {α : Type} {w : World} {base : Nat} {t : TypeId} {k : Nat} {enc : α → List Value} {v : Value} {l : List α} (h : OwnN w base t k enc v l) : lenV v = l.length := by
  rcases h.2 with ⟨rfl, hn⟩ | ⟨g, cap, cur, rfl, _⟩
  · exact hn.symm
  · rfl

theorem cells_new (w : World) (l : List Value) (t : TypeId) (n : Nat) (hn : n = w.heap.size) : ∀ i u, l[i]? = some u → (w.alloc (.cells l.toArray t)).cell? ⟨n, i, none⟩ = some u := by
  intro i u hu
  subst hn
  rw [(Blk.new w t l.toArray).cell i]
  simpa using hu
theorem OwnN.far {α : Type} {w : World} {base : Nat} {t t' : TypeId} {k : Nat} {enc : α → List Value} {v : Value} {l : List α} (h : OwnN w base t k enc v l) {g i : Nat} {cs : Array Value} (hb : Blk w g t' cs) (hne : t ≠ t') (u : Value) :
    OwnN (w.setCell ⟨g, i, none⟩ u) base t k enc v l := by
  obtain ⟨h1, h2⟩ := h
  refine ⟨h1, ?_⟩
  rcases h2 with h2 | ⟨g', cap, cur, hv, hg, hh, r⟩
  · exact Or.inl h2
  · refine Or.inr ⟨g', cap, cur, hv, hg, ?_, r⟩
    rw [Below.heap_setCell _ _ _ _ ?_]
    · exact hh
    · intro he
      exact Blk.ne_ (show Blk w g' t cur from hh) hb hne he
theorem Own.far {α : Type} {w : World} {base : Nat} {t t' : TypeId} {enc : α → Value} {v : Value} {l : List α} (h : Own w base t enc v l) {g i : Nat} {cs : Array Value} (hb : Blk w g t' cs) (hne : t ≠ t') (u : Value) :
    Own (w.setCell ⟨g, i, none⟩ u) base t enc v l := by
  obtain ⟨h1, h2⟩ := h
  refine ⟨h1, ?_⟩
  rcases h2 with h2 | ⟨g', cap, cur, hv, hg, hh, r⟩
  · exact Or.inl h2
  · refine Or.inr ⟨g', cap, cur, hv, hg, ?_, r⟩
    rw [Below.heap_setCell _ _ _ _ ?_]
    · exact hh
    · intro he
      exact Blk.ne_ (show Blk w g' t cur from hh) hb hne he

/-- a function value that answers U at the places below n, now and in all that grows from w -/
def UseAt (P : Program) (f : Value) (n : Nat) (U : Nat → Bool) (w : World) : Prop :=
  ∃ g cap, f = .func (.func g) #[] cap ∧ (∀ (args : Array Value) (w : World), (callFunc g args).run P w = .ok (.enter g args) w) ∧ ∀ W (i : Nat), Ext w W → i < n → Calls P g (#[.int .i64 (i : Int)] ++ cap) W fun e W' => e = .returned (.bool (U i)) ∧ W = W'
theorem UseAt.ext {P : Program} {f : Value} {n : Nat} {U : Nat → Bool} {w w' : World} (h : UseAt P f n U w) (he : Ext w w') : UseAt P f n U w' := by
  obtain ⟨g, cap, hf, hen, hc⟩ := h
  exact ⟨g, cap, hf, hen, fun W i hE hi => hc W i (he.trans hE) hi⟩
section
variable {P : Program} {w : World} {ops : Array Oper} {rest : List Oper} {o : Oper} {a : Act} {Q : Exit → Act → World → Prop}
/-- append one element; the new value written out -/
theorem wp_append_outN {K : Act → World → Prop} (s x : Operand) (t : TypeId) (ho : o.op = .call { callee := .builtin .append, args := #[s, x], argTypes := #[t, t] })
    (e : TypeId) (i : TypeInfo) (z : Value) (k bytes : Nat) (ht : P.underlying t = some (.slice e)) (hi : P.info? e = some i) (hz : i.zero = some z)
    (hz1 : i.size = k) (hby : i.bytes = bytes) (hcells : z.cells.size = k) (hk0 : 0 < k) {α : Type} (enc : α → List Value) (hk : ∀ x, (enc x).length = k) (w0 : World) (hE : Ext w0 w) (v : Value) (l : List α) (hs : a.eval s = v) (hown : OwnN w w0.heap.size e k enc v l)
    (g c : Nat) (y : α) (hx : a.eval x = .slice (some ⟨g, 0, none⟩) 1 c) (hcell : ∀ i u, (enc y)[i]? = some u → w.cell? ⟨g, i, none⟩ = some u) (h1 : ∀ u ∈ enc y, u.oneCell' = true)
    (hm : l.length + 1 ≤ maxLen) (hb : (l.length + 1) * bytes ≤ 140737488355328) (n' : Nat) (hn' : l.length + 1 = n')
    (h : ∀ g' cap' w', OwnN w' w0.heap.size e k enc (.slice (some ⟨g', 0, none⟩) n' cap') (l ++ [y]) → Ext w0 w' → w.grownBy w' v.ownBlock → K (a.put o.dst (.slice (some ⟨g', 0, none⟩) n' cap')) w') : o.wp P a w K Q := by
  refine wp_append_oneN s x t ho e i z k bytes ht hi hz hz1 hby hcells hk0 enc hk w0 hE v l hs hown g c y hx hcell h1 hm hb fun v' w' hown' hE' hg' => ?_
  have hex : ∃ g' cap', v' = .slice (some ⟨g', 0, none⟩) n' cap' := by
    rcases hown'.2 with ⟨_, h0⟩ | ⟨g', cap', cur, hv, _⟩
    · simp at h0
    · exact ⟨g', cap', by rw [hv]; simp [← hn']⟩
  obtain ⟨g', cap', rfl⟩ := hex
  exact h g' cap' w' hown' hE' hg'
theorem step_append_outN {K : Act → World → Prop} {E : Prop} (hgd : o.guard = none) (s x : Operand) (t : TypeId) (ho : o.op = .call { callee := .builtin .append, args := #[s, x], argTypes := #[t, t] })
    (e : TypeId) (i : TypeInfo) (z : Value) (k bytes : Nat) (ht : P.underlying t = some (.slice e)) (hi : P.info? e = some i) (hz : i.zero = some z)
    (hz1 : i.size = k) (hby : i.bytes = bytes) (hcells : z.cells.size = k) (hk0 : 0 < k) {α : Type} (enc : α → List Value) (hk : ∀ x, (enc x).length = k) (w0 : World) (hE : Ext w0 w) (v : Value) (l : List α) (hs : a.eval s = v) (hown : OwnN w w0.heap.size e k enc v l)
    (g c : Nat) (y : α) (hx : a.eval x = .slice (some ⟨g, 0, none⟩) 1 c) (hcell : ∀ i u, (enc y)[i]? = some u → w.cell? ⟨g, i, none⟩ = some u) (h1 : ∀ u ∈ enc y, u.oneCell' = true)
    (hm : l.length + 1 ≤ maxLen) (hb : (l.length + 1) * bytes ≤ 140737488355328) (n' : Nat) (hn' : l.length + 1 = n')
    (h : ∀ g' cap' w', OwnN w' w0.heap.size e k enc (.slice (some ⟨g', 0, none⟩) n' cap') (l ++ [y]) → Ext w0 w' → w.grownBy w' v.ownBlock → K (a.put o.dst (.slice (some ⟨g', 0, none⟩) n' cap')) w') :
    if Region.wanted o (yielded ops a.tmps) = true then Oper.wp P o a w K Q else E := by
  have hw : Region.wanted o (yielded ops a.tmps) = true := by simp [Region.wanted, hgd]
  rw [if_pos hw]
  exact wp_append_outN s x t ho e i z k bytes ht hi hz hz1 hby hcells hk0 enc hk w0 hE v l hs hown g c y hx hcell h1 hm hb n' hn' h
theorem wpList_append_out1 (hgd : o.guard = none) (s x : Operand) (t : TypeId) (ho : o.op = .call { callee := .builtin .append, args := #[s, x], argTypes := #[t, t] })
    (e : TypeId) (i : TypeInfo) (z : Value) (bytes : Nat) (ht : P.underlying t = some (.slice e)) (hi : P.info? e = some i) (hz : i.zero = some z)
    (hz1 : i.size = 1) (hby : i.bytes = bytes) (hcells : z.cells.size = 1) {α : Type} (enc : α → Value) (w0 : World) (hE : Ext w0 w) (v : Value) (l : List α) (hs : a.eval s = v) (hown : Own w w0.heap.size e enc v l)
    (g c : Nat) (y : α) (hx : a.eval x = .slice (some ⟨g, 0, none⟩) 1 c) (hcell : w.cell? ⟨g, 0, none⟩ = some (enc y)) (h1 : (enc y).oneCell' = true)
    (hm : l.length + 1 ≤ maxLen) (hb : (l.length + 1) * bytes ≤ 140737488355328) (n' : Nat) (hn' : l.length + 1 = n')
    (h : ∀ g' cap' w', Own w' w0.heap.size e enc (.slice (some ⟨g', 0, none⟩) n' cap') (l ++ [y]) → Ext w0 w' → w.grownBy w' v.ownBlock → wpList P ops Q rest (a.put o.dst (.slice (some ⟨g', 0, none⟩) n' cap')) w') : wpList P ops Q (o :: rest) a w := by
  refine wpList_append_one hgd s x t ho e i z bytes ht hi hz hz1 hby hcells enc w0 hE v l hs hown g c y hx hcell h1 hm hb fun v' w' hown' hE' hg' => ?_
  have hex : ∃ g' cap', v' = .slice (some ⟨g', 0, none⟩) n' cap' := by
    rcases hown'.2 with ⟨_, h0⟩ | ⟨g', cap', cur, hv, _⟩
    · simp at h0
    · exact ⟨g', cap', by rw [hv]; simp [← hn']⟩
  obtain ⟨g', cap', rfl⟩ := hex
  exact h g' cap' w' hown' hE' hg'
end

/-- the world behind a letter: what is kept of it is F -/
theorem wp_world {P : Program} {c : Code} {Q : Exit → Act → World → Prop} {a : Act} (F : World → Prop) {w : World} (hF : F w) (h : ∀ w', F w' → Code.wp P c Q a w') : Code.wp P c Q a w := h w hF
theorem Blk.new' (w : World) (t : TypeId) (cs : Array Value) (n : Nat) (hn : n = w.heap.size) : Blk (w.alloc (.cells cs t)) n t cs := by subst hn; exact Blk.new w t cs

theorem Own.lit {α : Type} (w : World) (base : Nat) (t : TypeId) (enc : α → Value) (l : List α) (cs : Array Value) (n : Nat) (hcs : cs = (l.map enc).toArray) (hn : n = l.length) (hb : base ≤ w.heap.size) (hm : l.length ≤ maxLen) :
    Own (w.alloc (.cells cs t)) base t enc (.slice (some ⟨w.heap.size, 0, none⟩) n n) l := by
  subst hcs hn
  refine ⟨by simp, .inr ⟨w.heap.size, l.length, (l.map enc).toArray, rfl, hb, heap_alloc_new w _, Nat.le_refl _, hm, by simp, ?_⟩⟩
  exact List.take_of_length_le (by simp)

section
variable {P : Program} {w : World} {ops : Array Oper} {rest : List Oper} {o : Oper} {a : Act} {Q : Exit → Act → World → Prop}
/-- append of a whole slice onto a row of the call's own; the new value written out -/
theorem wp_append_src {K : Act → World → Prop} (s x : Operand) (t : TypeId) (ho : o.op = .call { callee := .builtin .append, args := #[s, x], argTypes := #[t, t] })
    (e : TypeId) (i : TypeInfo) (z : Value) (bytes : Nat) (ht : P.underlying t = some (.slice e)) (hi : P.info? e = some i) (hz : i.zero = some z)
    (hz1 : i.size = 1) (hby : i.bytes = bytes) (hcells : z.cells.size = 1) {α : Type} (enc : α → Value) (w0 : World) (hE : Ext w0 w) (v : Value) (l : List α) (hs : a.eval s = v) (hown : Own w w0.heap.size e enc v l)
    (vs : Value) (l2 : List α) (hx : a.eval x = vs) (hrd : Rd1 w enc vs l2) (h1 : ∀ y ∈ l2, (enc y).oneCell' = true)
    (n' : Nat) (hn' : n' = l.length + l2.length) (hm : n' ≤ maxLen) (hb : n' * bytes ≤ 140737488355328)
    (h : ∀ A' cap' w', Own w' w0.heap.size e enc (.slice A' n' cap') (l ++ l2) → Ext w0 w' → w.grownBy w' v.ownBlock → K (a.put o.dst (.slice A' n' cap')) w') : o.wp P a w K Q := by
  obtain ⟨A, m, c, rfl, rfl, hr⟩ := hrd.reads
  subst hn'
  refine wp_append_any w s x t ho w0.heap.size e i z 1 bytes ht hi hz hz1 hby hcells (by decide) v l.length (l.map enc) hs hown w.heap.size A _ c (l2.map enc) hx hr ?_ hm hb hE.size ?_
  · intro u hu
    obtain ⟨y, hy, rfl⟩ := List.mem_map.1 hu
    exact h1 y hy
  · intro v' w' hown' hg _
    have hown2 : Own w' w0.heap.size e enc v' (l ++ l2) := by
      show w'.ownsRow _ _ _ _ _ _
      simpa using hown'
    obtain ⟨A', n2, c', rfl, hl', -⟩ := hown2.rd
    have : n2 = l.length + l2.length := by rw [← hl']; simp
    subst this
    exact h A' c' w' hown2 (hE.grown hg (Own.base hown)) hg
theorem wpList_append_src (hgd : o.guard = none) (s x : Operand) (t : TypeId) (ho : o.op = .call { callee := .builtin .append, args := #[s, x], argTypes := #[t, t] })
    (e : TypeId) (i : TypeInfo) (z : Value) (bytes : Nat) (ht : P.underlying t = some (.slice e)) (hi : P.info? e = some i) (hz : i.zero = some z)
    (hz1 : i.size = 1) (hby : i.bytes = bytes) (hcells : z.cells.size = 1) {α : Type} (enc : α → Value) (w0 : World) (hE : Ext w0 w) (v : Value) (l : List α) (hs : a.eval s = v) (hown : Own w w0.heap.size e enc v l)
    (vs : Value) (l2 : List α) (hx : a.eval x = vs) (hrd : Rd1 w enc vs l2) (h1 : ∀ y ∈ l2, (enc y).oneCell' = true)
    (n' : Nat) (hn' : n' = l.length + l2.length) (hm : n' ≤ maxLen) (hb : n' * bytes ≤ 140737488355328)
    (h : ∀ A' cap' w', Own w' w0.heap.size e enc (.slice A' n' cap') (l ++ l2) → Ext w0 w' → w.grownBy w' v.ownBlock → wpList P ops Q rest (a.put o.dst (.slice A' n' cap')) w') : wpList P ops Q (o :: rest) a w :=
  wpList_plain hgd fun _ hK => wp_append_src s x t ho e i z bytes ht hi hz hz1 hby hcells enc w0 hE v l hs hown vs l2 hx hrd h1 n' hn' hm hb fun A' c' w' h2 h3 h4 => hK _ _ (h A' c' w' h2 h3 h4)
theorem step_append_src {K : Act → World → Prop} {E : Prop} (hgd : o.guard = none) (s x : Operand) (t : TypeId) (ho : o.op = .call { callee := .builtin .append, args := #[s, x], argTypes := #[t, t] })
    (e : TypeId) (i : TypeInfo) (z : Value) (bytes : Nat) (ht : P.underlying t = some (.slice e)) (hi : P.info? e = some i) (hz : i.zero = some z)
    (hz1 : i.size = 1) (hby : i.bytes = bytes) (hcells : z.cells.size = 1) {α : Type} (enc : α → Value) (w0 : World) (hE : Ext w0 w) (v : Value) (l : List α) (hs : a.eval s = v) (hown : Own w w0.heap.size e enc v l)
    (vs : Value) (l2 : List α) (hx : a.eval x = vs) (hrd : Rd1 w enc vs l2) (h1 : ∀ y ∈ l2, (enc y).oneCell' = true)
    (n' : Nat) (hn' : n' = l.length + l2.length) (hm : n' ≤ maxLen) (hb : n' * bytes ≤ 140737488355328)
    (h : ∀ A' cap' w', Own w' w0.heap.size e enc (.slice A' n' cap') (l ++ l2) → Ext w0 w' → w.grownBy w' v.ownBlock → K (a.put o.dst (.slice A' n' cap')) w') :
    if Region.wanted o (yielded ops a.tmps) = true then Oper.wp P o a w K Q else E := by
  have hw : Region.wanted o (yielded ops a.tmps) = true := by simp [Region.wanted, hgd]
  rw [if_pos hw]
  exact wp_append_src s x t ho e i z bytes ht hi hz hz1 hby hcells enc w0 hE v l hs hown vs l2 hx hrd h1 n' hn' hm hb h
theorem step_append_one1 {K : Act → World → Prop} {E : Prop} (hgd : o.guard = none) (s x : Operand) (t : TypeId) (ho : o.op = .call { callee := .builtin .append, args := #[s, x], argTypes := #[t, t] })
    (e : TypeId) (i : TypeInfo) (z : Value) (bytes : Nat) (ht : P.underlying t = some (.slice e)) (hi : P.info? e = some i) (hz : i.zero = some z)
    (hz1 : i.size = 1) (hby : i.bytes = bytes) (hcells : z.cells.size = 1) {α : Type} (enc : α → Value) (w0 : World) (hE : Ext w0 w) (v : Value) (l : List α) (hs : a.eval s = v) (hown : Own w w0.heap.size e enc v l)
    (g c : Nat) (y : α) (hx : a.eval x = .slice (some ⟨g, 0, none⟩) 1 c) (hcell : w.cell? ⟨g, 0, none⟩ = some (enc y)) (h1 : (enc y).oneCell' = true)
    (hm : l.length + 1 ≤ maxLen) (hb : (l.length + 1) * bytes ≤ 140737488355328)
    (h : ∀ v' w', Own w' w0.heap.size e enc v' (l ++ [y]) → Ext w0 w' → w.grownBy w' v.ownBlock → K (a.put o.dst v') w') :
    if Region.wanted o (yielded ops a.tmps) = true then Oper.wp P o a w K Q else E := by
  have hw : Region.wanted o (yielded ops a.tmps) = true := by simp [Region.wanted, hgd]
  rw [if_pos hw]
  exact wp_append_one s x t ho e i z bytes ht hi hz hz1 hby hcells enc w0 hE v l hs hown g c y hx hcell h1 hm hb h
end

/-- append of a whole slice, and where the new row lies -/
theorem wpList_append_src_at {P : Program} {w : World} {ops : Array Oper} {rest : List Oper} {o : Oper} {a : Act} {Q : Exit → Act → World → Prop} (hgd : o.guard = none) (s x : Operand) (t : TypeId) (ho : o.op = .call { callee := .builtin .append, args := #[s, x], argTypes := #[t, t] })
    (e : TypeId) (i : TypeInfo) (z : Value) (bytes : Nat) (ht : P.underlying t = some (.slice e)) (hi : P.info? e = some i) (hz : i.zero = some z)
    (hz1 : i.size = 1) (hby : i.bytes = bytes) (hcells : z.cells.size = 1) {α : Type} (enc : α → Value) (w0 : World) (hE : Ext w0 w) (v : Value) (l : List α) (hs : a.eval s = v) (hown : Own w w0.heap.size e enc v l)
    (vs : Value) (l2 : List α) (hx : a.eval x = vs) (hrd : Rd1 w enc vs l2) (h1 : ∀ y ∈ l2, (enc y).oneCell' = true)
    (n' : Nat) (hn' : n' = l.length + l2.length) (hm : n' ≤ maxLen) (hb : n' * bytes ≤ 140737488355328)
    (h : ∀ A' cap' w', Own w' w0.heap.size e enc (.slice A' n' cap') (l ++ l2) → Ext w0 w' → w.grownBy w' v.ownBlock → ((Value.slice A' n' cap').ownBlock = v.ownBlock ∨ (Value.slice A' n' cap').ownBlock = some w.heap.size) → wpList P ops Q rest (a.put o.dst (.slice A' n' cap')) w') : wpList P ops Q (o :: rest) a w := by
  obtain ⟨A, m, c, rfl, rfl, hr⟩ := hrd.reads
  subst hn'
  refine wpList_append_any w hgd s x t ho w0.heap.size e i z 1 bytes ht hi hz hz1 hby hcells (by decide) v l.length (l.map enc) hs hown w.heap.size A _ c (l2.map enc) hx hr ?_ hm hb hE.size ?_
  · intro u hu
    obtain ⟨y, hy, rfl⟩ := List.mem_map.1 hu
    exact h1 y hy
  · intro v' w' hown' hg hat
    have hown2 : Own w' w0.heap.size e enc v' (l ++ l2) := by
      show w'.ownsRow _ _ _ _ _ _
      simpa using hown'
    obtain ⟨A', n2, c', rfl, hl', -⟩ := hown2.rd
    have : n2 = l.length + l2.length := by rw [← hl']; simp
    subst this
    exact h A' c' w' hown2 (hE.grown hg (Own.base hown)) hg hat
theorem Rd1.new1 {α : Type} (w : World) (enc : α → Value) (x : α) (t : TypeId) : Rd1 (w.alloc (.cells #[enc x] t)) enc (.slice (some ⟨w.heap.size, 0, none⟩) 1 1) [x] :=
  ⟨_, _, _, rfl, rfl, Nat.le_refl _, by unfold maxLen; omega, fun _ => ⟨w.heap.size, 0, rfl, by simp, fun j y hj => by
    have hj0 : j = 0 := by have := (List.getElem?_eq_some_iff.1 hj).1; simp at this; exact this
    subst hj0
    simp only [List.getElem?_cons_zero, Option.some.injEq] at hj
    subst hj
    exact cell_new1 w _ t⟩⟩

/-- a list of lists of names, read -/
def RdSS (w : World) (v : Value) (L : List (List Nm)) : Prop :=
  ∃ qs : List Value, Rd1 w id v qs ∧ qs.length = L.length ∧ ∀ (j : Nat) (q : Value) (l : List Nm), qs[j]? = some q → L[j]? = some l → RdS w q l
theorem RdSS.ext {w w' : World} {v : Value} {L : List (List Nm)} (h : RdSS w v L) (he : Ext w w') : RdSS w' v L := by
  obtain ⟨qs, h1, h2, h3⟩ := h
  exact ⟨qs, h1.ext he, h2, fun j q l hq hl => (h3 j q l hq hl).ext he⟩
def RdN {α : Type} (w : World) (k : Nat) (enc : α → List Value) (v : Value) (l : List α) : Prop :=
  ∃ A n c, v = .slice A n c ∧ l.length = n ∧ n ≤ c ∧ c ≤ maxLen ∧
    (0 < n → ∃ b off, A = some ⟨b, off, none⟩ ∧ b < w.heap.size ∧ ∀ j x, l[j]? = some x → ∀ i u, (enc x)[i]? = some u → w.cell? ⟨b, off + (j * k + i), none⟩ = some u)
section
variable {α : Type} {w w' : World} {k : Nat} {enc : α → List Value} {v : Value} {l : List α}
theorem RdN.ext (h : RdN w k enc v l) (he : Ext w w') : RdN w' k enc v l := by
  obtain ⟨A, n, c, hv, hl, h1, h2, h3⟩ := h
  refine ⟨A, n, c, hv, hl, h1, h2, fun hn => ?_⟩
  obtain ⟨b, off, hA, hb, hc⟩ := h3 hn
  exact ⟨b, off, hA, Nat.lt_of_lt_of_le hb he.size, fun j x hj i u hu => he.cell (hc j x hj i u hu)⟩
theorem RdN.open_ {A : Option Addr} {n c : Nat} (h : RdN w k enc (.slice A n c) l) :
    l.length = n ∧ n ≤ c ∧ c ≤ maxLen ∧ (0 < n → ∃ b off, A = some ⟨b, off, none⟩ ∧ b < w.heap.size ∧ ∀ j x, l[j]? = some x → ∀ i u, (enc x)[i]? = some u → w.cell? ⟨b, off + (j * k + i), none⟩ = some u) := by
  obtain ⟨A', n', c', he, h1, h2, h3, h4⟩ := h
  injection he with e1 e2 e3
  subst e1 e2 e3
  exact ⟨h1, h2, h3, h4⟩
theorem OwnN.rdN {base : Nat} {t : TypeId} (h : OwnN w base t k enc v l) (hk : ∀ x, (enc x).length = k) : RdN w k enc v l := by
  obtain ⟨A, n, c, hv, hl, h1, h2, h3⟩ := h.rd hk
  refine ⟨A, n, c, hv, hl, h1, h2, fun hn => ?_⟩
  obtain ⟨b, hA, hb, hc⟩ := h3 hn
  exact ⟨b, 0, hA, hb, fun j x hj i u hu => by rw [Nat.zero_add]; exact hc j x hj i u hu⟩
theorem RdN.pre {A : Option Addr} {n c : Nat} (h : RdN w k enc (.slice A n c) l) {i : Nat} (hi : i ≤ n) : RdN w k enc (.slice A i c) (l.take i) := by
  obtain ⟨hl, h1, h2, h3⟩ := h.open_
  refine ⟨_, _, _, rfl, by simp; omega, by omega, h2, fun hn => ?_⟩
  obtain ⟨b, off, hA, hb, hc⟩ := h3 (by omega)
  refine ⟨b, off, hA, hb, fun j x hj => hc j x ?_⟩
  rw [List.getElem?_take] at hj
  split at hj
  · exact hj
  · cases hj
theorem RdN.suf {b off n c : Nat} (h : RdN w k enc (.slice (some ⟨b, off, none⟩) n c) l) {m : Nat} (hm : m ≤ n) : RdN w k enc (.slice (some ⟨b, off + m * k, none⟩) (n - m) (c - m)) (l.drop m) := by
  obtain ⟨hl, h1, h2, h3⟩ := h.open_
  refine ⟨_, _, _, rfl, by simp; omega, by omega, by omega, fun hn => ?_⟩
  obtain ⟨b', off', hA, hb, hc⟩ := h3 (by omega)
  injection hA with hA
  injection hA with e1 e2
  subst e1 e2
  refine ⟨b, off + m * k, rfl, hb, fun j x hj i u hu => ?_⟩
  rw [List.getElem?_drop] at hj
  have := hc (m + j) x hj i u hu
  rw [show off + m * k + (j * k + i) = off + ((m + j) * k + i) by rw [Nat.add_mul]; omega]
  exact this
theorem RdN.none_ {A : Option Addr} {c : Nat} (h0 : l = []) (hc : c ≤ maxLen) : RdN w k enc (.slice A 0 c) l := by
  subst h0
  exact ⟨_, _, _, rfl, rfl, Nat.zero_le _, hc, fun h => absurd h (by omega)⟩
theorem RdN.reads (h : RdN w k enc v l) (hk : ∀ x, (enc x).length = k) (hk0 : 0 < k) : ∃ A n c, v = .slice A n c ∧ n = l.length ∧ Reads w w.heap.size k A n (l.flatMap enc) := by
  obtain ⟨A, n, c, rfl, hl, h1, h2, h3⟩ := h
  refine ⟨A, n, c, rfl, hl.symm, by rw [flatMap_len hk, hl], fun hn => ?_⟩
  obtain ⟨b, off, rfl, hb, hc⟩ := h3 hn
  refine ⟨⟨b, off, none⟩, rfl, hb, fun j u hu => ?_⟩
  have hjl : j < l.length * k := by have := (List.getElem?_eq_some_iff.1 hu).1; rwa [flatMap_len hk] at this
  have hq : j / k < l.length := Nat.div_lt_of_lt_mul (by rw [Nat.mul_comm]; exact hjl)
  have hj : j = j / k * k + j % k := by rw [Nat.mul_comm]; exact (Nat.div_add_mod j k).symm
  have e := flatMap_get hk (List.getElem?_eq_getElem hq) (Nat.mod_lt j hk0)
  rw [← hj, hu] at e
  have := hc (j / k) _ (List.getElem?_eq_getElem hq) (j % k) u e.symm
  rw [← hj] at this
  unfold Addr.add
  split
  · subst_vars; simpa using this
  · exact this
end
section
variable {P : Program} {w : World} {ops : Array Oper} {rest : List Oper} {o : Oper} {a : Act} {Q : Exit → Act → World → Prop}
theorem wp_append_srcN {K : Act → World → Prop} (s x : Operand) (t : TypeId) (ho : o.op = .call { callee := .builtin .append, args := #[s, x], argTypes := #[t, t] })
    (e : TypeId) (i : TypeInfo) (z : Value) (k bytes : Nat) (ht : P.underlying t = some (.slice e)) (hi : P.info? e = some i) (hz : i.zero = some z)
    (hz1 : i.size = k) (hby : i.bytes = bytes) (hcells : z.cells.size = k) (hk0 : 0 < k) {α : Type} (enc : α → List Value) (hk : ∀ x, (enc x).length = k) (w0 : World) (hE : Ext w0 w) (v : Value) (l : List α) (hs : a.eval s = v) (hown : OwnN w w0.heap.size e k enc v l)
    (vs : Value) (l2 : List α) (hx : a.eval x = vs) (hrd : RdN w k enc vs l2) (h1 : ∀ y ∈ l2, ∀ u ∈ enc y, u.oneCell' = true)
    (n' : Nat) (hn' : n' = l.length + l2.length) (hm : n' ≤ maxLen) (hb : n' * bytes ≤ 140737488355328)
    (h : ∀ A' cap' w', OwnN w' w0.heap.size e k enc (.slice A' n' cap') (l ++ l2) → Ext w0 w' → K (a.put o.dst (.slice A' n' cap')) w') : o.wp P a w K Q := by
  obtain ⟨A, m, c, rfl, rfl, hr⟩ := hrd.reads hk hk0
  subst hn'
  refine wp_append_any w s x t ho w0.heap.size e i z k bytes ht hi hz hz1 hby hcells hk0 v l.length (l.flatMap enc) hs hown w.heap.size A _ c (l2.flatMap enc) hx hr ?_ hm hb hE.size ?_
  · intro u hu
    obtain ⟨y, hy, hu⟩ := List.mem_flatMap.1 hu
    exact h1 y hy u hu
  · intro v' w' hown' hg _
    have hown2 : OwnN w' w0.heap.size e k enc v' (l ++ l2) := by
      show w'.ownsRow _ _ _ _ _ _
      simpa using hown'
    obtain ⟨A', n2, c', rfl, hl', -⟩ := hown2.rd hk
    have : n2 = l.length + l2.length := by rw [← hl']; simp
    subst this
    exact h A' c' w' hown2 (hE.grown hg (OwnN.from_ hown))
theorem step_append_srcN {K : Act → World → Prop} {E : Prop} (hgd : o.guard = none) (s x : Operand) (t : TypeId) (ho : o.op = .call { callee := .builtin .append, args := #[s, x], argTypes := #[t, t] })
    (e : TypeId) (i : TypeInfo) (z : Value) (k bytes : Nat) (ht : P.underlying t = some (.slice e)) (hi : P.info? e = some i) (hz : i.zero = some z)
    (hz1 : i.size = k) (hby : i.bytes = bytes) (hcells : z.cells.size = k) (hk0 : 0 < k) {α : Type} (enc : α → List Value) (hk : ∀ x, (enc x).length = k) (w0 : World) (hE : Ext w0 w) (v : Value) (l : List α) (hs : a.eval s = v) (hown : OwnN w w0.heap.size e k enc v l)
    (vs : Value) (l2 : List α) (hx : a.eval x = vs) (hrd : RdN w k enc vs l2) (h1 : ∀ y ∈ l2, ∀ u ∈ enc y, u.oneCell' = true)
    (n' : Nat) (hn' : n' = l.length + l2.length) (hm : n' ≤ maxLen) (hb : n' * bytes ≤ 140737488355328)
    (h : ∀ A' cap' w', OwnN w' w0.heap.size e k enc (.slice A' n' cap') (l ++ l2) → Ext w0 w' → K (a.put o.dst (.slice A' n' cap')) w') :
    if Region.wanted o (yielded ops a.tmps) = true then Oper.wp P o a w K Q else E := by
  have hw : Region.wanted o (yielded ops a.tmps) = true := by simp [Region.wanted, hgd]
  rw [if_pos hw]
  exact wp_append_srcN s x t ho e i z k bytes ht hi hz hz1 hby hcells hk0 enc hk w0 hE v l hs hown vs l2 hx hrd h1 n' hn' hm hb h
end
end Go.Proofs.YthldgioggjpnpaaGreat
