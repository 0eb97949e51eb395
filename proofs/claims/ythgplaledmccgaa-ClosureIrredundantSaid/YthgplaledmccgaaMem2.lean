/-
  Words for memory: slices of elements with several cells; systems of rules; function values.
-/
import Derived.Test.YthgplaledmccgaaMem
import Derived.Test.YthgplaledmccgaaSpec3
namespace Go.Proofs.Ythgplaledmccgaa
open Go.RowKit

abbrev encI (n : Nat) : Value := .int .i64 (n : Int)

/-- a row of the call's own, k cells an element -/
def OwnN {α : Type} (w : World) (base : Nat) (t : TypeId) (k : Nat) (enc : α → List Value) (v : Value) (l : List α) : Prop := w.ownsRow base t k v l.length (l.flatMap enc)
section
variable {α : Type} {w w' w0 : World} {base : Nat} {t : TypeId} {k : Nat} {enc : α → List Value} {v : Value} {l : List α}
theorem OwnN.nil (w : World) (base : Nat) (t : TypeId) (k : Nat) (enc : α → List Value) : OwnN w base t k enc (.slice none 0 0) [] := World.ownsRow_nil w base t k
theorem OwnN.ext (h : OwnN w base t k enc v l) (he : Ext w w') : OwnN w' base t k enc v l :=
  World.ownsRow.kept (row := none) h ⟨he.os, he.tape, he.output, he.size, fun k hk _ => he.block k hk⟩ (by
    rcases hv : v.ownBlock with _ | k
    · exact .inl rfl
    · right; simp)
theorem OwnN.from_ (hown : OwnN w w0.heap.size t k enc v l) : ∀ k, v.ownBlock = some k → w0.heap.size ≤ k :=
  fun k hk => (World.ownsRow.lt hown k hk).1
theorem flatMap_get (hk : ∀ x, (enc x).length = k) {j : Nat} {x : α} (hx : l[j]? = some x) {i : Nat} (hi : i < k) : (l.flatMap enc)[j * k + i]? = (enc x)[i]? := by
  induction l generalizing j with
  | nil => simp at hx
  | cons a t ih =>
    rw [List.flatMap_cons]
    cases j with
    | zero =>
      simp only [List.getElem?_cons_zero, Option.some.injEq] at hx
      subst hx
      rw [List.getElem?_append_left (by rw [hk]; omega)]
      simp
    | succ j =>
      rw [List.getElem?_cons_succ] at hx
      rw [List.getElem?_append_right (by rw [hk, Nat.succ_mul]; omega), hk, ← ih hx]
      congr 1
      rw [Nat.succ_mul]
      omega
theorem flatMap_len (hk : ∀ x, (enc x).length = k) : (l.flatMap enc).length = l.length * k := by
  induction l with
  | nil => simp
  | cons a t ih => rw [List.flatMap_cons, List.length_append, hk, ih, List.length_cons, Nat.succ_mul]; omega
/-- an owned row read: its slice, and each cell -/
theorem OwnN.rd (h : OwnN w base t k enc v l) (hk : ∀ x, (enc x).length = k) :
    ∃ A n c, v = .slice A n c ∧ l.length = n ∧ n ≤ c ∧ c ≤ maxLen ∧ (0 < n → ∃ b, A = some ⟨b, 0, none⟩ ∧ b < w.heap.size ∧ ∀ j x, l[j]? = some x → ∀ i u, (enc x)[i]? = some u → w.cell? ⟨b, j * k + i, none⟩ = some u) := by
  obtain ⟨h1, h2⟩ := h
  rcases h2 with ⟨rfl, hn⟩ | ⟨g, cap, cur, rfl, hb, hg, hnc, hcm, hcs, htk⟩
  · exact ⟨none, 0, 0, rfl, hn, Nat.le_refl _, Nat.zero_le _, fun h => absurd h (by omega)⟩
  · refine ⟨_, _, _, rfl, rfl, hnc, hcm, fun hn => ⟨g, rfl, (Array.getElem?_eq_some_iff.1 hg).1, fun j x hj i u hu => ?_⟩⟩
    have hjl : j < l.length := (List.getElem?_eq_some_iff.1 hj).1
    have hil : i < k := by have := (List.getElem?_eq_some_iff.1 hu).1; rwa [hk] at this
    rw [cell_of_row w g _ cur t (0, 0) hg]
    have h3 : (cur.toList.take (l.length * k))[j * k + i]? = some u := by rw [htk, flatMap_get hk hj hil, hu]
    rw [List.getElem?_take] at h3
    have h4 : j * k + i < l.length * k := by
      have := Nat.mul_le_mul_right k (Nat.succ_le_of_lt hjl)
      rw [Nat.succ_mul] at this
      omega
    rw [if_pos h4] at h3
    simpa using h3
end

section
variable {P : Program} {w : World} {ops : Array Oper} {rest : List Oper} {o : Oper} {a : Act} {Q : Exit → Act → World → Prop}
theorem wp_append_oneN {K : Act → World → Prop} (s x : Operand) (t : TypeId) (ho : o.op = .call { callee := .builtin .append, args := #[s, x], argTypes := #[t, t] })
    (e : TypeId) (i : TypeInfo) (z : Value) (k bytes : Nat) (ht : P.underlying t = some (.slice e)) (hi : P.info? e = some i) (hz : i.zero = some z)
    (hz1 : i.size = k) (hby : i.bytes = bytes) (hcells : z.cells.size = k) (hk0 : 0 < k) {α : Type} (enc : α → List Value) (hk : ∀ x, (enc x).length = k) (w0 : World) (hE : Ext w0 w) (v : Value) (l : List α) (hs : a.eval s = v) (hown : OwnN w w0.heap.size e k enc v l)
    (g c : Nat) (y : α) (hx : a.eval x = .slice (some ⟨g, 0, none⟩) 1 c) (hcell : ∀ i u, (enc y)[i]? = some u → w.cell? ⟨g, i, none⟩ = some u) (h1 : ∀ u ∈ enc y, u.oneCell' = true)
    (hm : l.length + 1 ≤ maxLen) (hb : (l.length + 1) * bytes ≤ 140737488355328)
    (h : ∀ v' w', OwnN w' w0.heap.size e k enc v' (l ++ [y]) → Ext w0 w' → w.grownBy w' v.ownBlock → K (a.put o.dst v') w') : o.wp P a w K Q := by
  refine wp_append_own w s x t ho w0.heap.size e i z k bytes ht hi hz hz1 hby hcells hk0 v l.length (l.flatMap enc) hs hown ⟨g, 0, none⟩ 1 c (enc y) hx (by rw [hk, Nat.one_mul]) ?_ h1 hm hb hE.size ?_
  · intro j u hu
    have := hcell j u hu
    unfold Addr.add
    split
    · subst_vars; exact this
    · simpa using this
  · intro v' w' hown' hg _
    refine h v' w' ?_ (hE.grown hg (OwnN.from_ hown)) hg
    show w'.ownsRow _ _ _ _ _ _
    simpa using hown'
theorem wpList_append_oneN (hgd : o.guard = none) (s x : Operand) (t : TypeId) (ho : o.op = .call { callee := .builtin .append, args := #[s, x], argTypes := #[t, t] })
    (e : TypeId) (i : TypeInfo) (z : Value) (k bytes : Nat) (ht : P.underlying t = some (.slice e)) (hi : P.info? e = some i) (hz : i.zero = some z)
    (hz1 : i.size = k) (hby : i.bytes = bytes) (hcells : z.cells.size = k) (hk0 : 0 < k) {α : Type} (enc : α → List Value) (hk : ∀ x, (enc x).length = k) (w0 : World) (hE : Ext w0 w) (v : Value) (l : List α) (hs : a.eval s = v) (hown : OwnN w w0.heap.size e k enc v l)
    (g c : Nat) (y : α) (hx : a.eval x = .slice (some ⟨g, 0, none⟩) 1 c) (hcell : ∀ i u, (enc y)[i]? = some u → w.cell? ⟨g, i, none⟩ = some u) (h1 : ∀ u ∈ enc y, u.oneCell' = true)
    (hm : l.length + 1 ≤ maxLen) (hb : (l.length + 1) * bytes ≤ 140737488355328)
    (h : ∀ v' w', OwnN w' w0.heap.size e k enc v' (l ++ [y]) → Ext w0 w' → w.grownBy w' v.ownBlock → wpList P ops Q rest (a.put o.dst v') w') : wpList P ops Q (o :: rest) a w :=
  wpList_plain hgd fun _ hK => wp_append_oneN s x t ho e i z k bytes ht hi hz hz1 hby hcells hk0 enc hk w0 hE v l hs hown g c y hx hcell h1 hm hb fun v' w' h2 h3 h4 => hK _ _ (h v' w' h2 h3 h4)
end
theorem Arr.appendedN {α β : Type} {w w' : World} {g : Nat} {t : TypeId} {enc : α → Value} {l : List α} {base : Nat} {e : TypeId} {k : Nat} {enc' : β → List Value} {v : Value} {xs : List β} (h : Arr w t enc g l) (hg : w.grownBy w' v.ownBlock)
    (hown : OwnN w base e k enc' v xs) (hne : e ≠ t) : Arr w' t enc g l := Blk.appended h hg hown hne
theorem Own.appendedN {α β : Type} {w w' : World} {base0 : Nat} {t : TypeId} {enc : α → Value} {v0 : Value} {l : List α} {base : Nat} {e : TypeId} {k : Nat} {enc' : β → List Value} {v : Value} {xs : List β} (h : Own w base0 t enc v0 l) (hg : w.grownBy w' v.ownBlock)
    (hown : OwnN w base e k enc' v xs) (hne : e ≠ t) : Own w' base0 t enc v0 l := by
  refine World.ownsRow.kept h hg ?_
  rcases h.2 with ⟨rfl, _⟩ | ⟨g, cap, cur, rfl, _, hh, _⟩
  · exact .inl rfl
  · exact .inr fun he => own_blk_ne hown (g := g) (t := t) (cs := cur) hh hne he.symm

/-! ### copy of a whole slice into an array of the call's own -/
theorem wpList_copy_arr {P : Program} {w : World} {ops : Array Oper} {rest : List Oper} {o : Oper} {a : Act} {Q : Exit → Act → World → Prop} (hgd : o.guard = none) (d s : Operand) (T : TypeId)
    (ho : o.op = .call { callee := .builtin .copy, args := #[d, s], argTypes := #[T, T] }) (elem : TypeId) (hu : P.underlying T = some (.slice elem)) (hsz : (P.info? elem).map (·.size) = some 1)
    {α : Type} (enc : α → Value) (g : Nat) (l0 l : List α) (vs : Value) (n : Nat) (hd : a.eval d = .slice (some ⟨g, 0, none⟩) n n) (hn0 : l0.length = n) (hs : a.eval s = vs) (hv : Rd1 w enc vs l) (hA : Arr w elem enc g l0)
    (hn1 : l.length = n) (h1 : ∀ x, (enc x).oneCell' = true) (w0 : World) (hE : Ext w0 w) (hg : w0.heap.size ≤ g)
    (h : ∀ w', Arr w' elem enc g l → Ext w0 w' → wpList P ops Q rest (a.put o.dst (goInt n)) w') : wpList P ops Q (o :: rest) a w := by
  obtain ⟨A, m, c, rfl, hl, hmc, hcm, hcell⟩ := hv
  obtain rfl : m = n := by omega
  refine wpList_copy_splice hgd d s T T ho elem hu hsz (some ⟨g, 0, none⟩) A m m m c hd hs g 0 (l0.map enc) elem hA (l.map enc) (by simp [hl]) ?_ (by simp; omega) ?_ w0.heap.size w0 hE hg ?_
  · intro h0
    refine ⟨rfl, ?_⟩
    obtain ⟨b, off, rfl, hb, hc⟩ := hcell (by simpa [hl] using h0)
    refine ⟨⟨b, off, none⟩, rfl, fun j v hj => ?_⟩
    rw [List.getElem?_map] at hj
    cases hx : l[j]? with
    | none => rw [hx] at hj; cases hj
    | some x =>
      rw [hx] at hj
      cases hj
      have := hc j x hx
      unfold Addr.add
      split
      · subst_vars; simpa using this
      · exact this
  · intro v hv
    obtain ⟨x, _, rfl⟩ := List.mem_map.1 hv
    exact h1 x
  · intro w' hw' hb
    rw [List.length_map, hl]
    refine h w' ?_ hb
    have := hw'.out
    unfold Arr Blk
    rw [this]
    congr 2
    simp [splice]
    omega

def lenV : Value → Nat | .slice _ n _ => n | _ => 0
theorem OwnN.lenV {α : Type} {w : World} {base : Nat} {t : TypeId} {k : Nat} {enc : α → List Value} {v : Value} {l : List α} (h : OwnN w base t k enc v l) : lenV v = l.length := by
  rcases h.2 with ⟨rfl, hn⟩ | ⟨g, cap, cur, rfl, _⟩
  · exact hn.symm
  · rfl

theorem cells_new (w : World) (l : List Value) (t : TypeId) (n : Nat) (hn : n = w.heap.size) : ∀ i u, l[i]? = some u → (w.alloc (.cells l.toArray t)).cell? ⟨n, i, none⟩ = some u := by
  intro i u hu
  subst hn
  rw [(Blk.new w t l.toArray).cell i]
  simpa using hu
theorem OwnN.far {α : Type} {w : World} {base : Nat} {t t' : TypeId} {k : Nat} {enc : α → List Value} {v : Value} {l : List α} (h : OwnN w base t k enc v l) {g i : Nat} {cs : Array Value} (hb : Blk w g t' cs) (hne : t ≠ t') (u : Value) :
    OwnN (w.setCell ⟨g, i, none⟩ u) base t k enc v l := by
  obtain ⟨h1, h2⟩ := h
  refine ⟨h1, ?_⟩
  rcases h2 with h2 | ⟨g', cap, cur, hv, hg, hh, r⟩
  · exact Or.inl h2
  · refine Or.inr ⟨g', cap, cur, hv, hg, ?_, r⟩
    rw [Below.heap_setCell _ _ _ _ ?_]
    · exact hh
    · intro he
      exact Blk.ne_ (show Blk w g' t cur from hh) hb hne he
theorem Own.far {α : Type} {w : World} {base : Nat} {t t' : TypeId} {enc : α → Value} {v : Value} {l : List α} (h : Own w base t enc v l) {g i : Nat} {cs : Array Value} (hb : Blk w g t' cs) (hne : t ≠ t') (u : Value) :
    Own (w.setCell ⟨g, i, none⟩ u) base t enc v l := by
  obtain ⟨h1, h2⟩ := h
  refine ⟨h1, ?_⟩
  rcases h2 with h2 | ⟨g', cap, cur, hv, hg, hh, r⟩
  · exact Or.inl h2
  · refine Or.inr ⟨g', cap, cur, hv, hg, ?_, r⟩
    rw [Below.heap_setCell _ _ _ _ ?_]
    · exact hh
    · intro he
      exact Blk.ne_ (show Blk w g' t cur from hh) hb hne he

/-! ### rules over places -/
/-- a slice of rules -/
def RdH (w : World) (v : Value) (hs : List Horn) : Prop :=
  ∃ A n c, v = .slice A n c ∧ hs.length = n ∧ n ≤ c ∧ c ≤ maxLen ∧
    (0 < n → ∃ b off, A = some ⟨b, off, none⟩ ∧ b < w.heap.size ∧ ∀ j h, hs[j]? = some h →
      ∃ q, w.cell? ⟨b, off + j * 2, none⟩ = some q ∧ w.cell? ⟨b, off + j * 2 + 1, none⟩ = some (.int .i64 (h.2 : Int)) ∧ Rd1 w encI q h.1)
theorem RdH.ext {w w' : World} {v : Value} {hs : List Horn} (h : RdH w v hs) (he : Ext w w') : RdH w' v hs := by
  obtain ⟨A, n, c, hv, hl, h1, h2, h3⟩ := h
  refine ⟨A, n, c, hv, hl, h1, h2, fun hn => ?_⟩
  obtain ⟨b, off, hA, hb, hc⟩ := h3 hn
  refine ⟨b, off, hA, Nat.lt_of_lt_of_le hb he.size, fun j x hj => ?_⟩
  obtain ⟨q, e1, e2, e3⟩ := hc j x hj
  exact ⟨q, he.cell e1, he.cell e2, e3.ext he⟩

/-- a system at block b: its universe, its rules -/
structure SysR (w : World) (b : Nat) (vu vr : Value) (u : List Nm) (hs : List Horn) : Prop where
  cu : w.cell? ⟨b, 0, none⟩ = some vu
  cr : w.cell? ⟨b, 1, none⟩ = some vr
  ru : RdS w vu u
  rh : RdH w vr hs
  asc : ascB u = true
  ok : okH u.length hs
  szu : u.length ≤ 1048576
  szh : hs.length ≤ 1048576
theorem SysR.ext {w w' : World} {b : Nat} {vu vr : Value} {u : List Nm} {hs : List Horn} (h : SysR w b vu vr u hs) (he : Ext w w') : SysR w' b vu vr u hs :=
  ⟨he.cell h.cu, he.cell h.cr, h.ru.ext he, h.rh.ext he, h.asc, h.ok, h.szu, h.szh⟩

/-- a function value that answers U at the places below n, now and in all that grows from w -/
def UseAt (P : Program) (f : Value) (n : Nat) (U : Nat → Bool) (w : World) : Prop :=
  ∃ g cap, f = .func (.func g) #[] cap ∧ (∀ (args : Array Value) (w : World), (callFunc g args).run P w = .ok (.enter g args) w) ∧ ∀ W (i : Nat), Ext w W → i < n → Calls P g (#[.int .i64 (i : Int)] ++ cap) W fun e W' => e = .returned (.bool (U i)) ∧ W = W'
theorem UseAt.ext {P : Program} {f : Value} {n : Nat} {U : Nat → Bool} {w w' : World} (h : UseAt P f n U w) (he : Ext w w') : UseAt P f n U w' := by
  obtain ⟨g, cap, hf, hen, hc⟩ := h
  exact ⟨g, cap, hf, hen, fun W i hE hi => hc W i (he.trans hE) hi⟩
end Go.Proofs.Ythgplaledmccgaa
