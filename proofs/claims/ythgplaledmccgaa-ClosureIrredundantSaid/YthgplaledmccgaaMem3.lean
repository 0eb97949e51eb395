/-
  Words for memory: rules that came in; a system that the call owns.
-/
import Derived.Test.YthgplaledmccgaaMem2
import Derived.Test.YthgplaledmccgaaSpec4
namespace Go.Proofs.Ythgplaledmccgaa
open Go.RowKit

section
variable {P : Program} {w : World} {ops : Array Oper} {rest : List Oper} {o : Oper} {a : Act} {Q : Exit → Act → World → Prop}
/-- append one element; the new value written out -/
theorem wp_append_outN {K : Act → World → Prop} (s x : Operand) (t : TypeId) (ho : o.op = .call { callee := .builtin .append, args := #[s, x], argTypes := #[t, t] })
    (e : TypeId) (i : TypeInfo) (z : Value) (k bytes : Nat) (ht : P.underlying t = some (.slice e)) (hi : P.info? e = some i) (hz : i.zero = some z)
    (hz1 : i.size = k) (hby : i.bytes = bytes) (hcells : z.cells.size = k) (hk0 : 0 < k) {α : Type} (enc : α → List Value) (hk : ∀ x, (enc x).length = k) (w0 : World) (hE : Ext w0 w) (v : Value) (l : List α) (hs : a.eval s = v) (hown : OwnN w w0.heap.size e k enc v l)
    (g c : Nat) (y : α) (hx : a.eval x = .slice (some ⟨g, 0, none⟩) 1 c) (hcell : ∀ i u, (enc y)[i]? = some u → w.cell? ⟨g, i, none⟩ = some u) (h1 : ∀ u ∈ enc y, u.oneCell' = true)
    (hm : l.length + 1 ≤ maxLen) (hb : (l.length + 1) * bytes ≤ 140737488355328) (n' : Nat) (hn' : l.length + 1 = n')
    (h : ∀ g' cap' w', OwnN w' w0.heap.size e k enc (.slice (some ⟨g', 0, none⟩) n' cap') (l ++ [y]) → Ext w0 w' → w.grownBy w' v.ownBlock → K (a.put o.dst (.slice (some ⟨g', 0, none⟩) n' cap')) w') : o.wp P a w K Q := by
  refine wp_append_oneN s x t ho e i z k bytes ht hi hz hz1 hby hcells hk0 enc hk w0 hE v l hs hown g c y hx hcell h1 hm hb fun v' w' hown' hE' hg' => ?_
  have hex : ∃ g' cap', v' = .slice (some ⟨g', 0, none⟩) n' cap' := by
    rcases hown'.2 with ⟨_, h0⟩ | ⟨g', cap', cur, hv, _⟩
    · simp at h0
    · exact ⟨g', cap', by rw [hv]; simp [← hn']⟩
  obtain ⟨g', cap', rfl⟩ := hex
  exact h g' cap' w' hown' hE' hg'
theorem step_append_outN {K : Act → World → Prop} {E : Prop} (hgd : o.guard = none) (s x : Operand) (t : TypeId) (ho : o.op = .call { callee := .builtin .append, args := #[s, x], argTypes := #[t, t] })
    (e : TypeId) (i : TypeInfo) (z : Value) (k bytes : Nat) (ht : P.underlying t = some (.slice e)) (hi : P.info? e = some i) (hz : i.zero = some z)
    (hz1 : i.size = k) (hby : i.bytes = bytes) (hcells : z.cells.size = k) (hk0 : 0 < k) {α : Type} (enc : α → List Value) (hk : ∀ x, (enc x).length = k) (w0 : World) (hE : Ext w0 w) (v : Value) (l : List α) (hs : a.eval s = v) (hown : OwnN w w0.heap.size e k enc v l)
    (g c : Nat) (y : α) (hx : a.eval x = .slice (some ⟨g, 0, none⟩) 1 c) (hcell : ∀ i u, (enc y)[i]? = some u → w.cell? ⟨g, i, none⟩ = some u) (h1 : ∀ u ∈ enc y, u.oneCell' = true)
    (hm : l.length + 1 ≤ maxLen) (hb : (l.length + 1) * bytes ≤ 140737488355328) (n' : Nat) (hn' : l.length + 1 = n')
    (h : ∀ g' cap' w', OwnN w' w0.heap.size e k enc (.slice (some ⟨g', 0, none⟩) n' cap') (l ++ [y]) → Ext w0 w' → w.grownBy w' v.ownBlock → K (a.put o.dst (.slice (some ⟨g', 0, none⟩) n' cap')) w') :
    if Region.wanted o (yielded ops a.tmps) = true then Oper.wp P o a w K Q else E := by
  have hw : Region.wanted o (yielded ops a.tmps) = true := by simp [Region.wanted, hgd]
  rw [if_pos hw]
  exact wp_append_outN s x t ho e i z k bytes ht hi hz hz1 hby hcells hk0 enc hk w0 hE v l hs hown g c y hx hcell h1 hm hb n' hn' h
theorem wpList_append_out1 (hgd : o.guard = none) (s x : Operand) (t : TypeId) (ho : o.op = .call { callee := .builtin .append, args := #[s, x], argTypes := #[t, t] })
    (e : TypeId) (i : TypeInfo) (z : Value) (bytes : Nat) (ht : P.underlying t = some (.slice e)) (hi : P.info? e = some i) (hz : i.zero = some z)
    (hz1 : i.size = 1) (hby : i.bytes = bytes) (hcells : z.cells.size = 1) {α : Type} (enc : α → Value) (w0 : World) (hE : Ext w0 w) (v : Value) (l : List α) (hs : a.eval s = v) (hown : Own w w0.heap.size e enc v l)
    (g c : Nat) (y : α) (hx : a.eval x = .slice (some ⟨g, 0, none⟩) 1 c) (hcell : w.cell? ⟨g, 0, none⟩ = some (enc y)) (h1 : (enc y).oneCell' = true)
    (hm : l.length + 1 ≤ maxLen) (hb : (l.length + 1) * bytes ≤ 140737488355328) (n' : Nat) (hn' : l.length + 1 = n')
    (h : ∀ g' cap' w', Own w' w0.heap.size e enc (.slice (some ⟨g', 0, none⟩) n' cap') (l ++ [y]) → Ext w0 w' → w.grownBy w' v.ownBlock → wpList P ops Q rest (a.put o.dst (.slice (some ⟨g', 0, none⟩) n' cap')) w') : wpList P ops Q (o :: rest) a w := by
  refine wpList_append_one hgd s x t ho e i z bytes ht hi hz hz1 hby hcells enc w0 hE v l hs hown g c y hx hcell h1 hm hb fun v' w' hown' hE' hg' => ?_
  have hex : ∃ g' cap', v' = .slice (some ⟨g', 0, none⟩) n' cap' := by
    rcases hown'.2 with ⟨_, h0⟩ | ⟨g', cap', cur, hv, _⟩
    · simp at h0
    · exact ⟨g', cap', by rw [hv]; simp [← hn']⟩
  obtain ⟨g', cap', rfl⟩ := hex
  exact h g' cap' w' hown' hE' hg'
end

/-- the world behind a letter: what is kept of it is F -/
theorem wp_world {P : Program} {c : Code} {Q : Exit → Act → World → Prop} {a : Act} (F : World → Prop) {w : World} (hF : F w) (h : ∀ w', F w' → Code.wp P c Q a w') : Code.wp P c Q a w := h w hF
theorem Blk.new' (w : World) (t : TypeId) (cs : Array Value) (n : Nat) (hn : n = w.heap.size) : Blk (w.alloc (.cells cs t)) n t cs := by subst hn; exact Blk.new w t cs

/-- rules over names, as they came in -/
def RdR (w : World) (v : Value) (rs : List RuleN) : Prop :=
  ∃ A n c, v = .slice A n c ∧ rs.length = n ∧ n ≤ c ∧ c ≤ maxLen ∧
    (0 < n → ∃ b off, A = some ⟨b, off, none⟩ ∧ b < w.heap.size ∧ ∀ j r, rs[j]? = some r →
      ∃ q, w.cell? ⟨b, off + j * 2, none⟩ = some q ∧ w.cell? ⟨b, off + j * 2 + 1, none⟩ = some (encS r.2) ∧ RdS w q r.1)
theorem RdR.ext {w w' : World} {v : Value} {rs : List RuleN} (h : RdR w v rs) (he : Ext w w') : RdR w' v rs := by
  obtain ⟨A, n, c, hv, hl, h1, h2, h3⟩ := h
  refine ⟨A, n, c, hv, hl, h1, h2, fun hn => ?_⟩
  obtain ⟨b, off, hA, hb, hc⟩ := h3 hn
  refine ⟨b, off, hA, Nat.lt_of_lt_of_le hb he.size, fun j x hj => ?_⟩
  obtain ⟨q, e1, e2, e3⟩ := hc j x hj
  exact ⟨q, he.cell e1, he.cell e2, e3.ext he⟩

/-- a universe, rules, a set that came in, with their bounds -/
structure InU (w : World) (v : Value) (u : List Nm) : Prop where
  rd : RdS w v u
  nm : ∀ x ∈ u, x.length ≤ maxLen
  sz : u.length ≤ 1048576
structure InR (w : World) (v : Value) (rs : List RuleN) : Prop where
  rd : RdR w v rs
  sz : rs.length ≤ 1048576
  pr : ∀ r ∈ rs, r.1.length ≤ 1048576
theorem InU.ext {w w' : World} {v : Value} {u : List Nm} (h : InU w v u) (he : Ext w w') : InU w' v u := ⟨h.rd.ext he, h.nm, h.sz⟩
theorem InR.ext {w w' : World} {v : Value} {rs : List RuleN} (h : InR w v rs) (he : Ext w w') : InR w' v rs := ⟨h.rd.ext he, h.sz, h.pr⟩

abbrev encQ (p : Value × Nat) : List Value := [p.1, .int .i64 (p.2 : Int)]
/-- rules over places that the call owns; e: the number of the rules' type, ei: int's -/
def OwnRules (w : World) (base : Nat) (e ei : TypeId) (v : Value) (hs : List Horn) : Prop :=
  ∃ qs : List (Value × Nat), OwnN w base e 2 encQ v qs ∧ qs.map (·.2) = hs.map (·.2) ∧ ∀ (j : Nat) (p : Value × Nat) (h : Horn), qs[j]? = some p → hs[j]? = some h → Own w base ei encI p.1 h.1
section
variable {w w' : World} {base : Nat} {e ei : TypeId} {v : Value} {hs : List Horn}
theorem OwnRules.nil (w : World) (base : Nat) (e ei : TypeId) : OwnRules w base e ei (.slice none 0 0) [] :=
  ⟨[], OwnN.nil _ _ _ _ _, rfl, by intro j p h hj; simp at hj⟩
theorem OwnRules.ext (h : OwnRules w base e ei v hs) (he : Ext w w') : OwnRules w' base e ei v hs := by
  obtain ⟨qs, h1, h2, h3⟩ := h
  exact ⟨qs, h1.ext he, h2, fun j p x hj hx => (h3 j p x hj hx).ext he⟩
theorem OwnRules.far (h : OwnRules w base e ei v hs) {g i : Nat} {t : TypeId} {cs : Array Value} (hb : Blk w g t cs) (h1 : e ≠ t) (h2 : ei ≠ t) (u : Value) : OwnRules (w.setCell ⟨g, i, none⟩ u) base e ei v hs := by
  obtain ⟨qs, k1, k2, k3⟩ := h
  exact ⟨qs, k1.far hb h1 u, k2, fun j p x hj hx => (k3 j p x hj hx).far hb h2 u⟩
theorem OwnRules.rd (h : OwnRules w base e ei v hs) : RdH w v hs := by
  obtain ⟨qs, h1, h2, h3⟩ := h
  obtain ⟨A, n, c, rfl, hl, hnc, hcm, hcell⟩ := h1.rd (fun _ => rfl)
  have hlen : qs.length = hs.length := by have := congrArg List.length h2; simpa using this
  refine ⟨A, n, c, rfl, by omega, hnc, hcm, fun hn => ?_⟩
  obtain ⟨b, rfl, hb, hc⟩ := hcell hn
  refine ⟨b, 0, rfl, hb, fun j x hx => ?_⟩
  have hj : j < qs.length := by rw [hlen]; exact (List.getElem?_eq_some_iff.1 hx).1
  have hq : qs[j]? = some qs[j] := List.getElem?_eq_getElem hj
  have h2j : (qs[j]).2 = x.2 := by
    have := congrArg (·[j]?) h2
    simp only [List.getElem?_map, hq, hx, Option.map_some, Option.some.injEq] at this
    exact this
  refine ⟨qs[j].1, ?_, ?_, (h3 j _ x hq hx).rd⟩
  · have := hc j _ hq 0 qs[j].1 rfl
    simpa using this
  · have := hc j _ hq 1 (.int .i64 (qs[j].2 : Int)) rfl
    rw [h2j] at this
    simpa using this
end
/-- a system that the call owns: block b, of the struct's type ts; w0: the world in which the call began -/
structure SysO (ts e ei : TypeId) (w0 w : World) (b : Nat) (vu vr : Value) (u : List Nm) (hs : List Horn) : Prop where
  blk : Blk w b ts #[vu, vr]
  new : w0.heap.size ≤ b
  ext : Ext w0 w
  ru : RdS w0 vu u
  own : OwnRules w w0.heap.size e ei vr hs
  asc : ascB u = true
  ok : okH u.length hs
  szu : u.length ≤ 1048576
  szh : hs.length ≤ 1048576
theorem SysO.later {ts e ei : TypeId} {w0 w w' : World} {b : Nat} {vu vr : Value} {u : List Nm} {hs : List Horn} (h : SysO ts e ei w0 w b vu vr u hs) (he : Ext w w') : SysO ts e ei w0 w' b vu vr u hs :=
  ⟨h.blk.ext he, h.new, h.ext.trans he, h.ru, h.own.ext he, h.asc, h.ok, h.szu, h.szh⟩
theorem SysO.read {ts e ei : TypeId} {w0 w : World} {b : Nat} {vu vr : Value} {u : List Nm} {hs : List Horn} (h : SysO ts e ei w0 w b vu vr u hs) : SysR w b vu vr u hs :=
  ⟨h.blk.cell 0, h.blk.cell 1, h.ru.ext h.ext, h.own.rd, h.asc, h.ok, h.szu, h.szh⟩
end Go.Proofs.Ythgplaledmccgaa
