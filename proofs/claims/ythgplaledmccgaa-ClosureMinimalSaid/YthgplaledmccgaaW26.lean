/-
  Contract: closure.Stem.
-/
import Derived.Test.YthgplaledmccgaaW25
import Derived.Test.YthgplaledmccgaaW13
import Derived.Test.YthgplaledmccgaaSpec12
namespace Go.Proofs.Ythgplaledmccgaa
open Go.RowKit

theorem inf105 : (Try.prog.info? 105).map (fun i => (i.zero, i.size, i.bytes)) = some (some (.agg #[.slice none 0 0, .slice none 0 0]), 2, 48) := by kernel_rfl
theorem inf49 : (Try.prog.info? 49).map (fun i => (i.zero, i.size, i.bytes)) = some (some (.agg #[.slice none 0 0, .slice none 0 0]), 2, 48) := by kernel_rfl
abbrev enc2 (p : Value × Value) : List Value := [p.1, p.2]
theorem OwnN.appendedN {α β : Type} {w w' : World} {base0 : Nat} {t : TypeId} {k0 : Nat} {enc : α → List Value} {v0 : Value} {l : List α} {base : Nat} {e : TypeId} {k : Nat} {enc' : β → List Value} {v : Value} {xs : List β} (h : OwnN w base0 t k0 enc v0 l) (hg : w.grownBy w' v.ownBlock)
    (hown : OwnN w base e k enc' v xs) (hne : e ≠ t) : OwnN w' base0 t k0 enc v0 l := by
  refine World.ownsRow.kept h hg ?_
  rcases h.2 with ⟨rfl, _⟩ | ⟨g, cap, cur, rfl, _, hh, _⟩
  · exact .inl rfl
  · exact .inr fun he => own_blk_ne hown (g := g) (t := t) (cs := cur) hh hne he.symm

theorem wpList_append_outN {P : Program} {w : World} {ops : Array Oper} {rest : List Oper} {o : Oper} {a : Act} {Q : Exit → Act → World → Prop} (hgd : o.guard = none) (s x : Operand) (t : TypeId) (ho : o.op = .call { callee := .builtin .append, args := #[s, x], argTypes := #[t, t] })
    (e : TypeId) (i : TypeInfo) (z : Value) (k bytes : Nat) (ht : P.underlying t = some (.slice e)) (hi : P.info? e = some i) (hz : i.zero = some z)
    (hz1 : i.size = k) (hby : i.bytes = bytes) (hcells : z.cells.size = k) (hk0 : 0 < k) {α : Type} (enc : α → List Value) (hk : ∀ x, (enc x).length = k) (w0 : World) (hE : Ext w0 w) (v : Value) (l : List α) (hs : a.eval s = v) (hown : OwnN w w0.heap.size e k enc v l)
    (g c : Nat) (y : α) (hx : a.eval x = .slice (some ⟨g, 0, none⟩) 1 c) (hcell : ∀ i u, (enc y)[i]? = some u → w.cell? ⟨g, i, none⟩ = some u) (h1 : ∀ u ∈ enc y, u.oneCell' = true)
    (hm : l.length + 1 ≤ maxLen) (hb : (l.length + 1) * bytes ≤ 140737488355328) (n' : Nat) (hn' : l.length + 1 = n')
    (h : ∀ g' cap' w', OwnN w' w0.heap.size e k enc (.slice (some ⟨g', 0, none⟩) n' cap') (l ++ [y]) → Ext w0 w' → w.grownBy w' v.ownBlock → wpList P ops Q rest (a.put o.dst (.slice (some ⟨g', 0, none⟩) n' cap')) w') : wpList P ops Q (o :: rest) a w :=
  wpList_plain hgd fun _ hK => wp_append_outN s x t ho e i z k bytes ht hi hz hz1 hby hcells hk0 enc hk w0 hE v l hs hown g c y hx hcell h1 hm hb n' hn' fun g' cap' w' h2 h3 h4 => hK _ _ (h g' cap' w' h2 h3 h4)

/-- pairs of sets of n places that the call owns -/
def FndP (n : Nat) (w : World) (base : Nat) (v : Value) (F : List PairB) : Prop :=
  ∃ qs : List (Value × Value), OwnN w base 105 2 enc2 v qs ∧ qs.length = F.length ∧ ∀ (j : Nat) (q : Value × Value) (f : PairB), qs[j]? = some q → F[j]? = some f →
    (∃ g, q.1 = .slice (some ⟨g, 0, none⟩) n n ∧ Arr w 4 Value.bool g f.1) ∧ (∃ g, q.2 = .slice (some ⟨g, 0, none⟩) n n ∧ Arr w 4 Value.bool g f.2)
/-- pairs of lists of names that the call owns -/
def OwnSP (w : World) (base : Nat) (v : Value) (L : List (NmL × NmL)) : Prop :=
  ∃ qs : List (Value × Value), OwnN w base 49 2 enc2 v qs ∧ qs.length = L.length ∧ ∀ (j : Nat) (q : Value × Value) (l : NmL × NmL), qs[j]? = some q → L[j]? = some l →
    Own w base 9 encS q.1 l.1 ∧ Own w base 9 encS q.2 l.2
theorem FndP.ext {n : Nat} {w w' : World} {base : Nat} {v : Value} {F : List PairB} (h : FndP n w base v F) (he : Ext w w') : FndP n w' base v F := by
  obtain ⟨qs, h1, h2, h3⟩ := h
  refine ⟨qs, h1.ext he, h2, fun j q f hq hf => ?_⟩
  obtain ⟨⟨g1, e1, a1⟩, ⟨g2, e2, a2⟩⟩ := h3 j q f hq hf
  exact ⟨⟨g1, e1, a1.ext he⟩, ⟨g2, e2, a2.ext he⟩⟩
theorem OwnSP.ext {w w' : World} {base : Nat} {v : Value} {L : List (NmL × NmL)} (h : OwnSP w base v L) (he : Ext w w') : OwnSP w' base v L := by
  obtain ⟨qs, h1, h2, h3⟩ := h
  exact ⟨qs, h1.ext he, h2, fun j q l hq hl => ⟨(h3 j q l hq hl).1.ext he, (h3 j q l hq hl).2.ext he⟩⟩
theorem OwnSP.lenV {w : World} {base : Nat} {v : Value} {L : List (NmL × NmL)} (h : OwnSP w base v L) : lenV v = L.length := by
  obtain ⟨qs, h1, h2, h3⟩ := h
  rw [h1.lenV, h2]
theorem FndP.rd {n : Nat} {w : World} {base : Nat} {v : Value} {F : List PairB} (h : FndP n w base v F) (hn : n ≤ 1048576) (hF : ∀ f ∈ F, f.1.length = n ∧ f.2.length = n) : RdPB w v F := by
  obtain ⟨qs, h1, h2, h3⟩ := h
  obtain ⟨A, m, c, hv, hl, hmc, hcm, hcell⟩ := h1.rd (fun _ => rfl)
  refine ⟨A, m, c, hv, by omega, hmc, hcm, fun h0 => ?_⟩
  obtain ⟨b, hA, hb, hc⟩ := hcell h0
  refine ⟨b, 0, hA, hb, fun j f hf => ?_⟩
  have hj : j < qs.length := by rw [h2]; exact (List.getElem?_eq_some_iff.1 hf).1
  have hq : qs[j]? = some qs[j] := List.getElem?_eq_getElem hj
  obtain ⟨⟨g1, e1, a1⟩, ⟨g2, e2, a2⟩⟩ := h3 j _ f hq hf
  have c0 := hc j _ hq 0 _ rfl
  have c1 := hc j _ hq 1 _ rfl
  have hfl := hF f (List.mem_of_getElem? hf)
  have r1 := a1.rd (by rw [hfl.1]; unfold maxLen; omega)
  have r2 := a2.rd (by rw [hfl.2]; unfold maxLen; omega)
  rw [hfl.1] at r1
  rw [hfl.2] at r2
  exact ⟨_, _, by simpa using c0, by simpa using c1, by rw [e1]; exact r1, by rw [e2]; exact r2⟩

theorem fndQ_ext {n : Nat} {w w' : World} {F : List PairB} {qs : List (Value × Value)} (h3 : ∀ (j : Nat) (q : Value × Value) (f : PairB), qs[j]? = some q → F[j]? = some f → (∃ g, q.1 = .slice (some ⟨g, 0, none⟩) n n ∧ Arr w 4 Value.bool g f.1) ∧ (∃ g, q.2 = .slice (some ⟨g, 0, none⟩) n n ∧ Arr w 4 Value.bool g f.2)) (he : Ext w w') :
    ∀ (j : Nat) (q : Value × Value) (f : PairB), qs[j]? = some q → F[j]? = some f → (∃ g, q.1 = .slice (some ⟨g, 0, none⟩) n n ∧ Arr w' 4 Value.bool g f.1) ∧ (∃ g, q.2 = .slice (some ⟨g, 0, none⟩) n n ∧ Arr w' 4 Value.bool g f.2) := fun j q f hq hf => by
  obtain ⟨⟨g1, e1, a1⟩, ⟨g2, e2, a2⟩⟩ := h3 j q f hq hf
  exact ⟨⟨g1, e1, a1.ext he⟩, ⟨g2, e2, a2.ext he⟩⟩
theorem ownQ_ext {w w' : World} {base : Nat} {L : List (NmL × NmL)} {qs : List (Value × Value)} (h3 : ∀ (j : Nat) (q : Value × Value) (l : NmL × NmL), qs[j]? = some q → L[j]? = some l → Own w base 9 encS q.1 l.1 ∧ Own w base 9 encS q.2 l.2) (he : Ext w w') :
    ∀ (j : Nat) (q : Value × Value) (l : NmL × NmL), qs[j]? = some q → L[j]? = some l → Own w' base 9 encS q.1 l.1 ∧ Own w' base 9 encS q.2 l.2 := fun j q l hj hl => ⟨(h3 j q l hj hl).1.ext he, (h3 j q l hj hl).2.ext he⟩
/-- the result row and what it holds stay where the found row grows and the variable is stored -/
theorem ownQ_push {w w' : World} {base bf : Nat} {vF v' vo : Value} {L : List (NmL × NmL)} {qo qs : List (Value × Value)} (ho : OwnN w base 49 2 enc2 vo qo)
    (h3 : ∀ (j : Nat) (q : Value × Value) (l : NmL × NmL), qo[j]? = some q → L[j]? = some l → Own w base 9 encS q.1 l.1 ∧ Own w base 9 encS q.2 l.2)
    (hq : OwnN w base 105 2 enc2 vF qs) (hg : w.grownBy w' vF.ownBlock) (hcf : Blk w bf 103 #[vF]) :
    OwnN (w'.setCell ⟨bf, 0, none⟩ v') base 49 2 enc2 vo qo ∧ ∀ (j : Nat) (q : Value × Value) (l : NmL × NmL), qo[j]? = some q → L[j]? = some l → Own (w'.setCell ⟨bf, 0, none⟩ v') base 9 encS q.1 l.1 ∧ Own (w'.setCell ⟨bf, 0, none⟩ v') base 9 encS q.2 l.2 := by
  have hcf' : Blk w' bf 103 #[vF] := Blk.appended hcf hg hq (by decide)
  have own : ∀ q l, Own w base 9 encS q l → Own (w'.setCell ⟨bf, 0, none⟩ v') base 9 encS q l := fun q l ho =>
    (ho.appendedN hg hq (by decide)).far hcf' (by decide) _
  exact ⟨(ho.appendedN hg hq (by decide)).far hcf' (by decide) _, fun j q l hj hl => ⟨own _ _ (h3 j q l hj hl).1, own _ _ (h3 j q l hj hl).2⟩⟩

structure StI (n : Nat) (w1 w : World) (bf bb : Nat) (vF vo : Value) (F : List PairB) (L : List (NmL × NmL)) : Prop where
  ext : Ext w1 w
  cf : Blk w bf 103 #[vF]
  cb : Blk w bb 104 #[.func (.func 63) #[] #[]]
  fnd : FndP n w w1.heap.size vF F
  out : OwnSP w w1.heap.size vo L
  lo : w1.heap.size ≤ bf
theorem StI.later {n : Nat} {w1 w w' : World} {bf bb : Nat} {vF vo : Value} {F : List PairB} {L : List (NmL × NmL)} (h : StI n w1 w bf bb vF vo F L) (he : Ext w w') : StI n w1 w' bf bb vF vo F L :=
  ⟨h.ext.trans he, h.cf.ext he, h.cb.ext he, h.fnd.ext he, h.out.ext he, h.lo⟩
theorem getElem_snoc {α : Type} {l : List α} {x y : α} {j : Nat} (h : (l ++ [x])[j]? = some y) : (j < l.length ∧ l[j]? = some y) ∨ (j = l.length ∧ y = x) := by
  by_cases hj : j < l.length
  · rw [List.getElem?_append_left hj] at h; exact .inl ⟨hj, h⟩
  · have hl := (List.getElem?_eq_some_iff.1 h).1
    simp at hl
    have : j = l.length := by omega
    subst this
    rw [List.getElem?_append_right (by omega)] at h
    simp at h
    exact .inr ⟨rfl, h.symm⟩
/-- a pair is put behind the found ones, and the variable holds the new row -/
theorem StI.pushF {n : Nat} {w1 w w' : World} {bf bb : Nat} {vF vo v' : Value} {F : List PairB} {L : List (NmL × NmL)} (h : StI n w1 w bf bb vF vo F L) {qs : List (Value × Value)} (hq : OwnN w w1.heap.size 105 2 enc2 vF qs) (hlen : qs.length = F.length)
    (hqs : ∀ (j : Nat) (q : Value × Value) (f : PairB), qs[j]? = some q → F[j]? = some f → (∃ g, q.1 = .slice (some ⟨g, 0, none⟩) n n ∧ Arr w 4 Value.bool g f.1) ∧ (∃ g, q.2 = .slice (some ⟨g, 0, none⟩) n n ∧ Arr w 4 Value.bool g f.2))
    {gs gc : Nat} {s c : SetB} (hs : Arr w 4 Value.bool gs s) (hc : Arr w 4 Value.bool gc c) (hE : Ext w1 w') (hg : w.grownBy w' vF.ownBlock)
    (hown : OwnN w' w1.heap.size 105 2 enc2 v' (qs ++ [(.slice (some ⟨gs, 0, none⟩) n n, .slice (some ⟨gc, 0, none⟩) n n)])) :
    StI n w1 (w'.setCell ⟨bf, 0, none⟩ v') bf bb v' vo (F ++ [(s, c)]) L ∧ Arr (w'.setCell ⟨bf, 0, none⟩ v') 4 Value.bool gs s ∧ Arr (w'.setCell ⟨bf, 0, none⟩ v') 4 Value.bool gc c := by
  have hcf : Blk w' bf 103 #[vF] := Blk.appended h.cf hg hq (by decide)
  have arr : ∀ g l, Arr w 4 Value.bool g l → Arr (w'.setCell ⟨bf, 0, none⟩ v') 4 Value.bool g l := fun g l ha => by
    have h1 : Arr w' 4 Value.bool g l := ha.appendedN hg hq (by decide)
    exact h1.far (p := ⟨bf, 0, none⟩) (fun e => Blk.ne_ h1 hcf (by decide) e) _
  have own : ∀ q l, Own w w1.heap.size 9 encS q l → Own (w'.setCell ⟨bf, 0, none⟩ v') w1.heap.size 9 encS q l := fun q l ho =>
    (ho.appendedN hg hq (by decide)).far hcf (by decide) _
  refine ⟨⟨hE.setCell (p := ⟨bf, 0, none⟩) h.lo _, ?_, ?_, ?_, ?_, h.lo⟩, arr _ _ hs, arr _ _ hc⟩
  · have := Blk.set_ hcf 0 v'
    simpa using this
  · have h1 : Blk w' bb _ _ := Blk.appended h.cb hg hq (by decide)
    exact Blk.far h1 (p := ⟨bf, 0, none⟩) (fun e => Blk.ne_ h1 hcf (by decide) e) _
  · refine ⟨_, hown.far hcf (by decide) _, by simp [hlen], fun j q f hj hf => ?_⟩
    rcases getElem_snoc hj with ⟨h1, h2⟩ | ⟨h1, h2⟩
    · rcases getElem_snoc hf with ⟨h3, h4⟩ | ⟨h3, h4⟩
      · obtain ⟨⟨g1, e1, a1⟩, ⟨g2, e2, a2⟩⟩ := hqs j q f h2 h4
        exact ⟨⟨g1, e1, arr _ _ a1⟩, ⟨g2, e2, arr _ _ a2⟩⟩
      · omega
    · rcases getElem_snoc hf with ⟨h3, h4⟩ | ⟨h3, h4⟩
      · omega
      · subst h2 h4
        exact ⟨⟨gs, rfl, arr _ _ hs⟩, ⟨gc, rfl, arr _ _ hc⟩⟩
  · obtain ⟨qo, h1, h2, h3⟩ := h.out
    exact ⟨qo, (h1.appendedN hg hq (by decide)).far hcf (by decide) _, h2, fun j q l hj hl => ⟨own _ _ (h3 j q l hj hl).1, own _ _ (h3 j q l hj hl).2⟩⟩
/-- a pair of lists is put behind the result -/
theorem StI.pushO {n : Nat} {w1 w w' : World} {bf bb : Nat} {vF vo v' : Value} {F : List PairB} {L : List (NmL × NmL)} (h : StI n w1 w bf bb vF vo F L) {qs : List (Value × Value)} (hq : OwnN w w1.heap.size 49 2 enc2 vo qs) (hlen : qs.length = L.length)
    (hqs : ∀ (j : Nat) (q : Value × Value) (l : NmL × NmL), qs[j]? = some q → L[j]? = some l → Own w w1.heap.size 9 encS q.1 l.1 ∧ Own w w1.heap.size 9 encS q.2 l.2)
    {q1 q2 : Value} {l1 l2 : NmL} (h1 : Own w w1.heap.size 9 encS q1 l1) (h2 : Own w w1.heap.size 9 encS q2 l2) (hE : Ext w1 w') (hg : w.grownBy w' vo.ownBlock)
    (hown : OwnN w' w1.heap.size 49 2 enc2 v' (qs ++ [(q1, q2)])) : StI n w1 w' bf bb vF v' F (L ++ [(l1, l2)]) := by
  have own : ∀ q l, Own w w1.heap.size 9 encS q l → Own w' w1.heap.size 9 encS q l := fun q l ho => ho.appendedN hg hq (by decide)
  refine ⟨hE, Blk.appended h.cf hg hq (by decide), Blk.appended h.cb hg hq (by decide), ?_, ?_, h.lo⟩
  · obtain ⟨qo, k1, k2, k3⟩ := h.fnd
    refine ⟨qo, k1.appendedN hg hq (by decide), k2, fun j q f hj hf => ?_⟩
    obtain ⟨⟨g1, e1, a1⟩, ⟨g2, e2, a2⟩⟩ := k3 j q f hj hf
    exact ⟨⟨g1, e1, a1.appendedN hg hq (by decide)⟩, ⟨g2, e2, a2.appendedN hg hq (by decide)⟩⟩
  · refine ⟨_, hown, by simp [hlen], fun j q l hj hl => ?_⟩
    rcases getElem_snoc hj with ⟨e1, e2⟩ | ⟨e1, e2⟩
    · rcases getElem_snoc hl with ⟨e3, e4⟩ | ⟨e3, e4⟩
      · exact ⟨own _ _ (hqs j q l e2 e4).1, own _ _ (hqs j q l e2 e4).2⟩
      · omega
    · rcases getElem_snoc hl with ⟨e3, e4⟩ | ⟨e3, e4⟩
      · omega
      · subst e2 e4
        exact ⟨own _ _ h1, own _ _ h2⟩
end Go.Proofs.Ythgplaledmccgaa
