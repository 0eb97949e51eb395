/-
  Contract: closure.Reduce.
-/
import Derived.Test.YthgplaledmccgaaW29
import Derived.Test.YthgplaledmccgaaW13
import Derived.RegionTactic
import Derived.Deep.RegionHeld3
namespace Go.Proofs.Ythgplaledmccgaa
open Go.RowKit

theorem inf35b : (Try.prog.info? 35).map (fun i => (i.zero, i.size, i.bytes)) = some (some (.agg #[.slice none 0 0, .string ⟨#[]⟩]), 2, 40) := by kernel_rfl
theorem inf54 : (Try.prog.info? 54).map (fun i => (i.zero, i.size, i.bytes)) = some (some (.slice none 0 0), 1, 24) := by kernel_rfl

/-- an array of rows of ints of the call's own: the first ones read as L -/
structure ShS (w1 w : World) (gs m : Nat) (Y : List Value) (L : List (List Nat)) : Prop where
  ext : Ext w1 w
  arr : Arr w 54 id gs Y
  yl : Y.length = m
  y : ∀ (j : Nat) (l : List Nat), L[j]? = some l → ∃ q, Y[j]? = some q ∧ Own w w1.heap.size 3 encI q l
  lo : w1.heap.size ≤ gs
section
variable {w1 w w' : World} {gs m : Nat} {Y : List Value} {L : List (List Nat)}
theorem ShS.later (h : ShS w1 w gs m Y L) (he : Ext w w') : ShS w1 w' gs m Y L :=
  ⟨h.ext.trans he, h.arr.ext he, h.yl, fun j l hl => by obtain ⟨q, e1, e2⟩ := h.y j l hl; exact ⟨q, e1, e2.ext he⟩, h.lo⟩
theorem ShS.push (h : ShS w1 w gs m Y L) (k : Nat) (hk : L.length = k) (hm : k < m) {q : Value} {l : List Nat} (hq : Own w w1.heap.size 3 encI q l) : ShS w1 (w.setCell ⟨gs, k, none⟩ q) gs m (Y.set k q) (L ++ [l]) := by
  refine ⟨h.ext.setCell (p := ⟨gs, k, none⟩) h.lo _, h.arr.set_ k q, by rw [List.length_set]; exact h.yl, fun j l' hl => ?_, h.lo⟩
  by_cases hj : j < L.length
  · rw [List.getElem?_append_left hj] at hl
    obtain ⟨q', e1, e2⟩ := h.y j l' hl
    exact ⟨q', by rw [List.getElem?_set_ne (by omega)]; exact e1, e2.far h.arr (by decide) _⟩
  · have hjl := (List.getElem?_eq_some_iff.1 hl).1
    simp at hjl
    have : j = k := by omega
    subst this
    rw [List.getElem?_append_right (by omega), hk, Nat.sub_self] at hl
    simp at hl
    subst hl
    exact ⟨q, by rw [List.getElem?_set_self (by rw [h.yl]; exact hm)], hq.far h.arr (by decide) _⟩
theorem ShS.last {l0 : List Nat} (h : ShS w1 w gs m Y (L ++ [l0])) (k : Nat) (hk : L.length = k) (hm : k < m) {q : Value} {l : List Nat} (hq : Own w w1.heap.size 3 encI q l) : ShS w1 (w.setCell ⟨gs, k, none⟩ q) gs m (Y.set k q) (L ++ [l]) :=
  ShS.push ⟨h.ext, h.arr, h.yl, fun j l' hl => h.y j l' (by rw [List.getElem?_append_left (List.getElem?_eq_some_iff.1 hl).1]; exact hl), h.lo⟩ k hk hm hq
end

theorem shortStep_sub (hs : List Horn) (n th : Nat) (sh : List Nat) (p : Nat) : (shortStep hs n th sh p).Sublist sh := by
  unfold shortStep; split
  · exact List.filter_sublist
  · exact List.Sublist.refl _
theorem foldS_sub (hs : List Horn) (n th : Nat) (l sh : List Nat) : (l.foldl (shortStep hs n th) sh).Sublist sh := by
  induction l generalizing sh with
  | nil => exact List.Sublist.refl _
  | cons x t ih => exact (ih _).trans (shortStep_sub hs n th sh x)
theorem fold_take_succ {hs : List Horn} {n th : Nat} {l : List Nat} {t : Nat} (ht : t < l.length) (sh : List Nat) :
    (l.take (t + 1)).foldl (shortStep hs n th) sh = shortStep hs n th ((l.take t).foldl (shortStep hs n th) sh) l[t] := by
  rw [List.take_succ_eq_append_getElem ht, List.foldl_append]; rfl

theorem getD_at' {s : List Bool} {k : Nat} (h : k < s.length) : s.getD k false = s[k] := by rw [List.getD_eq_getElem?_getD, List.getElem?_eq_getElem h]; rfl
theorem ShS.down {w w1 w' : World} {gs m : Nat} {Y : List Value} {L : List (List Nat)} (h : ShS w1 w' gs m Y L) (he : Ext w w1) : ShS w w' gs m Y L :=
  ⟨he.trans h.ext, h.arr, h.yl, fun j l hl => by obtain ⟨q, e1, e2⟩ := h.y j l hl; exact ⟨q, e1, e2.up he.size⟩, Nat.le_trans he.size h.lo⟩
theorem OwnN.blk {α : Type} {w : World} {base : Nat} {t : TypeId} {k : Nat} {enc : α → List Value} {g n cap : Nat} {l : List α} (h : OwnN w base t k enc (.slice (some ⟨g, 0, none⟩) n cap) l) : ∃ cur, Blk w g t cur ∧ base ≤ g := by
  rcases h.2 with ⟨h2, _⟩ | ⟨g', cap', cur, hv, hb, hg, _⟩
  · cases h2
  · injection hv with e1
    injection e1 with e1
    injection e1 with e1
    subst e1
    exact ⟨cur, hg, hb⟩
theorem flat_set (qs : List (Value × Nat)) (k : Nat) (hk : k < qs.length) (q : Value) : (qs.flatMap encQ).set (k * 2) q = (qs.set k (q, qs[k].2)).flatMap encQ := by
  induction qs generalizing k with
  | nil => simp at hk
  | cons p t ih =>
    cases k with
    | zero => rfl
    | succ k =>
      have e : (k + 1) * 2 = k * 2 + 1 + 1 := by omega
      rw [e]
      simp only [List.flatMap_cons, List.set_cons_succ, List.getElem_cons_succ]
      show p.1 :: Value.int IntKind.i64 ↑p.2 :: (t.flatMap encQ).set (k * 2) q = _
      rw [ih k (by simpa using hk)]
      rfl
theorem OwnN.set0 {w : World} {base : Nat} {t : TypeId} {g n cap : Nat} {qs : List (Value × Nat)} (h : OwnN w base t 2 encQ (.slice (some ⟨g, 0, none⟩) n cap) qs) (hn : n = qs.length) {k : Nat} (hk : k < qs.length) (q : Value) :
    OwnN (w.setCell ⟨g, k * 2, none⟩ q) base t 2 encQ (.slice (some ⟨g, 0, none⟩) n cap) (qs.set k (q, qs[k].2)) := by
  subst hn
  have := (World.ownsRow.stored (xs := qs.flatMap encQ) h (k * 2) q).1
  show World.ownsRow _ _ _ _ _ _ _
  rw [List.length_set, ← flat_set qs k hk q]
  exact this
/-- the system, the short premises, the marks, while the rules are stored -/
structure S2 (w wr : World) (b gs gg bg m : Nat) (vr vu : Value) (Y : List Value) (L : List (List Nat)) (qs : List (Value × Nat)) (hk : List Horn) (G : List Bool) : Prop where
  bs : Blk wr b 82 #[vu, vr]
  own : OwnN wr w.heap.size 86 2 encQ vr qs
  ql : qs.length = m
  q2 : qs.map (·.2) = hk.map (·.2)
  q1 : ∀ (j : Nat) (p : Value × Nat) (h : Horn), qs[j]? = some p → hk[j]? = some h → Own wr w.heap.size 3 encI p.1 h.1
  sh : ShS w wr gs m Y L
  gv : Blk wr bg 74 #[.slice (some ⟨gg, 0, none⟩) m m]
  ga : Arr wr 4 Value.bool gg G
theorem S2.drew {w wr : World} {b gs gg bg m : Nat} {vr vu : Value} {Y : List Value} {L : List (List Nat)} {qs : List (Value × Nat)} {hk : List Horn} {G : List Bool} (h : S2 w wr b gs gg bg m vr vu Y L qs hk G) : S2 w wr.drew b gs gg bg m vr vu Y L qs hk G :=
  have he : Ext wr wr.drew := (Ext.refl wr).drew
  ⟨h.bs.ext he, h.own.ext he, h.ql, h.q2, fun j p x hj hx => (h.q1 j p x hj hx).ext he, h.sh.later he, h.gv.ext he, h.ga.ext he⟩
theorem S2.store {w wr : World} {b gs gg bg m gr cr : Nat} {vr vu : Value} (hvr : vr = .slice (some ⟨gr, 0, none⟩) m cr) {Y : List Value} {L : List (List Nat)} {qs : List (Value × Nat)} {hk : List Horn} {G : List Bool} (h : S2 w wr b gs gg bg m vr vu Y L qs hk G) {k : Nat} (hkm : k < m) {q : Value} {l : List Nat} (hq : Own wr w.heap.size 3 encI q l) (hl : k < hk.length) :
    S2 w (wr.setCell ⟨gr, k * 2, none⟩ q) b gs gg bg m vr vu Y L (qs.set k (q, (qs.getD k (q, 0)).2)) (hk.set k (l, hk[k].2)) G := by
  subst hvr
  obtain ⟨cur, hbk, hlo⟩ := h.own.blk
  have hkq : k < qs.length := by rw [h.ql]; exact hkm
  have e : qs.getD k (q, 0) = qs[k] := by rw [List.getD_eq_getElem?_getD, List.getElem?_eq_getElem hkq]; rfl
  rw [e]
  have far : ∀ {t : TypeId} {g : Nat} {cs : Array Value}, Blk wr g t cs → t ≠ 86 → Blk (wr.setCell ⟨gr, k * 2, none⟩ q) g t cs := fun hb hne => Blk.far hb (p := ⟨gr, k * 2, none⟩) (fun e => Blk.ne_ hb hbk hne e) _
  refine ⟨far h.bs (by decide), h.own.set0 h.ql.symm hkq q, by rw [List.length_set]; exact h.ql, ?_, ?_, ⟨h.sh.ext.setCell (p := ⟨gr, k * 2, none⟩) hlo _, far h.sh.arr (by decide), h.sh.yl, fun j l' hl' => ?_, h.sh.lo⟩, far h.gv (by decide), far h.ga (by decide)⟩
  · rw [List.map_set, List.map_set, h.q2]
    have h2 : qs[k].2 = hk[k].2 := by
      have := congrArg (·[k]?) h.q2
      simpa [hkq, hl] using this
    simp [h2]
  · intro j p x hj hx
    rw [List.getElem?_set] at hj hx
    by_cases hjk : k = j
    · subst hjk
      rw [if_pos rfl, if_pos hkq] at hj
      rw [if_pos rfl, if_pos hl] at hx
      cases hj; cases hx
      exact hq.far hbk (by decide) _
    · rw [if_neg hjk] at hj hx
      exact (h.q1 j p x hj hx).far hbk (by decide) _
  · obtain ⟨q', e1, e2⟩ := h.sh.y j l' hl'
    exact ⟨q', e1, e2.far hbk (by decide) _⟩
theorem S2.later {w wr wr' : World} {b gs gg bg m : Nat} {vr vu : Value} {Y : List Value} {L : List (List Nat)} {qs : List (Value × Nat)} {hk : List Horn} {G : List Bool} (h : S2 w wr b gs gg bg m vr vu Y L qs hk G) (he : Ext wr wr') : S2 w wr' b gs gg bg m vr vu Y L qs hk G :=
  ⟨h.bs.ext he, h.own.ext he, h.ql, h.q2, fun j p x hj hx => (h.q1 j p x hj hx).ext he, h.sh.later he, h.gv.ext he, h.ga.ext he⟩
theorem S2.mark {w wr : World} {b gs gg bg m : Nat} {vr vu : Value} {Y : List Value} {L : List (List Nat)} {qs : List (Value × Nat)} {hk : List Horn} {G : List Bool} (h : S2 w wr b gs gg bg m vr vu Y L qs hk G) (hlo : w.heap.size ≤ gg) (k : Nat) (z : Bool) :
    S2 w (wr.setCell ⟨gg, k, none⟩ (.bool z)) b gs gg bg m vr vu Y L qs hk (G.set k z) := by
  have hga : Blk wr gg 4 (G.map Value.bool).toArray := h.ga
  have far : ∀ {t : TypeId} {g : Nat} {cs : Array Value}, Blk wr g t cs → t ≠ 4 → Blk (wr.setCell ⟨gg, k, none⟩ (.bool z)) g t cs := fun hb hne => Blk.far hb (p := ⟨gg, k, none⟩) (fun e => Blk.ne_ hb hga hne e) _
  refine ⟨far h.bs (by decide), h.own.far hga (by decide) _, h.ql, h.q2, fun j p x hj hx => (h.q1 j p x hj hx).far hga (by decide) _, ⟨h.sh.ext.setCell (p := ⟨gg, k, none⟩) hlo _, far h.sh.arr (by decide), h.sh.yl, fun j l' hl' => ?_, h.sh.lo⟩, far h.gv (by decide), h.ga.set_ k z⟩
  obtain ⟨q', e1, e2⟩ := h.sh.y j l' hl'
  exact ⟨q', e1, e2.far hga (by decide) _⟩
theorem S2.sysR {w wr : World} {b gs gg bg m : Nat} {vr vu : Value} {Y : List Value} {L : List (List Nat)} {qs : List (Value × Nat)} {hk : List Horn} {G : List Bool} (h : S2 w wr b gs gg bg m vr vu Y L qs hk G) {u : List Nm} (ru : RdS w vu u) (asc : ascB u = true) (ok : okH u.length hk) (szu : u.length ≤ 1048576) (szh : hk.length ≤ 1048576) : SysR wr b vu vr u hk :=
  ⟨h.bs.cell 0, h.bs.cell 1, ru.ext h.sh.ext, OwnRules.rd ⟨qs, h.own, h.q2, h.q1⟩, asc, ok, szu, szh⟩
theorem okH_short {n : Nat} {hs : List Horn} (h : okH n hs) (k : Nat) : okH n (hs2F hs k) := by
  intro x hx
  unfold hs2F at hx
  obtain ⟨y, hy, rfl⟩ := List.mem_map.1 hx
  exact ⟨(h y hy).1, fun p hp => (h y hy).2 p ((foldS_sub hs k y.2 y.1 y.1).subset hp)⟩
set_option maxRecDepth 100000 in
set_option maxHeartbeats 800000 in
theorem red2_any (i k bk bg gg m : Nat) (G : List Bool) (w : World) (hk : w.cell? ⟨bk, 0, none⟩ = some (.int .i64 (k : Int))) (hg : w.cell? ⟨bg, 0, none⟩ = some (.slice (some ⟨gg, 0, none⟩) m m)) (hG : Arr w 4 Value.bool gg G) (hl : G.length = m) (hi : i < m) :
    Calls Try.prog 69 #[.int .i64 (i : Int), .pointer (some ⟨bk, 0, none⟩), .pointer (some ⟨bg, 0, none⟩)] w fun e w' => e = .returned (.bool (decide (i ≠ k) && !(G.getD i false))) ∧ w = w' := by
  have hil : i < G.length := by omega
  have hc := hG.cell (List.getElem?_eq_getElem hil)
  have HG := Lib.hid (getD_at' hil)
  generalize G[i] = z at *
  by_cases hik : i = k
  · have hb : ((i : Int) != (k : Int)) = false := by simp; omega
    have HK := Lib.hid hik; clear hik
    go_enter Try.func69, Try.ntmps69
    go_wp2_with (fail)
    go_ret
    exact ⟨ret_bool (by simp [HK.out]), rfl⟩
  · have hb : ((i : Int) != (k : Int)) = true := by simp; omega
    have HK := Lib.hid hik; clear hik hl
    cases z with
    | _ =>
    go_enter Try.func69, Try.ntmps69
    go_wp2_with (fail)
    go_ret
    exact ⟨ret_bool (by rw [HG.out, decide_eq_true HK.out]; rfl), rfl⟩
theorem red2_use (k bk bg gg m : Nat) (G : List Bool) (w : World) (hk : w.cell? ⟨bk, 0, none⟩ = some (.int .i64 (k : Int))) (hg : w.cell? ⟨bg, 0, none⟩ = some (.slice (some ⟨gg, 0, none⟩) m m)) (hG : Arr w 4 Value.bool gg G) (hl : G.length = m) :
    UseAt Try.prog (.func (.func 69) #[] #[.pointer (some ⟨bk, 0, none⟩), .pointer (some ⟨bg, 0, none⟩)]) m (fun i => decide (i ≠ k) && !(G.getD i false)) w :=
  ⟨_, _, rfl, fun _ _ => by kernel_rfl, fun W i hE hi => red2_any i k bk bg gg m G W (hE.cell hk) (hE.cell hg) (hG.ext hE) hl hi⟩
theorem mid_set {hs hs2 : List Horn} {k : Nat} (hl : hs2.length = hs.length) (hk : k < hs.length) {x : Horn} (hx : hs2[k]? = some x) : (hs2.take k ++ hs.drop k).set k x = hs2.take (k + 1) ++ hs.drop (k + 1) := by
  have h1 : (hs2.take k).length = k := by simp; omega
  rw [List.set_append_right _ _ (by omega), h1, Nat.sub_self, List.drop_eq_getElem_cons hk, List.set_cons_zero]
  rw [List.take_succ_eq_append_getElem (by omega)]
  have : hs2[k] = x := by rw [List.getElem?_eq_getElem (by omega)] at hx; exact Option.some.inj hx
  rw [this]; simp

theorem markCells {W : World} {gg bg bk bx : Nat} {G : List Bool} {v1 v2 v3 v4 : Value} (hg : Arr W 4 Value.bool gg G) (h1 : Blk W bg 74 #[v1]) (h2 : Blk W bk 3 #[v2]) (h3 : Blk W bx 86 #[v3, v4]) (k : Nat) (z : Bool) :
    (W.setCell ⟨gg, k, none⟩ (.bool z)).cell? ⟨bg, 0, none⟩ = some v1 ∧ (W.setCell ⟨gg, k, none⟩ (.bool z)).cell? ⟨bk, 0, none⟩ = some v2 ∧ (W.setCell ⟨gg, k, none⟩ (.bool z)).cell? ⟨bx, 0, none⟩ = some v3 ∧ (W.setCell ⟨gg, k, none⟩ (.bool z)).cell? ⟨bx, 1, none⟩ = some v4 := by
  have hga : Blk W gg 4 (G.map Value.bool).toArray := hg
  have f1 := Blk.far h1 (p := ⟨gg, k, none⟩) (fun e => Blk.ne_ h1 hga (by decide) e) (.bool z)
  have f2 := Blk.far h2 (p := ⟨gg, k, none⟩) (fun e => Blk.ne_ h2 hga (by decide) e) (.bool z)
  have f3 := Blk.far h3 (p := ⟨gg, k, none⟩) (fun e => Blk.ne_ h3 hga (by decide) e) (.bool z)
  exact ⟨f1.cell 0, f2.cell 0, f3.cell 0, f3.cell 1⟩
theorem OwnN.kept1 {α β : Type} {w w' : World} {base0 : Nat} {t : TypeId} {k0 : Nat} {enc : α → List Value} {v0 : Value} {l : List α} {base : Nat} {e : TypeId} {k : Nat} {enc' : β → List Value} {v : Value} {xs : List β} (h : OwnN w base0 t k0 enc v0 l) (hg : w.grownBy w' v.ownBlock)
    (hown : OwnN w base e k enc' v xs) (hne : e ≠ t) : OwnN w' base0 t k0 enc v0 l := by
  refine World.ownsRow.kept h hg ?_
  rcases h.2 with ⟨rfl, _⟩ | ⟨g, cap, cur, rfl, _, hh, _⟩
  · exact .inl rfl
  · exact .inr fun he => own_blk_ne hown (g := g) (t := t) (cs := cur) hh hne he.symm
theorem OwnN.up1 {α : Type} {w : World} {base base' : Nat} {t : TypeId} {k : Nat} {enc : α → List Value} {v : Value} {l : List α} (h : OwnN w base t k enc v l) (hb : base' ≤ base) : OwnN w base' t k enc v l := by
  obtain ⟨h1, h2⟩ := h
  refine ⟨h1, ?_⟩
  rcases h2 with h2 | ⟨g, cap, cur, hv, hg, r⟩
  · exact .inl h2
  · exact .inr ⟨g, cap, cur, hv, Nat.le_trans hb hg, r⟩
theorem S2.grownR {w wr w' : World} {b gs gg bg m : Nat} {vr vu : Value} {Y : List Value} {L : List (List Nat)} {qs : List (Value × Nat)} {hk : List Horn} {G : List Bool} (h : S2 w wr b gs gg bg m vr vu Y L qs hk G) {β : Type} {enc : β → List Value} {v : Value} {xs : List β} {base : Nat}
    (hE : Ext w w') (hg : wr.grownBy w' v.ownBlock) (hown : OwnN wr base 35 2 enc v xs) : S2 w w' b gs gg bg m vr vu Y L qs hk G :=
  ⟨Blk.appended h.bs hg hown (by decide), h.own.kept1 hg hown (by decide), h.ql, h.q2, fun j p x hj hx => (h.q1 j p x hj hx).appendedN hg hown (by decide),
    ⟨hE, Blk.appended h.sh.arr hg hown (by decide), h.sh.yl, fun j l hl => by obtain ⟨q, e1, e2⟩ := h.sh.y j l hl; exact ⟨q, e1, e2.appendedN hg hown (by decide)⟩, h.sh.lo⟩, Blk.appended h.gv hg hown (by decide), h.ga.appendedN hg hown (by decide)⟩
theorem snoc_get {α : Type} {l : List α} {x y : α} {j : Nat} (h : (l ++ [x])[j]? = some y) : (j < l.length ∧ l[j]? = some y) ∨ (j = l.length ∧ y = x) := by
  by_cases hj : j < l.length
  · rw [List.getElem?_append_left hj] at h; exact .inl ⟨hj, h⟩
  · have hl := (List.getElem?_eq_some_iff.1 h).1
    simp at hl
    have : j = l.length := by omega
    subst this
    rw [List.getElem?_append_right (by omega)] at h
    simp at h
    exact .inr ⟨rfl, h.symm⟩
abbrev encQS' (p : Value × Nm) : List Value := [p.1, encS p.2]
theorem rdR_of {w : World} {base : Nat} {v : Value} {rs : List RuleN} {qs : List (Value × Nm)} (h : OwnN w base 35 2 encQS' v qs) (hn : qs.map (·.2) = rs.map (·.2))
    (hq : ∀ (j : Nat) (p : Value × Nm) (r : RuleN), qs[j]? = some p → rs[j]? = some r → RdS w p.1 r.1) : RdR w v rs := by
  obtain ⟨A, m, c, hv, hm, hmc, hcm, hcell⟩ := h.rd (fun _ => rfl)
  have hlen : qs.length = rs.length := by have := congrArg List.length hn; simpa using this
  refine ⟨A, m, c, hv, by omega, hmc, hcm, fun h0 => ?_⟩
  obtain ⟨b, hA, hb, hc⟩ := hcell h0
  refine ⟨b, 0, hA, hb, fun j r hr => ?_⟩
  have hj : j < qs.length := by rw [hlen]; exact (List.getElem?_eq_some_iff.1 hr).1
  have hqj := List.getElem?_eq_getElem hj
  have h2 : (qs[j]).2 = r.2 := by
    have := congrArg (·[j]?) hn
    simp only [List.getElem?_map, hqj, hr, Option.map_some, Option.some.injEq] at this
    exact this
  refine ⟨qs[j].1, by simpa using hc j _ hqj 0 _ rfl, ?_, hq j _ r hqj hr⟩
  have := hc j _ hqj 1 _ rfl
  rw [h2] at this
  simpa using this
def ReduceOk (u : List Nm) (rs : List RuleN) (w : World) (e : Ending) (w' : World) : Prop :=
  ∃ v, e = .returned (.tuple #[v, .int .i64 0]) ∧ RdR w' v (reduceB u rs) ∧ Ext w w'

set_option maxRecDepth 100000 in
set_option maxHeartbeats 8000000 in
theorem reduce_ok (vu vs : Value) (u : List Nm) (rs : List RuleN) (w : World) (hu : InU w vu u) (hr : InR w vs rs) (h0 : checkE u rs = 0) :
    Calls Try.prog 39 #[vu, vs] w (ReduceOk u rs w) := by
  obtain ⟨i0, hi0, hz0, hz1, hz2⟩ := info_parts inf4
  obtain ⟨i1, hi1, hy0, hy1, hy2⟩ := info_parts inf54
  have HPR : Hid (∀ h ∈ rs.map (toHorn u), h.1.length ≤ 1048576) := Lib.hid fun h hh => by
    obtain ⟨r, hr', rfl⟩ := List.mem_map.1 hh
    have := hr.pr r hr'
    simpa [toHorn] using this
  have hrz := hr.sz
  have HU := Lib.hid hu; clear hu
  have HR := Lib.hid hr; clear hr
  have H0 := Lib.hid h0; clear h0
  unfold ReduceOk reduceB
  have hml : (rs.map (toHorn u)).length = rs.length := by simp
  rw [← hml] at hrz ⊢
  clear hml
  go_enter Try.func39, Try.ntmps39
  go_wp2_with (fail)
  refine (parse_ok _ _ u rs _ HU.out HR.out H0.out).mono ?_
  rintro e w1 ⟨b, vu', vr, rfl, hS⟩
  have hrd := hS.read
  have hcr := hrd.cr
  have hbl := World.block_lt_of_cell? _ _ hcr
  simp only at hbl
  have hrh := hrd.rh
  have hok := hrd.ok
  generalize hhs : rs.map (toHorn u) = hs at *
  have HHS := Lib.hid hhs; clear hhs
  obtain ⟨Ar, m, cr, rfl, hm, hmc, hcm, hcellr⟩ := hrh
  unfold maxLen at hcm
  have hm1 : m ≤ 1048576 := by omega
  have HS := Lib.hid hS; clear hS
  have HRD := Lib.hid hrd; clear hrd
  have HOK := Lib.hid hok; clear hok
  have HM := Lib.hid hm; clear hm hrz
  have HCR := Lib.hid hcellr; clear hcellr
  go_wp2_with (at_make; refine wpList_make_arr rfl (.tmp 37) (.tmp 37) 106 54 rfl i1 _ 24 Try.underlying106 hi1 hy0 hy1 hy2 rfl m rfl rfl (by omega) (by unfold maxLen; omega) ?_; intro w2 gs hblk hgs hE2; have hS2 : ShS w1 w2 gs m (List.replicate m (.slice none 0 0)) [] := ⟨hE2, by unfold Arr; simpa using hblk, by simp, by intro j l hl; simp at hl, hgs⟩; have HS2 := Lib.hid hS2; have hcr2 := hE2.cell hcr; clear hS2 hblk hE2; have hbl2 : b < w2.heap.size := World.block_lt_of_cell? _ _ hcr2)
  obtain ⟨n, HN⟩ : ∃ n, Hid (u.length = n) := ⟨_, rfl⟩
  go_loopw [44] (fun vi wr => ∃ (k : Nat) (Y : List Value), k ≤ m ∧ vi = .int .i64 k ∧ ShS w1 wr gs m Y ((hs.take k).map (shortF hs n))) (fun vi _ => m - (intOf vi).toNat)
  case atStart => exact ⟨0, _, Nat.zero_le _, rfl, by simpa using HS2.out⟩
  case round =>
    obtain ⟨wo, rfl⟩ : ∃ wo : World, wo = wr := ⟨_, rfl⟩
    obtain ⟨k, Y, hk, rfl, hSh⟩ := hrel
    have HSH := Lib.hid hSh; clear hSh
    by_cases hlt : k < m
    · obtain ⟨br, offr, rfl, hbr, hcc⟩ := HCR.out (by omega)
      have hkl : k < hs.length := by rw [HM.out]; exact hlt
      obtain ⟨q, c1, c2, g1⟩ := hcc k _ (List.getElem?_eq_getElem hkl)
      have c1 := HSH.out.ext.cell c1
      have c2 := HSH.out.ext.cell c2
      have hok := HOK.out _ (List.getElem_mem hkl)
      have hpr := HPR.out _ (List.getElem_mem hkl)
      have HTK := Lib.hid (List.take_succ_eq_append_getElem hkl)
      clear hcc
      generalize hs[k] = h at *
      obtain ⟨prem, th⟩ := h
      simp only at c2 g1 hok hpr HTK
      have g1' := g1
      obtain ⟨Aq, nq, cq, rfl, hnq, hnqc, hcq, hcellq⟩ := g1'
      unfold maxLen at hcq
      have HG1 := Lib.hid g1; clear g1
      have HNQ := Lib.hid hnq; clear hnq
      have HCQ := Lib.hid hcellq; clear hcellq
      have HOKP := Lib.hid hok.2
      have HOKT := Lib.hid hok.1
      clear hok
      have HPL := Lib.hid hpr; clear hpr
      have hkY : k < Y.length := by rw [HSH.out.yl]; exact hlt
      have HLK : Hid (((hs.take k).map (shortF hs n)).length = k) := Lib.hid (by rw [List.length_map, List.length_take]; omega)
      have hsf : shortF hs n (prem, th) = prem.foldl (shortStep hs n th) prem := rfl
      have HSF := Lib.hid hsf; clear hsf
      go_wp2_with (go_at_call 66; refine (clone_any _ prem _ (HG1.out.ext (HSH.out.ext.trans ((Ext.refl _).alloc _))) HPL.out).mono ?_; rintro e w5 ⟨v5, rfl, hO5, hE5⟩; have hS5 := HSH.out.later (((Ext.refl wo).alloc _).trans hE5); have hold5 : w5.cell? ⟨gs, k, none⟩ = some (id Y[k]) := hS5.arr.cell (List.getElem?_eq_getElem hkY); simp only [id] at hold5; have hfz5 := hS5.arr.frozen k; have hB5 : Blk w5 wo.heap.size 86 #[.slice Aq nq cq, .int .i64 (th : Int)] := (Blk.new _ _ _).ext hE5; have hO5r := hO5.rd; obtain ⟨A5, n5, c5, rfl, -⟩ := hO5r; have hO5' := hO5.up (show w1.heap.size ≤ _ from (HSH.out.ext.alloc _).size); have HSP := Lib.hid (hS5.push k HLK.out hlt hO5'); have HB5 := Lib.hid (Blk.far hB5 (p := ⟨gs, k, none⟩) (fun e => Blk.ne_ hB5 hS5.arr (by decide) e) (.slice A5 n5 c5)); have hb0 : wo.heap.size ≠ gs := (fun e => Blk.ne_ hB5 hS5.arr (by decide) e); have hcb0 : w5.cell? ⟨wo.heap.size, 0, none⟩ = some (.slice Aq nq cq) := hB5.cell 0; have hbw5 : wo.heap.size < w5.heap.size := hB5.lt; clear hO5 hO5' hS5 hE5 hB5)
      obtain ⟨w6, hw6⟩ : ∃ w6, w6 = w5.setCell ⟨gs, k, none⟩ (.slice A5 n5 c5) := ⟨_, rfl⟩
      rw [← hw6] at HSP HB5 ⊢
      clear hw6 hold5 hfz5 hcb0 hbw5 c1 c2
      obtain ⟨bx, HBX⟩ : ∃ bx, Hid (wo.heap.size = bx) := ⟨_, rfl⟩
      rw [HBX.out] at HB5 hb0 ⊢
      go_loopw [58] (fun vt wr => ∃ (t : Nat) (Y : List Value), t ≤ nq ∧ vt = .int .i64 t ∧ ShS w1 wr gs m Y ((hs.take k).map (shortF hs n) ++ [(prem.take t).foldl (shortStep hs n th) prem]) ∧ Blk wr bx 86 #[.slice Aq nq cq, .int .i64 (th : Int)]) (fun vt _ => nq - (intOf vt).toNat)
      case atStart => exact ⟨0, _, Nat.zero_le _, rfl, HSP.out, HB5.out⟩
      case round =>
        clear HSP HB5
        obtain ⟨wo2, rfl⟩ : ∃ wo2 : World, wo2 = wr := ⟨_, rfl⟩
        obtain ⟨t, Y2, ht, rfl, hS6, hB6⟩ := hrel
        have HS6 := Lib.hid hS6; clear hS6
        have HB6 := Lib.hid hB6; clear hB6
        by_cases htn : t < nq
        · obtain ⟨bq, offq, rfl, hbq, hcc⟩ := HCQ.out (by omega)
          have htl : t < prem.length := by rw [HNQ.out]; exact htn
          have d1 := HS6.out.ext.cell (hcc t _ (List.getElem?_eq_getElem htl))
          have HFS := Lib.hid (fold_take_succ (hs := hs) (n := n) (th := th) htl prem)
          have hpu : prem[t] < u.length := HOKP.out _ (List.getElem_mem htl)
          clear hcc
          generalize prem[t] = p at *
          have hsub := foldS_sub hs n th (prem.take t) prem
          obtain ⟨qk, ek, ok⟩ := HS6.out.y k ((prem.take t).foldl (shortStep hs n th) prem) (by rw [List.getElem?_append_right (by rw [HLK.out]; exact Nat.le_refl _), HLK.out, Nat.sub_self]; rfl)
          generalize (prem.take t).foldl (shortStep hs n th) prem = sh at *
          have HSUB := Lib.hid hsub; clear hsub
          have HSL : Hid (sh.length ≤ 1048576) := Lib.hid (Nat.le_trans HSUB.out.length_le HPL.out)
          have dk := HS6.out.arr.cell ek
          simp only [id] at dk
          have hdb := World.block_lt_of_cell? _ _ dk
          simp only at hdb
          have HOKQ := Lib.hid ok
          obtain ⟨Ak, nk, ck, rfl, -⟩ := ok.rd
          clear ok
          have HEK := Lib.hid ek; clear ek
          have hx0 := HB6.out.cell 1
          simp only [List.getElem?_toArray, List.getElem?_cons_zero, List.getElem?_cons_succ] at hx0
          have hxb : bx < wo2.heap.size := HB6.out.lt
          have hkY2 : k < Y2.length := by rw [HS6.out.yl]; exact hlt
          have HPOK : Hid (∀ x ∈ offP p sh, x < u.length) := Lib.hid fun x hx => HOKP.out x (HSUB.out.subset (List.mem_filter.1 hx).1)
          have HENT : Hid ((chainB hs (fun _ => true) (setOf u.length (offP p sh))).1.getD th false = ent hs (fun _ => true) n (offP p sh, th)) := Lib.hid (by unfold ent; rw [HN.out])
          go_wp2_with (first | (go_at_call 66; refine (clone_any _ sh _ (HOKQ.out.rd.ext ((Ext.refl _).alloc _)) HSL.out).mono ?_; rintro e w7 ⟨v7, rfl, hO7, hE7⟩; have HO7 := Lib.hid hO7; clear hO7; have HE7 := Lib.hid hE7; clear hE7) | (go_at_call 67; refine (delete_any _ sh p _ _ _ HE7.out HO7.out (cell_new1 _ _ _) HSL.out).mono ?_; rintro e w8 ⟨v8, rfl, hO8, hE8⟩; have hE8b := ((Ext.refl wo2).alloc _).trans hE8; have HO8 := Lib.hid (hO8.up (show w1.heap.size ≤ _ from (HS6.out.ext.alloc _).size)); have HE8 := Lib.hid hE8b; have hx1 := hE8b.cell hx0; clear hO8 hE8 hE8b hx0))
          refine (entailed_any b vu' _ v8 _ u hs (offP p sh) th (fun _ => true) _ (HRD.out.ext (HS6.out.ext.trans HE8.out)) HO8.out.rd HPOK.out HOKT.out (every_use _ _)).mono ?_
          rintro e w9 ⟨rfl, hE9⟩
          rw [HENT.out]
          clear hx1 dk d1 hdb hxb
          have HB9 := Lib.hid ((HB6.out.ext HE8.out).ext hE9)
          have hS9 := (HS6.out.later HE8.out).later hE9
          have HO9 := Lib.hid (HO8.out.ext hE9)
          have hold9 : w9.cell? ⟨gs, k, none⟩ = some (id Y2[k]) := hS9.arr.cell (List.getElem?_eq_getElem hkY2)
          simp only [id] at hold9
          have hfz9 := hS9.arr.frozen k
          have HS9 := Lib.hid hS9; clear hS9 hE9
          cases hent : ent hs (fun _ => true) n (offP p sh, th) with
          | true =>
            have hst : shortStep hs n th sh p = offP p sh := by unfold shortStep; rw [if_pos hent]
            rw [hst] at HFS
            have HSN := Lib.hid (HS9.out.last k HLK.out hlt HO9.out)
            have HBN := Lib.hid (Blk.far HB9.out (p := ⟨gs, k, none⟩) hb0 v8)
            obtain ⟨A8, n8, c8, rfl, -⟩ := HO9.out.rd
            clear hent hst
            go_wp2_with (fail)
            go_roundw
            case rel => exact ⟨t + 1, _, by omega, by go_num, by rw [HFS.out]; exact HSN.out, HBN.out⟩
            case measure => simp [intOf]; omega
          | false =>
            have hst : shortStep hs n th sh p = sh := by unfold shortStep; rw [if_neg (by rw [hent]; decide)]
            rw [hst] at HFS
            clear hent hst
            go_wp2_with (fail)
            go_roundw
            case rel => exact ⟨t + 1, _, by omega, by go_num, by rw [HFS.out]; exact HS9.out, HB9.out⟩
            case measure => simp [intOf]; omega
        · obtain rfl : nq = t := by omega
          rw [List.take_of_length_le (l := prem) (i := nq) (by have := HNQ.out; omega), ← HSF.out] at HS6
          go_wp2_with (fail)
          go_roundw
          case rel => exact ⟨k + 1, _, by omega, by go_num, by rw [HTK.out, List.map_append]; exact HS6.out⟩
          case measure => simp [intOf]; omega
    · obtain rfl : m = k := by omega
      rw [List.take_of_length_le (by have := HM.out; omega)] at HSH
      have hcr3 := HSH.out.ext.cell hcr
      have hblo : b < wo.heap.size := World.block_lt_of_cell? _ _ hcr3
      go_wp2_with (at_make; refine wpList_make_arr rfl (.tmp 84) (.tmp 84) 74 4 rfl i0 _ 1 Try.underlying74 hi0 hz0 hz1 hz2 rfl m rfl rfl (by omega) (by unfold maxLen; omega) ?_; intro w3 gg hblkg hgg hE3; have hA3 : Arr w3 4 Value.bool gg (List.replicate m false) := (by unfold Arr; simpa using hblkg); have HA3 := Lib.hid hA3; have HE3 := Lib.hid hE3; have hcr4 := hE3.cell hcr3; have hbl4 : b < w3.heap.size := World.block_lt_of_cell? _ _ hcr4; clear hA3 hE3 hblkg)
      obtain ⟨qs, ho1, ho2, ho3⟩ := HS.out.own
      have hql : qs.length = m := by have := congrArg List.length ho2; simp at this; rw [this]; exact HM.out
      have hEw := HS.out.ext
      obtain ⟨bg, HBG⟩ : ∃ bg, Hid (w3.heap.size = bg) := ⟨_, rfl⟩
      have hS3 : S2 w (w3.alloc (.cells #[.slice (some ⟨gg, 0, none⟩) m m] 74)) b gs gg bg m (.slice Ar m cr) vu' Y (hs.map (shortF hs n)) qs hs (List.replicate m false) := by
        have hE4 : Ext wo (w3.alloc (.cells #[.slice (some ⟨gg, 0, none⟩) m m] 74)) := HE3.out.alloc _
        have hE5 := HSH.out.ext.trans hE4
        exact ⟨HS.out.blk.ext hE5, ho1.ext hE5, hql, ho2, fun j p h hj hh => (ho3 j p h hj hh).ext hE5, (HSH.out.later hE4).down hEw, Blk.new' _ _ _ _ HBG.out.symm, HA3.out.ext ((Ext.refl _).alloc _)⟩
      rw [HBG.out]
      obtain ⟨w4, hw4⟩ : ∃ w4, w4 = w3.alloc (.cells #[.slice (some ⟨gg, 0, none⟩) m m] 74) := ⟨_, rfl⟩
      rw [← hw4] at hS3 ⊢
      have HS4 := Lib.hid hS3
      have hlo3 : w.heap.size ≤ gg := Nat.le_trans (hEw.trans HSH.out.ext).size hgg
      have hcrb : b < w4.heap.size := HS4.out.bs.lt
      clear hS3 hw4 hcr hcr3 hcr4 hbl hbl2 hbl4 hblo hcr2 ho1 ho2 ho3 hql HA3 HE3 HSH hgg hgs HS2 HCR HRD
      obtain ⟨hs2, HH2⟩ : ∃ hs2, Hid (hs2F hs n = hs2) := ⟨_, rfl⟩
      have hl2 : hs2.length = hs.length := by rw [← HH2.out]; simp [hs2F]
      have HL2 := Lib.hid hl2; clear hl2
      go_loopw [91] (fun vi wr => ∃ (k : Nat) (qs : List (Value × Nat)), k ≤ m ∧ vi = .int .i64 k ∧ S2 w wr b gs gg bg m (.slice Ar m cr) vu' Y (hs.map (shortF hs n)) qs (hs2.take k ++ hs.drop k) (List.replicate m false)) (fun vi _ => m - (intOf vi).toNat)
      case atStart => exact ⟨0, _, Nat.zero_le _, rfl, by simpa using HS4.out⟩
      case round =>
        clear HS4
        obtain ⟨wo2, rfl⟩ : ∃ wo2 : World, wo2 = wr := ⟨_, rfl⟩
        obtain ⟨k, qs2, hk, rfl, hS5⟩ := hrel
        have HS5 := Lib.hid hS5; clear hS5
        by_cases hlt : k < m
        · have hkl : k < hs.length := by rw [HM.out]; exact hlt
          obtain ⟨A9, n9, c9, he9, hq9, hnc9, hcm9, hc9⟩ := HS5.out.own.rd (fun _ => rfl)
          injection he9 with e1 e2 e3
          subst e1 e2 e3
          obtain ⟨gr, rfl, hgr, hcell9⟩ := hc9 (by omega)
          have hkq : k < qs2.length := by rw [hq9]; exact hlt
          have d1 := HS5.out.bs.cell 1
          simp only [List.getElem?_toArray, List.getElem?_cons_zero, List.getElem?_cons_succ] at d1
          have hd0 := hcell9 k _ (List.getElem?_eq_getElem hkq) 0 _ rfl
          simp only [Nat.add_zero] at hd0
          obtain ⟨cur, hbk, hlo9⟩ := HS5.out.own.blk
          have hfz := hbk.frozen (k * 2)
          obtain ⟨qk, ek, ok⟩ := HS5.out.sh.y k _ (List.getElem?_eq_getElem (l := hs.map (shortF hs n)) (by rw [List.length_map]; exact hkl))
          have dk := HS5.out.sh.arr.cell ek
          simp only [id] at dk
          have hlm : k < (hs2.take k ++ hs.drop k).length := by rw [List.length_append, List.length_take, List.length_drop, HL2.out]; omega
          have hST := HS5.out.store rfl hlt ok hlm
          have hx : hs2[k]? = some ((hs.map (shortF hs n))[k]'(by rw [List.length_map]; exact hkl), (hs2.take k ++ hs.drop k)[k].2) := by
            have e1 : (hs2.take k ++ hs.drop k)[k] = hs[k] := by
              rw [List.getElem_append_right (by rw [List.length_take]; omega)]
              simp [HL2.out, Nat.min_eq_left (Nat.le_of_lt hkl)]
            rw [e1, ← HH2.out]
            unfold hs2F
            rw [List.getElem?_map, List.getElem?_eq_getElem hkl]
            simp
          rw [mid_set HL2.out hkl hx] at hST
          have HST := Lib.hid hST.drew
          obtain ⟨Ak, nk, ck, rfl, -⟩ := ok.rd
          clear hST hx ok ek hlm hbk hc9 hcell9 hq9
          go_wp2_with (fail)
          go_region
          all_goals
            go_wp2_with (fail)
            go_roundw
            case rel => exact ⟨k + 1, _, by omega, by go_num, HST.out⟩
            case measure => simp [intOf]; omega
        · obtain rfl : m = k := by omega
          rw [List.take_of_length_le (by have := HL2.out; have := HM.out; omega), List.drop_of_length_le (by have := HM.out; omega), List.append_nil] at HS5
          have d1 := HS5.out.bs.cell 1
          simp only [List.getElem?_toArray, List.getElem?_cons_zero, List.getElem?_cons_succ] at d1
          have hbw : b < wo2.heap.size := HS5.out.bs.lt
          have hM2 : hs2.length = m := by rw [HL2.out]; exact HM.out
          have hg0 : List.replicate m false = goneF hs2 n 0 := by unfold goneF; rw [hM2]
          rw [hg0] at HS5
          have HM2 := Lib.hid hM2
          have HOK2 : Hid (okH u.length hs2) := Lib.hid (by rw [← HH2.out]; exact okH_short HOK.out n)
          have hsz2 : hs2.length ≤ 1048576 := by omega
          have HSZ2 := Lib.hid hsz2
          have HPR2 : Hid (∀ h ∈ hs2, h.1.length ≤ 1048576) := Lib.hid fun h hh => by
            rw [← HH2.out] at hh
            unfold hs2F at hh
            obtain ⟨y, hy, rfl⟩ := List.mem_map.1 hh
            exact Nat.le_trans (foldS_sub hs n y.2 y.1 y.1).length_le (HPR.out y hy)
          clear hsz2 hg0 hM2
          have HSY : Hid (∀ W k, S2 w W b gs gg bg m (.slice Ar m cr) vu' Y (hs.map (shortF hs n)) qs2 hs2 (goneF hs2 n k) → SysR W b vu' (.slice Ar m cr) u hs2) := Lib.hid fun W k h => h.sysR HS.out.ru HS.out.asc HOK2.out HS.out.szu HSZ2.out
          have HS6 := Lib.hid (HS5.out.later ((Ext.refl _).alloc (.cells #[] 35)))
          go_wp2_with (fail)
          obtain ⟨w7, hw7⟩ : ∃ w7, w7 = wo2.alloc (.cells #[] 35) := ⟨_, rfl⟩
          have hne : OwnN w7 wo2.heap.size 35 2 encQS' (.slice (some ⟨wo2.heap.size, 0, none⟩) 0 0) [] := by
            have := World.ownsRow_made (e := 35) (base := wo2.heap.size) (size := 2) wo2 #[] 0 (Nat.le_refl _) (Nat.zero_le _) rfl
            rw [hw7]; simpa [OwnN] using this
          rw [← hw7] at HS6 ⊢
          have hlo7 := HS5.out.sh.ext.size
          clear hw7 HS5 d1 hbw
          have HNE := Lib.hid hne; clear hne
          have HXX : Hid (w.heap.size ≤ wo2.heap.size) := Lib.hid hlo7
          clear hlo7
          generalize wo2.heap.size = bo at *
          go_loopw [112] (fun vi wr => ∃ k : Nat, k ≤ m ∧ vi = .int .i64 k ∧ S2 w wr b gs gg bg m (.slice Ar m cr) vu' Y (hs.map (shortF hs n)) qs2 hs2 (goneF hs2 n k) ∧ OwnN wr bo 35 2 encQS' (.slice (some ⟨bo, 0, none⟩) 0 0) []) (fun vi _ => m - (intOf vi).toNat)
          case atStart => exact ⟨0, Nat.zero_le _, rfl, HS6.out, HNE.out⟩
          case round =>
            clear HS6 HNE
            obtain ⟨wo3, rfl⟩ : ∃ wo3 : World, wo3 = wr := ⟨_, rfl⟩
            obtain ⟨k, hk, rfl, hS7, hO7⟩ := hrel
            have HS7 := Lib.hid hS7; clear hS7
            have HO7 := Lib.hid hO7; clear hO7
            by_cases hlt : k < m
            · obtain ⟨A9, n9, c9, he9, hq9, hnc9, hcm9, hc9⟩ := HS7.out.own.rd (fun _ => rfl)
              injection he9 with e1 e2 e3
              subst e1 e2 e3
              obtain ⟨gr, rfl, hgr, hcell9⟩ := hc9 (by omega)
              have hkq : k < qs2.length := by rw [hq9]; exact hlt
              have hkh : k < hs2.length := by rw [HM2.out]; exact hlt
              have d0 := hcell9 k _ (List.getElem?_eq_getElem hkq) 0 _ rfl
              have d1 := hcell9 k _ (List.getElem?_eq_getElem hkq) 1 _ rfl
              simp only [Nat.add_zero] at d0
              have ok := HS7.out.q1 k _ _ (List.getElem?_eq_getElem hkq) (List.getElem?_eq_getElem hkh)
              have hth : qs2[k].2 = hs2[k].2 := by
                have := congrArg (·[k]?) HS7.out.q2
                simpa [hkq, hkh] using this
              rw [hth] at d1
              have hoh := HOK2.out _ (List.getElem_mem hkh)
              have hgd : hs2.getD k ([], 0) = hs2[k] := by rw [List.getD_eq_getElem?_getD, List.getElem?_eq_getElem hkh]; rfl
              have hgs : goneF hs2 n (k + 1) = (goneF hs2 n k).set k (ent hs2 (fun i => decide (i ≠ k) && !((goneF hs2 n k).getD i false)) n hs2[k]) := by rw [goneF, hgd]
              clear hgd hth
              generalize hq0 : qs2[k].1 = qk at *
              generalize hs2[k] = h2 at *
              clear hq0
              obtain ⟨pr2, th2⟩ := h2
              simp only at d1 ok hoh
              have HOKP := Lib.hid hoh.2
              have HOKT := Lib.hid hoh.1
              clear hoh
              have HGS := Lib.hid hgs; clear hgs
              have hok := ok.rd
              obtain ⟨Ak, nk, ck, rfl, -⟩ := ok.rd
              have HOKR := Lib.hid hok; clear hok ok
              have dg := HS7.out.gv.cell 0
              simp only [List.getElem?_toArray, List.getElem?_cons_zero] at dg
              have hbgl : bg < wo3.heap.size := HS7.out.gv.lt
              have HGL : Hid ((goneF hs2 n k).length = m) := Lib.hid (by rw [goneF_len]; exact HM2.out)
              clear hc9 hcell9 hq9
              go_upto_region 27 with (fail)
              obtain ⟨w8, hw8⟩ : ∃ w8, w8 = (wo3.alloc (.cells #[.int .i64 (k : Int)] 3)).alloc (.cells #[.slice Ak nk ck, .int .i64 (th2 : Int)] 86) := ⟨_, rfl⟩
              have hE8 : Ext wo3 w8 := by rw [hw8]; exact ((Ext.refl _).alloc _).alloc _
              have hk8 : w8.cell? ⟨wo3.heap.size, 0, none⟩ = some (.int .i64 (k : Int)) := by rw [hw8]; exact ((Ext.refl _).alloc _).cell (cell_new1 _ _ _)
              have hx8 : Blk w8 (wo3.heap.size + 1) 86 #[.slice Ak nk ck, .int .i64 (th2 : Int)] := by rw [hw8]; exact Blk.new' _ _ _ _ (by simp)
              have hb8 : Blk w8 wo3.heap.size 3 #[.int .i64 (k : Int)] := by rw [hw8]; exact (Blk.new _ _ _).alloc _
              have hx80 := hx8.cell 0
              have hx81 := hx8.cell 1
              have HX8 := Lib.hid hx8
              have HB8 := Lib.hid hb8
              simp only [List.getElem?_toArray, List.getElem?_cons_zero, List.getElem?_cons_succ] at hx80 hx81
              have hdg8 := hE8.cell dg
              have HS8 := Lib.hid (HS7.out.later hE8)
              have HO8 := Lib.hid (HO7.out.ext hE8)
              have HOKR8 := Lib.hid (HOKR.out.ext hE8)
              rw [← hw8]
              obtain ⟨bk, HBK⟩ : ∃ bk, Hid (wo3.heap.size = bk) := ⟨_, rfl⟩
              obtain ⟨bx, HBX⟩ : ∃ bx, Hid (wo3.heap.size + 1 = bx) := ⟨_, rfl⟩
              rw [HBX.out] at hx80 hx81 HX8 ⊢
              rw [HBK.out] at hk8 HB8 ⊢
              obtain ⟨z, HZ⟩ : ∃ z, Hid ((chainB hs2 (fun i => decide (i ≠ k) && !((goneF hs2 n k).getD i false)) (setOf u.length pr2)).1.getD th2 false = z) := ⟨_, rfl⟩
              clear hb8
              clear hw8 hE8 hx8 d0 d1 dg hbgl HS7 HO7 HOKR
              go_region_held3 (fun w' => w'.cell? ⟨bg, 0, none⟩ = some (.slice (some ⟨gg, 0, none⟩) m m) ∧ w'.cell? ⟨bk, 0, none⟩ = some (.int .i64 (k : Int)) ∧ w'.cell? ⟨bx, 0, none⟩ = some (.slice Ak nk ck) ∧ w'.cell? ⟨bx, 1, none⟩ = some (.int .i64 (th2 : Int))) (first | exact ⟨hdg8, hk8, hx80, hx81⟩ | exact ⟨HE9.out.cell hdg8, HE9.out.cell hk8, HE9.out.cell hx80, HE9.out.cell hx81⟩ | exact HK9.out)
                (first | (go_at_call 50; refine (entailed_any b vu' _ _ _ u hs2 pr2 th2 (fun i => decide (i ≠ k) && !((goneF hs2 n k).getD i false)) _ (HSY.out _ k (HS8.out.later (Ext.refl _).drew)) (HOKR8.out.ext (Ext.refl _).drew) HOKP.out HOKT.out (by rw [HM2.out]; exact red2_use k bk bg gg m _ _ (((Ext.refl _).drew).cell hk8) (((Ext.refl _).drew).cell hdg8) (HS8.out.ga.ext (Ext.refl _).drew) HGL.out)).mono ?_; rintro e w9 ⟨rfl, hE9⟩; rw [HZ.out]; have HE9 : Hid (Ext w8 w9) := Lib.hid (((Ext.refl _).drew).trans hE9); clear hE9; have HK9 : Hid ((w9.setCell ⟨gg, k, none⟩ (.bool z)).cell? ⟨bg, 0, none⟩ = some (.slice (some ⟨gg, 0, none⟩) m m) ∧ (w9.setCell ⟨gg, k, none⟩ (.bool z)).cell? ⟨bk, 0, none⟩ = some (.int .i64 (k : Int)) ∧ (w9.setCell ⟨gg, k, none⟩ (.bool z)).cell? ⟨bx, 0, none⟩ = some (.slice Ak nk ck) ∧ (w9.setCell ⟨gg, k, none⟩ (.bool z)).cell? ⟨bx, 1, none⟩ = some (.int .i64 (th2 : Int))) := Lib.hid (markCells (HS8.out.later HE9.out).ga ((HS8.out.later HE9.out).gv) (HB8.out.ext HE9.out) (HX8.out.ext HE9.out) k z); obtain ⟨ob, hold9⟩ : ∃ ob, w9.cell? ⟨gg, k, none⟩ = some (.bool ob) := ⟨(goneF hs2 n k)[k]'(by rw [HGL.out]; exact hlt), (HS8.out.ga.ext HE9.out).cell (List.getElem?_eq_getElem _)⟩; have hfz9 := (HS8.out.ga.ext HE9.out).frozen k))
              all_goals
                have HSN := Lib.hid (((HS8.out.later HE9.out).mark hlo3 k z))
                have HON := Lib.hid ((HO8.out.ext HE9.out).far (i := k) (show Blk w9 gg 4 _ from (HS8.out.later HE9.out).ga) (by decide) (.bool z))
                have HZ2 : Hid (ent hs2 (fun i => decide (i ≠ k) && !((goneF hs2 n k).getD i false)) n (pr2, th2) = z) := Lib.hid (by have h := HZ.out; rw [HN.out] at h; exact h)
                go_wp2_with (fail)
                go_roundw
                case rel => exact ⟨k + 1, by omega, by go_num, by rw [HGS.out, HZ2.out]; exact HSN.out, HON.out⟩
                case measure => simp [intOf]; omega
            · obtain rfl : m = k := by omega
              have HR7 := Lib.hid (HSY.out _ _ HS7.out)
              obtain ⟨G, HG⟩ : ∃ G, Hid (goneF hs2 n m = G) := ⟨_, rfl⟩
              rw [HG.out] at HS7
              have HGL : Hid (G.length = m) := Lib.hid (by rw [← HG.out, goneF_len]; exact HM2.out)
              have hdd := HS7.out.bs.cell 1
              simp only [List.getElem?_toArray, List.getElem?_cons_zero, List.getElem?_cons_succ] at hdd
              have HO7b := Lib.hid (HO7.out.up1 HXX.out)
              obtain ⟨i3, hi3, hw0, hw1, hw2⟩ := info_parts inf35b
              obtain ⟨i4, hi4, hv0, hv1, hv2⟩ := info_parts inf9
              have hrd := HS.out.ru
              obtain ⟨Au, nu, cu, rfl, hlu, -, hcu, hcellu⟩ := hrd
              unfold maxLen at hcu
              have HLU := Lib.hid hlu; clear hlu
              have HCU := Lib.hid hcellu; clear hcellu
              clear HO7 HR7
              go_wp2_with (fail)
              clear hdd
              go_loopw [16, 133] (fun vo vi wr => ∃ (k : Nat) (qo : List (Value × Nm)), k ≤ m ∧ vi = .int .i64 k ∧ S2 w wr b gs gg bg m (.slice Ar m cr) (.slice Au nu cu) Y (hs.map (shortF hs n)) qs2 hs2 G ∧ OwnN wr w.heap.size 35 2 encQS' vo qo ∧ qo.length ≤ k ∧
                qo.map (·.2) = ((leftF hs2 G k).map (ruleOf u)).map (·.2) ∧ ∀ (j : Nat) (q : Value × Nm) (r : RuleN), qo[j]? = some q → ((leftF hs2 G k).map (ruleOf u))[j]? = some r → Own wr w.heap.size 9 encS q.1 r.1) (fun _ vi _ => m - (intOf vi).toNat)
              case atStart => exact ⟨0, [], Nat.zero_le _, rfl, HS7.out, HO7b.out, Nat.le_refl _, rfl, by intro j q r hq; simp at hq⟩
              case round =>
                clear HS7 HO7b
                obtain ⟨wo4, rfl⟩ : ∃ wo4 : World, wo4 = wr := ⟨_, rfl⟩
                obtain ⟨k, qo, hk, rfl, hS8, hO8, hqk, hq2, hq3⟩ := hrel
                have HS8 := Lib.hid hS8; clear hS8
                obtain ⟨Ao, no, co, rfl, hno, hnoc, hcoc, -⟩ := hO8.rd (fun _ => rfl)
                unfold maxLen at hcoc
                have HO8 := Lib.hid hO8; clear hO8
                have HQ2 := Lib.hid hq2; clear hq2
                have HQ3 := Lib.hid hq3; clear hq3
                have HNO := Lib.hid hno; clear hno
                have hno1 : no ≤ 1048576 := by have := HNO.out; omega
                by_cases hlt : k < m
                · obtain ⟨A9, n9, c9, he9, hq9, hnc9, hcm9, hc9⟩ := HS8.out.own.rd (fun _ => rfl)
                  injection he9 with e1 e2 e3
                  subst e1 e2 e3
                  obtain ⟨gr, rfl, hgr, hcell9⟩ := hc9 (by omega)
                  have hkq : k < qs2.length := by rw [hq9]; exact hlt
                  have hkh : k < hs2.length := by rw [HM2.out]; exact hlt
                  have d0 := hcell9 k _ (List.getElem?_eq_getElem hkq) 0 _ rfl
                  have d1 := hcell9 k _ (List.getElem?_eq_getElem hkq) 1 _ rfl
                  simp only [Nat.add_zero] at d0
                  have ok := HS8.out.q1 k _ _ (List.getElem?_eq_getElem hkq) (List.getElem?_eq_getElem hkh)
                  have hth : qs2[k].2 = hs2[k].2 := by
                    have := congrArg (·[k]?) HS8.out.q2
                    simpa [hkq, hkh] using this
                  rw [hth] at d1
                  have hoh := HOK2.out _ (List.getElem_mem hkh)
                  have hgd : hs2.getD k ([], 0) = hs2[k] := by rw [List.getD_eq_getElem?_getD, List.getElem?_eq_getElem hkh]; rfl
                  have hpl2 := HPR2.out _ (List.getElem_mem hkh)
                  have hlf := leftF_succ hs2 G k
                  rw [hgd] at hlf
                  clear hgd hth
                  generalize hq0 : qs2[k].1 = qk at *
                  generalize hs2[k] = h2 at *
                  clear hq0
                  obtain ⟨pr2, th2⟩ := h2
                  simp only at d1 ok hoh hpl2
                  have HPL2 := Lib.hid hpl2; clear hpl2
                  have HOKP := Lib.hid hoh.2
                  have hthn : th2 < nu := by have := hoh.1; have := HLU.out; omega
                  clear hoh
                  have hok := ok.rd
                  obtain ⟨Ak, nk, ck, rfl, hnk, hnkc, hckm, hcellk⟩ := ok.rd
                  unfold maxLen at hckm
                  have HOKR := Lib.hid hok; clear hok ok
                  have HNK := Lib.hid hnk; clear hnk
                  have HCK := Lib.hid hcellk; clear hcellk
                  have dg := HS8.out.gv.cell 0
                  simp only [List.getElem?_toArray, List.getElem?_cons_zero] at dg
                  have hbgl : bg < wo4.heap.size := HS8.out.gv.lt
                  have hkG : k < G.length := by rw [HGL.out]; exact hlt
                  have dgk := HS8.out.ga.cell (List.getElem?_eq_getElem hkG)
                  have hggl : gg < wo4.heap.size := HS8.out.ga.lt
                  have hgk : G.getD k false = G[k] := getD_at' hkG
                  rw [hgk] at hlf
                  clear hgk hc9 hcell9 hq9
                  generalize G[k] = gk at *
                  have HLF := Lib.hid hlf; clear hlf
                  cases gk with
                  | true =>
                    rw [if_pos rfl, List.append_nil] at HLF
                    have HS9 := Lib.hid (HS8.out.later ((Ext.refl _).alloc (.cells #[.slice Ak nk ck, .int .i64 (th2 : Int)] 86)))
                    have HO9 := Lib.hid (HO8.out.ext ((Ext.refl _).alloc (.cells #[.slice Ak nk ck, .int .i64 (th2 : Int)] 86)))
                    go_wp2_with (fail)
                    go_roundw
                    case rel => exact ⟨k + 1, qo, by omega, by go_num, HS9.out, HO9.out, by omega, by rw [HLF.out]; exact HQ2.out, by rw [HLF.out]; exact fun j q r h1 h2 => (HQ3.out j q r h1 h2).ext ((Ext.refl _).alloc _)⟩
                    case measure => simp [intOf]; omega
                  | false =>
                    rw [if_neg (by decide)] at HLF
                    obtain ⟨bu, offu, rfl, hbu, hcu2⟩ := HCU.out (by omega)
                    have hthu : th2 < u.length := by rw [HLU.out]; exact hthn
                    have du := HS8.out.sh.ext.cell (hcu2 th2 _ (List.getElem?_eq_getElem hthu))
                    have HUD : Hid (u.getD th2 [] = u[th2]) := Lib.hid (by rw [List.getD_eq_getElem?_getD, List.getElem?_eq_getElem hthu]; rfl)
                    have db0 := HS8.out.bs.cell 0
                    simp only [List.getElem?_toArray, List.getElem?_cons_zero] at db0
                    have hbl4 : b < wo4.heap.size := HS8.out.bs.lt
                    have hbu4 := World.block_lt_of_cell? _ _ du
                    simp only at hbu4
                    generalize u[th2] = yth at *
                    clear hcu2
                    go_wp2_with (fail)
                    go_region
                    go_wp2_with (fail)
                    refine wp_world (fun W => Ext wo4 W ∧ Blk W wo4.heap.size 86 #[.slice Ak nk ck, .int .i64 (th2 : Int)] ∧ Blk W (wo4.heap.size + 1) 35 #[.slice none 0 0, encS yth]) ⟨?_, ?_, ?_⟩ ?_
                    · repeat (first | exact Ext.refl _ | apply Ext.alloc | apply Ext.drew)
                    · first | exact ((Blk.new _ _ _).alloc _).drew | exact ((Blk.new _ _ _).drew).alloc _
                    · first | exact (Blk.new' _ _ _ _ (by simp)).drew | exact Blk.new' _ _ _ _ (by simp)
                    rintro w9 ⟨hE9, hB9, hR9⟩
                    obtain ⟨bx, HBX⟩ : ∃ bx, Hid (wo4.heap.size = bx) := ⟨_, rfl⟩
                    obtain ⟨br, HBR⟩ : ∃ br, Hid (wo4.heap.size + 1 = br) := ⟨_, rfl⟩
                    rw [HBR.out] at hR9 ⊢
                    rw [HBX.out] at hB9 ⊢
                    have hlb9 : wo4.heap.size ≤ br := by have := HBR.out; omega
                    have HS9 := Lib.hid (HS8.out.later hE9)
                    have HO9 := Lib.hid (HO8.out.ext hE9)
                    have HE9 := Lib.hid hE9
                    have HB9 := Lib.hid hB9
                    have HR9 := Lib.hid hR9
                    clear d0 d1 dg dgk db0 du hE9 hB9 hR9 hbgl hggl hbl4 hbu4
                    go_loopw [23, 154] (fun vx vt wr => ∃ (t : Nat) (vI : Value), t ≤ nk ∧ vt = .int .i64 t ∧ Ext wo4 wr ∧ Blk wr br 35 #[vI, encS yth] ∧ Own wr wo4.heap.size 9 encS vI ((pr2.take t).map fun p => u.getD p [])) (fun _ vt _ => nk - (intOf vt).toNat)
                    case atStart => exact ⟨0, _, Nat.zero_le _, rfl, HE9.out, HR9.out, by simpa using Own.nil _ _ _ _⟩
                    case round =>
                      clear HR9 HB9
                      obtain ⟨t, vI, ht, rfl, hE10, hR10, hO10⟩ := hrel
                      have HE10 := Lib.hid hE10; clear hE10
                      obtain ⟨AI, nI, cI, rfl, hnI, hnIc, hcI, -⟩ := hO10.rd
                      unfold maxLen at hcI
                      have HO10 := Lib.hid hO10; clear hO10
                      have HR10 := Lib.hid hR10; clear hR10
                      have HNI := Lib.hid hnI; clear hnI
                      have dr0 := HR10.out.cell 0
                      simp only [List.getElem?_toArray, List.getElem?_cons_zero] at dr0
                      have hfr0 := HR10.out.frozen 0
                      have hbr0 : br < wr.heap.size := HR10.out.lt
                      by_cases htn : t < nk
                      · obtain ⟨bp, offp, rfl, hbp, hcp⟩ := HCK.out (by omega)
                        have htl : t < pr2.length := by rw [HNK.out]; exact htn
                        have dp := HE10.out.cell (hcp t _ (List.getElem?_eq_getElem htl))
                        have hpu := HOKP.out _ (List.getElem_mem htl)
                        have HTK := Lib.hid (List.take_succ_eq_append_getElem htl)
                        clear hcp
                        generalize pr2[t] = p at *
                        have hpn : p < nu := by have := HLU.out; omega
                        have HG := Lib.hid (show u.getD p [] = u[p] by rw [List.getD_eq_getElem?_getD, List.getElem?_eq_getElem hpu]; rfl)
                        obtain ⟨bu', offu', he', hbu', hcu2⟩ := HCU.out (by omega)
                        injection he' with he'
                        injection he' with e1 e2
                        subst e1 e2
                        have dup := (HS8.out.sh.ext.trans HE10.out).cell (hcu2 p _ (List.getElem?_eq_getElem hpu))
                        have db1 := (HS8.out.bs.ext HE10.out).cell 0
                        simp only [List.getElem?_toArray, List.getElem?_cons_zero] at db1
                        have hb1 := World.block_lt_of_cell? _ _ db1
                        have hup1 := World.block_lt_of_cell? _ _ dup
                        simp only at hb1 hup1
                        clear hcu2
                        generalize u[p] = y at *
                        have hnIs : ((pr2.take t).map fun p => u.getD p []).length + 1 ≤ 2097153 := by rw [List.length_map, List.length_take]; have := HPL2.out; omega
                        have HNS := Lib.hid hnIs; clear hnIs
                        go_wp2_with (fail)
                        go_region_law (refine step_append_one1 rfl (.tmp 159) (.tmp 167) 22 rfl 9 i4 _ 16 Try.underlying22 hi4 hv0 hv1 hv2 rfl encS wo4 (HE10.out.drew.alloc _) (.slice AI nI cI) _ rfl ((HO10.out.ext ((Ext.refl _).drew)).ext ((Ext.refl _).alloc _)) wr.heap.size 1 y rfl (cell_new1 _ _ _) rfl (by have := HNS.out; unfold maxLen; omega) (by have := HNS.out; omega) ?_; intro v11 w11 hown11 hE11 hg11; have hr11 : Blk w11 br 35 #[.slice AI nI cI, encS yth] := Blk.appended (HR10.out.ext (((Ext.refl _).drew).alloc _)) hg11 ((HO10.out.ext ((Ext.refl _).drew)).ext ((Ext.refl _).alloc _)) (by decide); clear hg11; obtain ⟨A11, n11, c11, rfl, -⟩ := hown11.rd; have hold11 : w11.cell? ⟨br, 0, none⟩ = some (.slice AI nI cI) := hr11.cell 0; have hfz11 := hr11.frozen 0; have HRN := Lib.hid (hr11.set_ 0 (.slice A11 n11 c11)); have HON := Lib.hid (hown11.far (i := 0) hr11 (by decide) (.slice A11 n11 c11)); have HEN := Lib.hid (hE11.setCell (p := ⟨br, 0, none⟩) hlb9 (.slice A11 n11 c11)); clear hown11 hE11 hr11)
                        all_goals
                          go_wp2_with (fail)
                          go_roundw
                          case rel => exact ⟨t + 1, _, by omega, by go_num, HEN.out, by simpa using HRN.out, by rw [HTK.out, List.map_append, List.map_cons, List.map_nil, HG.out]; exact HON.out⟩
                          case measure => simp [intOf]; omega
                      · obtain rfl : nk = t := by omega
                        rw [List.take_of_length_le (l := pr2) (by have := HNK.out; omega)] at HO10
                        have dr1 := HR10.out.cell 1
                        simp only [List.getElem?_toArray, List.getElem?_cons_zero, List.getElem?_cons_succ] at dr1
                        have HNN : Hid (qo.length + 1 ≤ 1048577) := Lib.hid (by have := HNO.out; omega)
                        have hE0 := HS8.out.sh.ext
                        have HE0 := Lib.hid hE0; clear hE0
                        go_wp2_with (at_builtin; go_must (refine wpList_append_oneN rfl (.tmp 171) (.tmp 173) 23 rfl 35 i3 _ 2 40 Try.underlying23 hi3 hw0 hw1 hw2 rfl (by decide) encQS' (fun _ => rfl) w ((HE0.out.trans HE10.out).alloc _) (.slice Ao no co) qo rfl ((HO8.out.ext HE10.out).ext ((Ext.refl _).alloc _)) wr.heap.size 1 (.slice AI nI cI, yth) rfl (cells_new _ _ _ _ rfl) (by intro x hx; simp only [encQS', List.mem_cons, List.not_mem_nil, or_false] at hx; rcases hx with rfl | rfl <;> rfl) (by have := HNN.out; unfold maxLen; omega) (by have := HNN.out; omega) ?_); intro v12 w12 hown12 hE12 hg12; have hS12 := ((HS8.out.later HE10.out).later ((Ext.refl _).alloc _)).grownR hE12 hg12 ((HO8.out.ext HE10.out).ext ((Ext.refl _).alloc _)); have hq12 : ∀ (q : Value) (l : NmL), Own wr w.heap.size 9 encS q l → Own w12 w.heap.size 9 encS q l := (fun q l h => (h.ext ((Ext.refl _).alloc _)).appendedN hg12 ((HO8.out.ext HE10.out).ext ((Ext.refl _).alloc _)) (by decide)); clear hg12; have HS12 := Lib.hid hS12; have HQ12 := Lib.hid hq12; have HO12 := Lib.hid hown12; clear hS12 hq12 hown12 hE12)
                        go_roundw
                        case rel =>
                          refine ⟨k + 1, _, by omega, by go_num, HS12.out, HO12.out, by simp; omega, ?_, ?_⟩
                          · rw [HLF.out, List.map_append, List.map_append, List.map_append, HQ2.out]
                            congr 1
                            simp [ruleOf]
                            rw [← HUD.out]; simp
                          · rw [HLF.out, List.map_append]
                            have hlen : qo.length = ((leftF hs2 G k).map (ruleOf u)).length := by have := congrArg List.length HQ2.out; simpa using this
                            intro j q r hj hr
                            rcases snoc_get hj with ⟨e1, e2⟩ | ⟨e1, e2⟩
                            · rw [List.getElem?_append_left (by omega)] at hr
                              exact HQ12.out _ _ ((HQ3.out j q r e2 hr).ext HE10.out)
                            · rw [List.getElem?_append_right (by omega), e1, hlen] at hr
                              simp at hr
                              subst e2 hr
                              exact HQ12.out _ _ (HO10.out.up HE0.out.size)
                        case measure => simp [intOf]; omega
                · obtain rfl : m = k := by omega
                  go_wp2_with (fail)
                  go_ret2
                  refine ⟨_, rfl, ?_, HS8.out.sh.ext⟩
                  show RdR wo4 (.slice Ao no co) _
                  rw [HHS.out, HM.out, HN.out, HH2.out, HG.out]
                  exact rdR_of HO8.out HQ2.out fun j q r h1 h2 => (HQ3.out j q r h1 h2).rd

set_option maxRecDepth 100000 in
set_option maxHeartbeats 400000 in
theorem reduce_err (vu vs : Value) (u : List Nm) (rs : List RuleN) (w : World) (hu : InU w vu u) (hr : InR w vs rs) (h0 : checkE u rs ≠ 0) :
    Calls Try.prog 39 #[vu, vs] w fun e w' => e = .returned (.tuple #[.slice none 0 0, .int .i64 (checkE u rs)]) ∧ Ext w w' := by
  have HU := Lib.hid hu; clear hu
  have HR := Lib.hid hr; clear hr
  have hzb : (checkE u rs != 0) = true := by simpa using h0
  have H0 := Lib.hid h0; clear h0
  go_enter Try.func39, Try.ntmps39
  go_wp2_with (fail)
  refine (parse_err _ _ u rs _ HU.out HR.out H0.out).mono ?_
  rintro e w1 ⟨rfl, hE⟩
  have HE := Lib.hid hE; clear hE
  go_wp2_with (fail)
  go_ret2
  exact ⟨rfl, HE.out⟩
end Go.Proofs.Ythgplaledmccgaa
