/-
  Contracts: the law JoinOrder.
-/
import Derived.Test.YtnkkokmmeplbgaaGreatB15
import Derived.Test.YtnkkokmmeplbgaaGreatB14
import Derived.Test.YtnkkokmmeplbgaaGreatA4
import Derived.Test.YtnkkokmmeplbgaaGreatRows
import Derived.Deep.Slices
import Derived.Deep.Fields
import Derived.ChangeSame
import Derived.SliceStrings
import Derived.ProofKit
import Derived.Test.YtnkkokmmeplbgaaGreatB11
namespace Go.Proofs.YtnkkokmmeplbgaaGreat
set_option maxRecDepth 100000
open Go.RowKit
theorem Qlp {es : List En} {e : En} (h : e ∈ es) : 1 + e.1.length ≤ QaD es := by
 obtain ⟨k, hk⟩ := List.mem_iff_getElem?.1 h
 have := QiI hk
 have := QmR es (k + 1)
 omega
theorem Qgu : ∀ es : List En, es.length ≤ QaD es
 | [] => Nat.zero_le _
 | e :: r => by
  have := Qgu r
  have h : QaD (e :: r) = (1 + e.1.length) + QaD r := by simp [QaD]
  rw [h, List.length_cons]; omega
theorem Qhu (v : Qt) : 1 ≤ QaR v := by rw [Qek]; omega
theorem Qdg : ∀ {ps : List Qt} {p : Qt}, p ∈ ps → QaR p ≤ QaM ps
 | q :: r, p, h => by
  rw [QaM]
  rcases List.mem_cons.1 h with rfl | h
  ·omega
  have := Qdg h; omega
theorem Qdd : ∀ ps : List Qt, ps.length ≤ QaM ps
 | [] => Nat.zero_le _
 | p :: r => by have := Qdd r; have := Qhu p; rw [QaM, List.length_cons]; omega
theorem QgZ (n : Nat) (hn : n ≤ 65) (v : Qt) (h : QaR v ≤ n) : Wc n v := by
 have e := Qek v
 have h1 := Qgu v.es
 have h2 := Qdd v.ps
 exact .mk v (by omega) (by omega) (by omega) (fun x hx => by have := Qlp hx; omega) (fun p hp => QgZ n hn p (by have := Qdg hp; omega))
termination_by v
decreasing_by exact Qt.sizeOf_ps ‹_›
theorem QjN {v : Qt} (h : Qlc v 40 = true) : Wc 40 v := QgZ 40 (by decide) v (by have := of_decide_eq_true h; omega)
theorem QiV {l : Qs} {vs : List Qt} (hc : QK l = 0) (h : (vs.all fun v => Qv v l) = true) : J6 l vs = 0 := by
 unfold J6 Qav
 have : vs.all (Ka l) = true := by
  rw [List.all_eq_true] at h ⊢
  intro v hv
  simp [Ka, hc, h v hv]
 simp [hc, this]
theorem Qgn {l : Qs} {vs : List Qt} {v : Qt} (hc : J6 l vs = 0) (h : KL l vs = v) : K7 l vs = (v, 0) := by rw [K7, if_pos hc, h]
open Go.RowKit Go.ChangeShapes Go.WideShapes Go.ChangeAt
def QdP (w : World) : Nat → Nat → Prop := fun b _ => b < w.heap.size
section
variable {H : Type} {enc : TypeId × Value → H} {P : Program} {w : World} {base : Nat} {spare : Nat → Bool} {held : Bool}
theorem Qlt {t e : TypeId} {fuel : Nat} {v : Value} {x : DataW H × List MemPlace} (ht : P.underlying t = some (.slice e)) (k : Nat) (he : P.cellsOf e = k) (hk : 0 < k) (h : DataW.trod enc P w base spare held fuel t [v] = some x) :
  ∃ A n c, v = .slice A n c ∧ n ≤ c ∧ c ≤ maxLen ∧ (0 < n → ∃ b off, A = some ⟨b, off, none⟩ ∧ b < w.heap.size ∧ ∀ j, j < n → ∃ ds y m, m < fuel ∧ ds.length = k ∧ (∀ i u, ds[i]? = some u → w.cell? ⟨b, off + j * k + i, none⟩ = some u) ∧ DataW.trod enc P w base spare held m e ds = some y) := by
 rcases DataW.trod_slice ht h with ⟨hcs, _⟩ | ⟨a, len, cap, elems, rest, n, hfu, hcs, -, hb, hl, hm, hlen, hel, -, -⟩
 ·simp only [List.cons.injEq, and_true] at hcs
  exact ⟨none, 0, 0, hcs, Nat.le_refl _, Nat.zero_le _, fun h => absurd h (by omega)⟩
 simp only [List.cons.injEq, and_true] at hcs
 refine ⟨some a, len, cap, hcs, hl, hm, fun h0 => ?_⟩
 rw [he] at hel
 have hat : ∀ j, j < len → ∃ ds y, ds.length = k ∧ (∀ i u, ds[i]? = some u → w.cell? ((a.add (j * k)).add i) = some u) ∧ DataW.trod enc P w base spare held n e ds = some y := by
  intro j hj
  have key := hel j hj
  rw [List.getElem?_eq_getElem (by omega)] at key
  obtain ⟨cs', h1, h2⟩ := Option.bind_eq_some_iff.1 key
  obtain ⟨_, hcl, hat⟩ := World.cells?_some h1
  exact ⟨cs', _, hcl, fun i u hu => by
   have hi := (List.getElem?_eq_some_iff.1 hu).1
   rw [hat i (by omega), hu], h2⟩
 obtain ⟨ds, y, hdl, hc, -⟩ := hat 0 h0
 have hc0 := hc 0 _ (List.getElem?_eq_getElem (by omega))
 obtain ⟨b, off, spot⟩ := a
 have hsp : spot = none := by simpa [Addr.add] using World.cell?_spot hc0
 subst hsp
 have ha : ∀ o j, (⟨b, o, none⟩ : Addr).add j = ⟨b, o + j, none⟩ := by intro o j; unfold Addr.add; split <;> simp_all
 refine ⟨b, off, rfl, World.block_lt_of_cell? w _ (by simpa [Addr.add] using hc0), fun j hj => ?_⟩
 obtain ⟨ds, y, hdl, hc, ht⟩ := hat j hj
 refine ⟨ds, y, n, by omega, hdl, fun i u hu => ?_, ht⟩
 have := hc i u hu
 rw [ha, ha] at this
 exact this
def RdC (w : World) (cs : List Value) (xs : List AV) : Prop := ∀ (i : Nat) (u : Value) (a : AV), cs[i]? = some u → xs[i]? = some a → FR w (QdP w) u a
theorem Qfk {t e : TypeId} {fuel : Nat} {v : Value} {x : DataW H × List MemPlace} (ht : P.underlying t = some (.slice e)) (k : Nat) (he : P.cellsOf e = k) (hk : 0 < k) (h : DataW.trod enc P w base spare held fuel t [v] = some x)
  {α : Type} (f : α → List AV) (hf : ∀ z, (f z).length = k) (hel : ∀ m ds y, m < fuel → ds.length = k → DataW.trod enc P w base spare held m e ds = some y → ∃ z : α, RdC w ds (f z)) : ∃ l : List α, FR w (QdP w) v (.sl (l.map f) none) := by
 obtain ⟨A, n, c, rfl, h1, h2, h3⟩ := Qlt ht k he hk h
 by_cases hn : 0 < n
 ·obtain ⟨b, off, rfl, hb, hat⟩ := h3 hn
  obtain ⟨l, hl, hp⟩ := Wd (p := fun j (z : α) => ∀ i a, (f z)[i]? = some a → ∃ u, w.cell? ⟨b, off + j * k + i, none⟩ = some u ∧ FR w (QdP w) u a) n (fun j hj => by
   obtain ⟨ds, y, m, hm, hdl, hcl, htr⟩ := hat j hj
   obtain ⟨z, hz⟩ := hel m ds y hm hdl htr
   refine ⟨z, fun i a ha => ?_⟩
   have hi : i < ds.length := by have := (List.getElem?_eq_some_iff.1 ha).1; rw [hf] at this; omega
   exact ⟨ds[i], hcl i _ (List.getElem?_eq_getElem hi), hz i _ a (List.getElem?_eq_getElem hi) ha⟩)
  have key : ∀ (j : Nat) (e : List AV) (i : Nat) (x : AV), (l.map f)[j]? = some e → e[i]? = some x → ∃ u, w.cell? ⟨b, off + j * k + i, none⟩ = some u ∧ FR w (QdP w) u x := fun j e i x hj hi => by
   rw [List.getElem?_map] at hj
   cases hz : l[j]? with
   | none => rw [hz] at hj; cases hj
   | some z => rw [hz] at hj; cases hj; exact hp j z hz i x hi
  refine ⟨l, .sl _ n c k _ b off (fun j i => (w.cell? ⟨b, off + j * k + i, none⟩).getD undef) (by simp [hl]) h1 h2 (fun _ => rfl) (fun j e hj => ?_) (fun j e i x hj hi => ?_) (fun j e i x hj hi => ?_)⟩
  ·rw [List.getElem?_map] at hj
   cases hz : l[j]? with
   | none => rw [hz] at hj; cases hj
   | some z => rw [hz] at hj; cases hj; exact hf z
  ·obtain ⟨u, hu, -⟩ := key j e i x hj hi
   exact ⟨hb, by rw [hu]; rfl⟩
  obtain ⟨u, hu, hfr⟩ := key j e i x hj hi
  rw [hu]; exact hfr
 obtain rfl : n = 0 := by omega
 exact ⟨[], .nil _ _ _ _ h2⟩
theorem QlJ (s : ByteArray) : (⟨s.data.toList.toArray⟩ : ByteArray) = s := by cases s; simp
theorem Qky (s : ByteArray) : sv s.data.toList = .p (.string s) := by show AV.p (.string ⟨s.data.toList.toArray⟩) = _; rw [QlJ]
end
section
variable {H : Type} {enc : TypeId × Value → H} {w : World} {base : Nat} {spare : Nat → Bool} {held : Bool}
theorem Qko {fuel : Nat} {v : Value} {x : DataW H × List MemPlace} (h : DataW.trod enc Tryz.prog w base spare held fuel 22 [v] = some x) : ∃ l : List Nm, FR w (QdP w) v (XN l) :=
 Qfk Tryz.underlying22 1 (by kernel_rfl) (by decide) h sv1 (fun _ => rfl) (fun m ds y _ hdl ht => by
  obtain ⟨s, hs, -, -⟩ := DataW.trod_string Tryz.underlying9 ht
  subst hs
  refine ⟨s.data.toList, fun i u a hi ha => ?_⟩
  match i, hi, ha with
  | 0, hi, ha =>
   simp [sv1] at hi ha
   subst hi ha
   rw [Qky]; exact .p _
  | i + 1, hi, _ => simp at hi)
theorem QkV (y : Qs) : (Qg5 y).length = 6 := by rw [Qfq]; rfl
theorem Qok {fuel : Nat} {v : Value} {x : DataW H × List MemPlace} (h : DataW.trod enc Tryz.prog w base spare held fuel 24 [v] = some x) : ∃ l : List Ru, FR w (QdP w) v (rus l) :=
 Qfk Tryz.underlying24 2 (by kernel_rfl) (by decide) h ruC (fun _ => rfl) (fun m ds y _ hdl ht => by
  obtain ⟨u0, u1, rfl⟩ : ∃ a b, ds = [a, b] := by
   match ds, hdl with
   | [a, b], _ => exact ⟨a, b, rfl⟩
  obtain ⟨xs, k, -, rfl, hl, hlen, hf⟩ := DataW.trod_struct Tryz.underlying188 ht
  have f0 := hf 0 _ rfl
  have f1 := hf 1 _ rfl
  have hx0 : xs[0]? = some (xs[0]'(by rw [hlen]; decide)) := List.getElem?_eq_getElem _
  have hx1 : xs[1]? = some (xs[1]'(by rw [hlen]; decide)) := List.getElem?_eq_getElem _
  obtain ⟨ts, hts⟩ := Qko (v := u0) (f0.trans hx0)
  obtain ⟨s, hs, -, -⟩ := DataW.trod_string Tryz.underlying9 (f1.trans hx1)
  have hs' : [u1] = [Value.string s] := hs
  simp only [List.cons.injEq, and_true] at hs'
  subst hs'
  refine ⟨⟨ts, s.data.toList⟩, fun i u a hi ha => ?_⟩
  match i, hi, ha with
  | 0, hi, ha => simp [ruC] at hi ha; subst hi ha; exact hts
  | 1, hi, ha => simp [ruC] at hi ha; subst hi ha; rw [Qky]; exact .p _
  | i + 2, hi, _ => simp at hi)
theorem QnT : ∀ (fuel : Nat) (cs : List Value) (x : DataW H × List MemPlace), DataW.trod enc Tryz.prog w base spare held fuel 26 cs = some x → cs.length = 6 ∧ ∃ y : Qs, RdC w cs (QP y) := by
 intro fuel
 induction fuel using Nat.strongRecOn with
 | _ fuel ih =>
  intro cs x h
  obtain ⟨xs, k, hfu, -, hl, hlen, hf⟩ := DataW.trod_struct Tryz.underlying26 h
  have h6 : cs.length = 6 := hl.trans (by kernel_rfl)
  refine ⟨h6, ?_⟩
  obtain ⟨u0, u1, u2, u3, u4, u5, rfl⟩ : ∃ a b c d e f, cs = [a, b, c, d, e, f] := by
   match cs, h6 with
   | [a, b, c, d, e, f], _ => exact ⟨a, b, c, d, e, f, rfl⟩
  have f0 := hf 0 _ rfl
  have f1 := hf 1 _ rfl
  have f2 := hf 2 _ rfl
  have f3 := hf 3 _ rfl
  have f4 := hf 4 _ rfl
  have f5 := hf 5 _ rfl
  have hx0 : xs[0]? = some (xs[0]'(by rw [hlen]; decide)) := List.getElem?_eq_getElem _
  have hx1 : xs[1]? = some (xs[1]'(by rw [hlen]; decide)) := List.getElem?_eq_getElem _
  have hx2 : xs[2]? = some (xs[2]'(by rw [hlen]; decide)) := List.getElem?_eq_getElem _
  have hx3 : xs[3]? = some (xs[3]'(by rw [hlen]; decide)) := List.getElem?_eq_getElem _
  have hx4 : xs[4]? = some (xs[4]'(by rw [hlen]; decide)) := List.getElem?_eq_getElem _
  have hx5 : xs[5]? = some (xs[5]'(by rw [hlen]; decide)) := List.getElem?_eq_getElem _
  obtain ⟨K, hK, -⟩ := DataW.trod_int Tryz.underlying3 (f0.trans hx0)
  have hK' : [u0] = [Value.int .i64 K] := hK
  obtain ⟨lo, hlo, -⟩ := DataW.trod_int Tryz.underlying2 (f1.trans hx1)
  have hlo' : [u1] = [Value.int .i64 lo] := hlo
  obtain ⟨hi, hhi, -⟩ := DataW.trod_int Tryz.underlying2 (f2.trans hx2)
  have hhi' : [u2] = [Value.int .i64 hi] := hhi
  simp only [List.cons.injEq, and_true] at hK' hlo' hhi'
  subst hK' hlo' hhi'
  obtain ⟨nm, hnm⟩ := Qko (v := u3) (f3.trans hx3)
  obtain ⟨rs, hrs⟩ := Qok (v := u5) (f5.trans hx5)
  subst hfu
  obtain ⟨ps, hps⟩ := Qfk (v := u4) Tryz.underlying23 6 (by kernel_rfl) (by decide) (f4.trans hx4) Qg5 QkV (fun m ds y hm hdl ht => by
   obtain ⟨-, z, hz⟩ := ih m (by omega) ds y ht
   exact ⟨z, by rw [Qfq]; exact hz⟩)
  refine ⟨.mk K lo hi nm ps rs, fun i u a hi ha => ?_⟩
  match i, hi, ha with
  | 0, hi, ha => simp at hi ha; subst hi ha; exact .p _
  | 1, hi, ha => simp at hi ha; subst hi ha; exact .p _
  | 2, hi, ha => simp at hi ha; subst hi ha; exact .p _
  | 3, hi, ha => simp at hi ha; subst hi ha; exact hnm
  | 4, hi, ha => simp at hi ha; subst hi ha; exact hps
  | 5, hi, ha => simp at hi ha; subst hi ha; exact hrs
  | i + 6, hi, _ => simp at hi
theorem QmZ {cs : Array Value} {xs : List AV} (hl : cs.toList.length = xs.length) (h : RdC w cs.toList xs) : FR w (QdP w) (.agg cs) (.agg xs) := by
 have := FR.agg (w := w) (S := QdP w) cs.toList xs hl h
 simpa using this
end
theorem QkE {P : Program} {f : FuncId} {args : List AV} (h : FC P f args (bl true)) (W : World) (vs : List Value) (hl : vs.length = args.length) (hr : ∀ (i : Nat) (v : Value) (x : AV), vs[i]? = some v → args[i]? = some x → FR W (QdP W) v x) :
  Calls P f vs.toArray W fun e W' => e = .returned (.bool true) ∧ Below W.heap.size W W' := by
 refine (h W (QdP W) vs (fun _ _ h => h) ⟨hl, hr⟩).mono ?_
 rintro e w' ⟨v, S', rfl, hb, -, -, hfr⟩
 cases hfr
 exact ⟨rfl, hb.toBelow⟩
end Go.Proofs.YtnkkokmmeplbgaaGreat
namespace Go.Proofs.YtnkkokmmeplbgaaGreat
open Go.RowKit
theorem WR {F G : Qs → Int → Int × Int} : ∀ (l : List Qs) (n n' : Int), (∀ q ∈ l, ∀ n n', n' ≤ n → (F q n).1 = 0 → (G q n').1 = 0 ∧ (G q n').2 + n = (F q n).2 + n' ∧ n ≤ (F q n).2) → n' ≤ n → (XG F l n).1 = 0 →
  (XG G l n').1 = 0 ∧ (XG G l n').2 + n = (XG F l n).2 + n' ∧ n ≤ (XG F l n).2 ∧ ∀ q ∈ l, ∃ m, n ≤ m ∧ (F q m).1 = 0
 | [], n, n', _, _, _ => by simp [XG]; omega
 | q :: r, n, n', hF, hn, h => by
  unfold XG at h ⊢
  split at h
  ·rename_i h0
   have h0' : (F q n).1 = 0 := by simpa using h0
   obtain ⟨g1, g2, g3⟩ := hF q (by simp) n n' hn h0'
   rw [if_pos (by simpa using g1), if_pos h0]
   obtain ⟨k1, k2, k3, k4⟩ := WR r (F q n).2 (G q n').2 (fun p hp => hF p (by simp [hp])) (by omega) h
   refine ⟨k1, by omega, by omega, fun p hp => ?_⟩
   rcases List.mem_cons.1 hp with rfl | hp
   ·exact ⟨n, Int.le_refl _, h0'⟩
   obtain ⟨m, hm, he⟩ := k4 p hp
   exact ⟨m, by omega, he⟩
  rename_i h0
  exact absurd (by simpa using h) h0
theorem Qaj : ∀ (f : Nat) (l : Qs) (n n' : Int), n' ≤ n → (QG f l n).1 = 0 → ∀ g, f ≤ g → (QG g l n').1 = 0 ∧ (QG g l n').2 + n = (QG f l n).2 + n' ∧ n ≤ (QG f l n).2
 | 0, l, n, n', _, h => by simp [QG] at h
 | f + 1, l, n, n', hn, h => by
  intro g hg
  obtain ⟨g, rfl⟩ : ∃ k, g = k + 1 := ⟨g - 1, by omega⟩
  by_cases h64 : n ≥ 64
  ·rw [Qgg h64] at h; simp at h
  have h64 : n < 64 := by omega
  cases hs : QU l != 0 with
  | true => rw [Qbg h64 hs] at h; simp at h; simp [h] at hs
  | false =>
   cases ho : KH [XH l, Xp l, Q7 l, Xq l] != 0 with
   | true => rw [Qj8 h64 hs ho] at h; simp at h; simp [h] at ho
   | false =>
    rw [Wm h64 hs ho] at h ⊢
    rw [Wm (by omega) hs ho]
    obtain ⟨k1, k2, k3, -⟩ := WR (F := QG f) (G := QG g) l.ps (n + 1) (n' + 1) (fun q _ n n' hn h => Qaj f q n n' hn h g (by omega)) (by omega) h
    exact ⟨k1, by omega, by omega⟩
theorem orE4 {a b c d : Int} (h : KH [a, b, c, d] = 0) : a = 0 ∧ b = 0 ∧ c = 0 ∧ d = 0 := by
 simp only [KH] at h
 split at h
 ·rename_i ha
  split at h
  ·rename_i hb
   split at h
   ·rename_i hc
    split at h
    ·rename_i hd
     exact ⟨by simpa using ha, by simpa using hb, by simpa using hc, by simpa using hd⟩
    rename_i hd; exact absurd (by simpa using h) hd
   rename_i hc; exact absurd (by simpa using h) hc
  rename_i hb; exact absurd (by simpa using h) hb
 rename_i ha; exact absurd (by simpa using h) ha
theorem Ys.four {l : Qs} (h : Ys l) : XH l = 0 ∧ Xp l = 0 ∧ Q7 l = 0 ∧ Xq l = 0 := by cases h; exact orE4 (by assumption)
theorem Qhj {l q : Qs} (h : QK l = 0) (hq : q ∈ l.ps) : QK q = 0 := by
 unfold QK at h ⊢
 have h' := h
 have hO := Xg h
 have hs : (QU l != 0) = false := by simp [hO.shape]
 have ho : (KH [XH l, Xp l, Q7 l, Xq l] != 0) = false := by
  obtain ⟨h1, h2, h3, h4⟩ := hO.four
  rw [h1, h2, h3, h4]; rfl
 rw [show (6 : Nat) = 5 + 1 from rfl, Wm (by decide) hs ho] at h'
 obtain ⟨-, -, -, k4⟩ := WR (F := QG 5) (G := QG 5) l.ps (0 + 1) (0 + 1) (fun q _ n n' hn h => Qaj 5 q n n' hn h 5 (Nat.le_refl _)) (Int.le_refl _) h'
 obtain ⟨m, hm, he⟩ := k4 q hq
 exact (Qaj 5 q m 0 (by omega) he 6 (by decide)).1
theorem ChL.of (l : Qs) (h : QK l = 0) : ChL l := .mk l h (fun p hp => ChL.of p (Qhj h hp))
termination_by l
decreasing_by exact Qs.sizeOf_ps ‹_›
theorem QiJ {l : Qs} (h : Ys l) : l.lo ≤ l.hi := by
 have h := h.four.2.2.1
 unfold Q7 X4 at h
 split at h
 ·cases h
 rename_i h1
 simp only [Bool.or_eq_true, decide_eq_true_eq, not_or] at h1
 omega
theorem Qat : ∀ {xs : List Qt} {ls : List Qs}, xs.length = ls.length → (J3 xs ls = true ↔ ∀ (k : Nat) (x : Qt) (q : Qs), xs[k]? = some x → ls[k]? = some q → Qv x q = true)
 | [], [], _ => by simp [J3]
 | x :: xs, q :: ls, h => by
  rw [J3, Bool.and_eq_true, Qat (by simpa using h)]
  constructor
  ·rintro ⟨h1, h2⟩ k y p hy hp
   cases k with
   | zero => simp at hy hp; subst hy hp; exact h1
   | succ k => exact h2 k y p (by simpa using hy) (by simpa using hp)
  intro h
  exact ⟨h 0 x q rfl rfl, fun k y p hy hp => h (k + 1) y p (by simpa using hy) (by simpa using hp)⟩
 | [], _ :: _, h => by simp at h
 | _ :: _, [], h => by simp at h
section
variable {l : Qs} {v : Qt}
theorem QcH (hk : l.k = 6 ∨ l.k = 7) (h1 : v.N = 0) (h2 : v.nm = []) (h3 : v.es = []) (h4 : v.ps.length = l.ps.length) (h5 : J3 v.ps l.ps = true) : Qv v l = true := by
 rw [Qw]
 rcases hk with hk | hk <;> rw [hk] <;> simp [XI, h1, h2, h3, h4, h5]
theorem QjF (hk : l.k = 4) (h1 : v.N = 0) (h2 : v.ps = []) (h3 : v.es = []) (h4 : Qn v.nm = true) (h5 : ∀ s ∈ v.nm, Yk l.nm s = true) : Qv v l = true := by
 rw [Qw, hk]; simp [XI, Xu, h1, h2, h3, h4]; exact h5
theorem Qeo (hk : l.k = 10) (h1 : v.N = 0) (h2 : v.ps = []) (h3 : v.es = []) (h4 : Qn v.nm = true) (h5 : ∀ s ∈ v.nm, Yk l.nm s = true) (h6 : Y1 l.rs v.nm = true) : Qv v l = true := by
 rw [Qw, hk]; simp [XI, Xu, h1, h2, h3, h4, h6]; exact h5
theorem Qkc (hk : l.k = 5) {q : Qs} {r : List Qs} (hp : l.ps = q :: r) (h1 : v.N = 0) (h2 : v.es = []) (h3 : v.nm.length = v.ps.length) (h4 : Qn v.nm = true) (h5 : ∀ s ∈ v.nm, Yk l.nm s = true) (h6 : ∀ p ∈ v.ps, Qv p q = true ∧ p ≠ Qm q) : Qv v l = true := by
 rw [Qw, hk, hp]
 simp [XI, Xu, We, QaF, h1, h2, h3, h4]
 refine ⟨h5, fun p hp => ⟨(h6 p hp).1, ?_⟩⟩
 have := (h6 p hp).2
 rw [Bool.eq_false_iff]
 exact fun e => this ((Jm _ _).1 e)
end
theorem Qnp (l : Qs) : (Qm l).N = if l.k == 2 then l.lo else if l.k == 3 then l.hi else 0 := by rw [Xz]; rfl
theorem Qhl (l : Qs) : (Qm l).nm = [] := by rw [Xz]; rfl
theorem Qfa (l : Qs) : (Qm l).es = [] := by rw [Xz]; rfl
theorem Qe8 (l : Qs) : (Qm l).ps = if l.k == 6 || l.k == 7 then l.ps.map Qm else [] := by rw [Xz]; rfl
theorem Qj0 {l : Qs} (h : Ys l) : ∀ r ∈ l.rs, r.i ≠ [] := fun r hr e => by
 have h := h.four.2.1
 unfold Xp at h
 split at h
 ·rename_i h1
  simp only [Bool.and_eq_true, List.all_eq_true] at h1
  have := h1.2 r hr
  simp [YD, e] at this
 ·cases h
theorem Qmm (l : Qs) (hO : Ys l) (ih : ∀ q ∈ l.ps, Qv (Qm q) q = true) : Qv (Qm l) l = true := by
 have hN := Qnp l
 have hnm := Qhl l
 have hes := Qfa l
 have hps := Qe8 l
 have hr := QiJ hO
 rcases Qcf hO with hk | hk | hk | hk | hk | hk | hk | hk | hk | hk
 ·rw [Qw, hk]; simp [hk] at hN hps; simp [XI, hN, hnm, hes, hps]
 ·rw [Qw, hk]; simp [hk] at hN hps; simp [XI, hN, hnm, hes, hps, hr]
 ·rw [Qw, hk]; simp [hk] at hN hps; simp [XI, hN, hnm, hes, hps, hr]
 ·simp [hk] at hN hps; exact QjF hk hN hps hes (by rw [hnm]; rfl) (by rw [hnm]; simp)
 ·obtain ⟨q, hq⟩ := Y5 hO hk
  simp [hk] at hN hps; exact Qkc hk hq hN hes (by rw [hnm, hps]; rfl) (by rw [hnm]; rfl) (by rw [hnm]; simp) (by rw [hps]; simp)
 ·simp [hk] at hN hps
  refine QcH (.inl hk) hN hnm hes (by rw [hps]; simp) ?_
  rw [hps, Qat (by simp)]
  intro k x q hx hq
  rw [List.getElem?_map, hq] at hx
  cases hx
  exact ih q (List.mem_of_getElem? hq)
 ·simp [hk] at hN hps
  refine QcH (.inr hk) hN hnm hes (by rw [hps]; simp) ?_
  rw [hps, Qat (by simp)]
  intro k x q hx hq
  rw [List.getElem?_map, hq] at hx
  cases hx
  exact ih q (List.mem_of_getElem? hq)
 ·rw [Qw, hk]; simp [hk] at hN hps; simp [XI, hN, hnm, hes, hps]
 ·rw [Qw, hk]; simp [hk] at hN hps; simp [XI, hN, hnm, hes, hps]; rfl
 simp [hk] at hN hps
 refine Qeo hk hN hps hes (by rw [hnm]; rfl) (by rw [hnm]; simp) ?_
 rw [hnm]
 unfold Y1
 rw [List.all_eq_true]
 intro r hr
 have := Qj0 hO r hr
 unfold Wj
 have h2 : Js r.i [] = false := by
  rw [Bool.eq_false_iff]
  intro e
  cases hi : r.i with
  | nil => exact this hi
  | cons a b => have := Yn.1 e a (by rw [hi]; simp); simp at this
 rw [h2]; rfl
theorem Qae (l : Qs) (hO : Ys l) : Qv (Qm l) l = true := Qmm l hO (fun q hq => Qae q (hO.part q hq))
termination_by l
decreasing_by exact Qs.sizeOf_ps ‹_›
theorem QlV (l : Qs) (hO : Ys l) (ih : ∀ q ∈ l.ps, ∀ x, Qv x q = true → Q0 q (Qm q) x = true) (a : Qt) (ha : Qv a l = true) : Q0 l (Qm l) a = true := by
 have hN := Qnp l
 have hnm := Qhl l
 have hes := Qfa l
 have hps := Qe8 l
 have hb := Qae l hO
 rcases Qcf hO with hk | hk | hk | hk | hk | hk | hk | hk | hk | hk
 ·simp [hk] at hN
  refine (Jg (.inl hk)).2 ?_
  rw [Qw, hk] at ha
  simp at ha
  rcases ha.2 with h | h <;> omega
 ·simp [hk] at hN
  refine (Jg (.inr hk)).2 ?_
  rw [Qw, hk] at ha
  simp at ha
  omega
 ·simp [hk] at hN
  refine (Kt hk).2 ?_
  rw [Qw, hk] at ha
  simp at ha
  omega
 ·exact (JD (.inl hk)).2 (by rw [hnm]; simp)
 ·obtain ⟨q, hq⟩ := Y5 hO hk
  obtain ⟨-, -, h3, h4, -, -⟩ := Yp ha hk hq
  obtain ⟨-, -, g3, -, -, -⟩ := Yp hb hk hq
  exact (Kf hk hq g3 h3 h4).2 (by rw [hnm]; simp)
 ·obtain ⟨-, -, -, h4, h5⟩ := Jo ha (.inl hk)
  obtain ⟨-, -, -, g4, -⟩ := Jo hb (.inl hk)
  simp [hk] at hps
  rw [Yj hk, JS g4 h4]
  intro k q x y e1 e2 e3
  rw [hps, List.getElem?_map, e1] at e2
  cases e2
  exact ih q (List.mem_of_getElem? e1) y (Xt h5 e3 e1)
 ·obtain ⟨p, q, hp⟩ := YH hO.shape hk
  obtain ⟨y1, y2, eb, v1, v2⟩ := JL ha hk hp
  simp [hk, hp] at hps
  refine (JU hk hp hps eb).2 ?_
  by_cases e : Qm p = y1
  ·exact .inl ⟨e, ih q (by rw [hp]; simp) y2 v2⟩
  exact .inr ⟨e, ih p (by rw [hp]; simp) y1 v1⟩
 ·simp [hk] at hN
  exact (J1 hk).2 (.inl hN)
 ·obtain ⟨-, -, -, h⟩ := YV ha hk
  obtain ⟨-, -, -, g⟩ := YV hb hk
  exact (Kb hk g h).2 (by rw [hes]; simp)
 exact (JD (.inr hk)).2 (by rw [hnm]; simp)
theorem Ks (l : Qs) (hO : Ys l) (a : Qt) (ha : Qv a l = true) : Q0 l (Qm l) a = true := QlV l hO (fun q hq x hx => Ks q (hO.part q hq) x hx) a ha
termination_by l
decreasing_by exact Qs.sizeOf_ps ‹_›
theorem W8 : ∀ (n : Nat) (l : Qs), SizeOf.sizeOf l < n → Ys l → chainB l = true → ∀ a b, Qv a l = true → Qv b l = true → Q0 l a b = true ∨ Q0 l b a = true
 | 0, _, h, _, _, _, _, _, _ => absurd h (Nat.not_lt_zero _)
 | n + 1, l, hn, hO, hc, a, b, ha, hb => by
  rcases Qcf hO with hk | hk | hk | hk | hk | hk | hk | hk | hk | hk
  ·rw [Jg (.inl hk), Jg (.inl hk)]; omega
  ·rw [Jg (.inr hk), Jg (.inr hk)]; omega
  ·rw [Kt hk, Kt hk]; omega
  ·rw [Ji (by rw [hk]; rfl) (by rw [hk]; rfl) (by rw [hk]; rfl) (.inl (by rw [hk]; rfl))] at hc; cases hc
  ·rw [Ji (by rw [hk]; rfl) (by rw [hk]; rfl) (by rw [hk]; rfl) (.inl (by rw [hk]; rfl))] at hc; cases hc
  ·rw [Ji (by rw [hk]; rfl) (by rw [hk]; rfl) (by rw [hk]; rfl) (.inl (by rw [hk]; rfl))] at hc; cases hc
  ·obtain ⟨p, q, hp⟩ := YH hO.shape hk
   rw [Qab (by rw [hk]; rfl) hp, Bool.and_eq_true] at hc
   obtain ⟨x1, x2, ea, u1, u2⟩ := JL ha hk hp
   obtain ⟨y1, y2, eb, v1, v2⟩ := JL hb hk hp
   have mp : p ∈ l.ps := by rw [hp]; simp
   have mq : q ∈ l.ps := by rw [hp]; simp
   rw [JU hk hp ea eb, JU hk hp eb ea]
   by_cases e : x1 = y1
   ·rcases W8 n q (by have := Qs.sizeOf_ps mq; omega) (hO.part q mq) hc.2 x2 y2 u2 v2 with h | h
    ·exact .inl (.inl ⟨e, h⟩)
    exact .inr (.inl ⟨e.symm, h⟩)
   rcases W8 n p (by have := Qs.sizeOf_ps mp; omega) (hO.part p mp) hc.1 x1 y1 u1 v1 with h | h
   ·exact .inl (.inr ⟨e, h⟩)
   exact .inr (.inr ⟨fun e' => e e'.symm, h⟩)
  ·rw [Ji (by rw [hk]; rfl) (by rw [hk]; rfl) (by rw [hk]; rfl) (.inl (by rw [hk]; rfl))] at hc; cases hc
  ·rw [Ji (by rw [hk]; rfl) (by rw [hk]; rfl) (by rw [hk]; rfl) (.inl (by rw [hk]; rfl))] at hc; cases hc
  rw [Ji (by rw [hk]; rfl) (by rw [hk]; rfl) (by rw [hk]; rfl) (.inl (by rw [hk]; rfl))] at hc; cases hc
theorem QiO {l : Qs} (hO : Ys l) (hk : l.k = 7) {p q : Qs} (hp : l.ps = [p, q]) {x y : Qt} (hx : Qv x p = true) (hy : Qv y p = true) : Q0 p x y = true ∨ Q0 p y x = true := by
 have hc := hO.four.2.2.2
 unfold Xq X4 at hc
 rw [hk, hp] at hc
 simp at hc
 exact W8 _ p (Nat.lt_succ_self _) (hO.part p (by rw [hp]; simp)) hc x y hx hy
theorem Qjw {l : Qs} (hO : Ys l) : (∀ s ∈ l.nm, Xb s = true) ∧ (l.k ≠ 6 → Qn l.nm = true) ∧ ∀ r ∈ l.rs, Qn r.i = true ∧ (∀ x ∈ r.i, x ∈ l.nm) ∧ r.t ∈ l.nm := by
 have h := hO.four.2.1
 unfold Xp at h
 split at h
 ·rename_i h1
  simp only [Bool.and_eq_true, List.all_eq_true, Bool.or_eq_true, beq_iff_eq] at h1
  obtain ⟨⟨h1, h2⟩, h3⟩ := h1
  refine ⟨fun s hs => ?_, fun hk => h2.resolve_left hk, fun r hr => ?_⟩
  ·obtain ⟨i, hi⟩ := List.mem_iff_getElem?.1 hs
   have h4 := h1 (s, i) (List.mem_of_getElem? (by simp [hi] : l.nm.zipIdx[i]? = some (s, i)))
   unfold Ke at h4
   rw [Bool.and_eq_true] at h4
   exact h4.1
  have h4 := h3 r hr
  simp only [YD, Bool.and_eq_true] at h4
  exact ⟨h4.1.1.2, Yn.1 h4.1.2, Yf.1 h4.2⟩
 cases h
theorem Qfs {ls : List Qs} {xs ys : List Qt} (h1 : xs.length = ls.length) (h2 : ys.length = ls.length) (h : ∀ (k : Nat) (q : Qs) (x y : Qt), ls[k]? = some q → xs[k]? = some x → ys[k]? = some y → Q0 q x y = true) : QaB ls xs ys = true := (JS h1 h2).2 h
theorem Qni {ls : List Qs} {xs ys : List Qt} (h1 : xs.length = ls.length) (h2 : ys.length = ls.length) {k : Nat} {z : Qt} {f : Qs → Qt → Qt → Qt} {zs : List Qt} (hz : zs[k]? = some z) (hl : zs.length = ls.length) (hf : ∀ q x y, ls[k]? = some q → xs[k]? = some x → ys[k]? = some y → zs[k]? = some (f q x y)) :
  ∃ q x y, ls[k]? = some q ∧ xs[k]? = some x ∧ ys[k]? = some y ∧ z = f q x y := by
 have hk := (List.getElem?_eq_some_iff.1 hz).1
 obtain ⟨q, hq⟩ := Qr (show k < ls.length by omega)
 obtain ⟨x, hx⟩ := Qr (show k < xs.length by omega)
 obtain ⟨y, hy⟩ := Qr (show k < ys.length by omega)
 refine ⟨q, x, y, hq, hx, hy, ?_⟩
 have := hf q x y hq hx hy
 rw [hz] at this
 exact Option.some.inj this
end Go.Proofs.YtnkkokmmeplbgaaGreat
namespace Go.Proofs.YtnkkokmmeplbgaaGreat
open Go.RowKit
theorem fcb {f : FuncId} {args : List AV} {b c : Bool} (h : FC Tryz.prog f args (bl b)) (e : b = c) : FC Tryz.prog f args (bl c) := e ▸ h
structure On (l : Qs) (a b c : Qt) : Prop where
 hc : QK l = 0
 ha : Qv a l = true
 hb : Qv b l = true
 hd : Qv c l = true
theorem On.refl {l : Qs} {a b c : Qt} (h : On l a b c) : Qc9 l a a = true := by rw [Wn h.hc h.ha h.ha]; exact KC l (Xg h.hc) a h.ha
theorem On.anti {l : Qs} {a b c : Qt} (h : On l a b c) (h1 : Qc9 l a b = true) (h2 : Qc9 l b a = true) : eqV a b = true := by
 rw [Wn h.hc h.ha h.hb] at h1
 rw [Wn h.hc h.hb h.ha] at h2
 exact (Jm _ _).2 (WV l (Xg h.hc) a b h.ha h.hb h1 h2)
theorem On.trans {l : Qs} {a b c : Qt} (h : On l a b c) (h1 : Qc9 l a b = true) (h2 : Qc9 l b c = true) : Qc9 l a c = true := by
 rw [Wn h.hc h.ha h.hb] at h1
 rw [Wn h.hc h.hb h.hd] at h2
 rw [Wn h.hc h.ha h.hd]
 exact Qew l (Xg h.hc) a b c h.ha h.hb h.hd h1 h2
end Go.Proofs.YtnkkokmmeplbgaaGreat
