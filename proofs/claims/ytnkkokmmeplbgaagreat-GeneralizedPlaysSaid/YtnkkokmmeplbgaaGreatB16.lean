/-
  Contracts: the example of the chapter.
-/
import Derived.Test.YtnkkokmmeplbgaaGreatB15
import Derived.Test.YtnkkokmmeplbgaaGreatB14
import Derived.Test.YtnkkokmmeplbgaaGreatA4
import Derived.Test.YtnkkokmmeplbgaaGreatRows
import Derived.Deep.Slices
import Derived.Deep.Fields
import Derived.ChangeSame
import Derived.SliceStrings
import Derived.ProofKit
namespace Go.Proofs.YtnkkokmmeplbgaaGreat
set_option maxRecDepth 100000
open Go.RowKit
theorem QrZ {es : List En} {e : En} (h : e ∈ es) : 1 + e.1.length ≤ Qbm es := by
 obtain ⟨k, hk⟩ := List.mem_iff_getElem?.1 h
 have := Qh3 hk
 have := Qn0 es (k + 1)
 omega
theorem Qk7 : ∀ es : List En, es.length ≤ Qbm es
 | [] => Nat.zero_le _
 | e :: r => by
  have := Qk7 r
  have h : Qbm (e :: r) = (1 + e.1.length) + Qbm r := by simp [Qbm]
  rw [h, List.length_cons]; omega
theorem QmA (v : Qp) : 1 ≤ K4 v := by rw [Qft]; omega
theorem Qhb : ∀ {ps : List Qp} {p : Qp}, p ∈ ps → K4 p ≤ Yu ps
 | q :: r, p, h => by
  rw [Yu]
  rcases List.mem_cons.1 h with rfl | h
  ·omega
  have := Qhb h; omega
theorem Qg8 : ∀ ps : List Qp, ps.length ≤ Yu ps
 | [] => Nat.zero_le _
 | p :: r => by have := Qg8 r; have := QmA p; rw [Yu, List.length_cons]; omega
theorem QlN (n : Nat) (hn : n ≤ 65) (v : Qp) (h : K4 v ≤ n) : SmV n v := by
 have e := Qft v
 have h1 := Qk7 v.es
 have h2 := Qg8 v.ps
 exact .mk v (by omega) (by omega) (by omega) (fun x hx => by have := QrZ hx; omega) (fun p hp => QlN n hn p (by have := Qhb hp; omega))
termination_by v
decreasing_by exact Qp.sizeOf_ps ‹_›
theorem Qkd {v : Qp} (h : Qcq v 40 = true) : SmV 40 v := QlN 40 (by decide) v (by have := of_decide_eq_true h; omega)
theorem Qie {l : Qv} {vs : List Qp} (hc : QB l = 0) (h : (vs.all fun v => Qw v l) = true) : J2 l vs = 0 := by
 unfold J2 Qaj
 have : vs.all (XR l) = true := by
  rw [List.all_eq_true] at h ⊢
  intro v hv
  simp [XR, hc, h v hv]
 simp [hc, this]
theorem QkU {l : Qv} {vs : List Qp} {v : Qp} (hc : J2 l vs = 0) (h : YL l vs = v) : QbF l vs = (v, 0) := by rw [QbF, if_pos hc, h]
open Go.RowKit Go.ChangeShapes Go.WideShapes Go.ChangeAt
def QeT (w : World) : Nat → Nat → Prop := fun b _ => b < w.heap.size
section
variable {H : Type} {enc : TypeId × Value → H} {P : Program} {w : World} {base : Nat} {spare : Nat → Bool} {held : Bool}
theorem Qr4 {t e : TypeId} {fuel : Nat} {v : Value} {x : DataW H × List MemPlace} (ht : P.underlying t = some (.slice e)) (k : Nat) (he : P.cellsOf e = k) (hk : 0 < k) (h : DataW.trod enc P w base spare held fuel t [v] = some x) :
  ∃ A n c, v = .slice A n c ∧ n ≤ c ∧ c ≤ maxLen ∧ (0 < n → ∃ b off, A = some ⟨b, off, none⟩ ∧ b < w.heap.size ∧ ∀ j, j < n → ∃ ds y m, m < fuel ∧ ds.length = k ∧ (∀ i u, ds[i]? = some u → w.cell? ⟨b, off + j * k + i, none⟩ = some u) ∧ DataW.trod enc P w base spare held m e ds = some y) := by
 rcases DataW.trod_slice ht h with ⟨hcs, _⟩ | ⟨a, len, cap, elems, rest, n, hfu, hcs, -, hb, hl, hm, hlen, hel, -, -⟩
 ·simp only [List.cons.injEq, and_true] at hcs
  exact ⟨none, 0, 0, hcs, Nat.le_refl _, Nat.zero_le _, fun h => absurd h (by omega)⟩
 simp only [List.cons.injEq, and_true] at hcs
 refine ⟨some a, len, cap, hcs, hl, hm, fun h0 => ?_⟩;rw [he] at hel
 have hat : ∀ j, j < len → ∃ ds y, ds.length = k ∧ (∀ i u, ds[i]? = some u → w.cell? ((a.add (j * k)).add i) = some u) ∧ DataW.trod enc P w base spare held n e ds = some y := by
  intro j hj
  have key := hel j hj
  rw [List.getElem?_eq_getElem (by omega)] at key;obtain ⟨cs', h1, h2⟩ := Option.bind_eq_some_iff.1 key;obtain ⟨_, hcl, hat⟩ := World.cells?_some h1
  exact ⟨cs', _, hcl, fun i u hu => by
   have hi := (List.getElem?_eq_some_iff.1 hu).1
   rw [hat i (by omega), hu], h2⟩
 obtain ⟨ds, y, hdl, hc, -⟩ := hat 0 h0
 have hc0 := hc 0 _ (List.getElem?_eq_getElem (by omega))
 obtain ⟨b, off, spot⟩ := a
 have hsp : spot = none := by simpa [Addr.add] using World.cell?_spot hc0
 subst hsp
 have ha : ∀ o j, (⟨b, o, none⟩ : Addr).add j = ⟨b, o + j, none⟩ := by intro o j; unfold Addr.add; split <;> simp_all
 refine ⟨b, off, rfl, World.block_lt_of_cell? w _ (by simpa [Addr.add] using hc0), fun j hj => ?_⟩;obtain ⟨ds, y, hdl, hc, ht⟩ := hat j hj;refine ⟨ds, y, n, by omega, hdl, fun i u hu => ?_, ht⟩
 have := hc i u hu
 rw [ha, ha] at this;exact this
def RdC (w : World) (cs : List Value) (xs : List AV) : Prop := ∀ (i : Nat) (u : Value) (a : AV), cs[i]? = some u → xs[i]? = some a → FR w (QeT w) u a
theorem Qci {t e : TypeId} {fuel : Nat} {v : Value} {x : DataW H × List MemPlace} (ht : P.underlying t = some (.slice e)) (k : Nat) (he : P.cellsOf e = k) (hk : 0 < k) (h : DataW.trod enc P w base spare held fuel t [v] = some x)
  {α : Type} (f : α → List AV) (hf : ∀ z, (f z).length = k) (hel : ∀ m ds y, m < fuel → ds.length = k → DataW.trod enc P w base spare held m e ds = some y → ∃ z : α, RdC w ds (f z)) : ∃ l : List α, FR w (QeT w) v (.sl (l.map f) none) := by
 obtain ⟨A, n, c, rfl, h1, h2, h3⟩ := Qr4 ht k he hk h
 by_cases hn : 0 < n
 ·obtain ⟨b, off, rfl, hb, hat⟩ := h3 hn
  obtain ⟨l, hl, hp⟩ := QbN (p := fun j (z : α) => ∀ i a, (f z)[i]? = some a → ∃ u, w.cell? ⟨b, off + j * k + i, none⟩ = some u ∧ FR w (QeT w) u a) n (fun j hj => by
   obtain ⟨ds, y, m, hm, hdl, hcl, htr⟩ := hat j hj;obtain ⟨z, hz⟩ := hel m ds y hm hdl htr;refine ⟨z, fun i a ha => ?_⟩
   have hi : i < ds.length := by have := (List.getElem?_eq_some_iff.1 ha).1; rw [hf] at this; omega
   exact ⟨ds[i], hcl i _ (List.getElem?_eq_getElem hi), hz i _ a (List.getElem?_eq_getElem hi) ha⟩)
  have key : ∀ (j : Nat) (e : List AV) (i : Nat) (x : AV), (l.map f)[j]? = some e → e[i]? = some x → ∃ u, w.cell? ⟨b, off + j * k + i, none⟩ = some u ∧ FR w (QeT w) u x := fun j e i x hj hi => by
   rw [List.getElem?_map] at hj
   cases hz : l[j]? with
   | none => rw [hz] at hj; cases hj
   | some z => rw [hz] at hj; cases hj; exact hp j z hz i x hi
  refine ⟨l, .sl _ n c k _ b off (fun j i => (w.cell? ⟨b, off + j * k + i, none⟩).getD undef) (by simp [hl]) h1 h2 (fun _ => rfl) (fun j e hj => ?_) (fun j e i x hj hi => ?_) (fun j e i x hj hi => ?_)⟩
  ·rw [List.getElem?_map] at hj
   cases hz : l[j]? with
   | none => rw [hz] at hj; cases hj
   | some z => rw [hz] at hj; cases hj; exact hf z
  ·obtain ⟨u, hu, -⟩ := key j e i x hj hi
   exact ⟨hb, by rw [hu]; rfl⟩
  obtain ⟨u, hu, hfr⟩ := key j e i x hj hi
  rw [hu]; exact hfr
 obtain rfl : n = 0 := by omega
 exact ⟨[], .nil _ _ _ _ h2⟩
theorem Qsi (s : ByteArray) : (⟨s.data.toList.toArray⟩ : ByteArray) = s := by cases s; simp
theorem QmB (s : ByteArray) : sv s.data.toList = .p (.string s) := by show AV.p (.string ⟨s.data.toList.toArray⟩) = _; rw [Qsi]
end
section
variable {H : Type} {enc : TypeId × Value → H} {w : World} {base : Nat} {spare : Nat → Bool} {held : Bool}
theorem Qmt {fuel : Nat} {v : Value} {x : DataW H × List MemPlace} (h : DataW.trod enc Tryz.prog w base spare held fuel 22 [v] = some x) : ∃ l : List Nm, FR w (QeT w) v (XS l) :=
 Qci Tryz.underlying22 1 (by kernel_rfl) (by decide) h Wz (fun _ => rfl) (fun m ds y _ hdl ht => by
  obtain ⟨s, hs, -, -⟩ := DataW.trod_string Tryz.underlying9 ht
  subst hs
  refine ⟨s.data.toList, fun i u a hi ha => ?_⟩
  match i, hi, ha with
  | 0, hi, ha =>
   simp [Wz] at hi ha
   subst hi ha
   rw [QmB]; exact .p _
  | i + 1, hi, _ => simp at hi)
theorem Quw {fuel : Nat} {v : Value} {x : DataW H × List MemPlace} (h : DataW.trod enc Tryz.prog w base spare held fuel 147 [v] = some x) : ∃ l : List Tk, FR w (QeT w) v (tks l) :=
 Qci Tryz.underlying147 2 (by kernel_rfl) (by decide) h tkC (fun _ => rfl) (fun m ds y _ hdl ht => by
  obtain ⟨u0, u1, rfl⟩ : ∃ a b, ds = [a, b] := by
   match ds, hdl with
   | [a, b], _ => exact ⟨a, b, rfl⟩
  obtain ⟨xs, k, -, rfl, hl, hlen, hf⟩ := DataW.trod_struct Tryz.underlying192 ht
  have f0 := hf 0 _ rfl
  have f1 := hf 1 _ rfl
  have hx0 : xs[0]? = some (xs[0]'(by rw [hlen]; decide)) := List.getElem?_eq_getElem _
  have hx1 : xs[1]? = some (xs[1]'(by rw [hlen]; decide)) := List.getElem?_eq_getElem _
  obtain ⟨p, hp, -⟩ := DataW.trod_int Tryz.underlying3 (f0.trans hx0);obtain ⟨q, hq, -⟩ := DataW.trod_int Tryz.underlying2 (f1.trans hx1)
  have hp' : [u0] = [Value.int .i64 p] := hp
  have hq' : [u1] = [Value.int .i64 q] := hq
  simp only [List.cons.injEq, and_true] at hp' hq'
  subst hp' hq'
  refine ⟨(p, q), fun i u a hi ha => ?_⟩
  match i, hi, ha with
  | 0, hi, ha => simp [tkC] at hi ha; subst hi ha; exact .p _
  | 1, hi, ha => simp [tkC] at hi ha; subst hi ha; exact .p _
  | i + 2, hi, _ => simp at hi)
theorem Qvp {fuel : Nat} {v : Value} {x : DataW H × List MemPlace} (h : DataW.trod enc Tryz.prog w base spare held fuel 28 [v] = some x) : ∃ l : List En, FR w (QeT w) v (WA l) :=
 Qci Tryz.underlying28 2 (by kernel_rfl) (by decide) h K3 (fun _ => rfl) (fun m ds y _ hdl ht => by
  obtain ⟨u0, u1, rfl⟩ : ∃ a b, ds = [a, b] := by
   match ds, hdl with
   | [a, b], _ => exact ⟨a, b, rfl⟩
  obtain ⟨xs, k, -, rfl, hl, hlen, hf⟩ := DataW.trod_struct Tryz.underlying149 ht
  have f0 := hf 0 _ rfl
  have f1 := hf 1 _ rfl
  have hx0 : xs[0]? = some (xs[0]'(by rw [hlen]; decide)) := List.getElem?_eq_getElem _
  have hx1 : xs[1]? = some (xs[1]'(by rw [hlen]; decide)) := List.getElem?_eq_getElem _
  obtain ⟨ts, hts⟩ := Quw (v := u0) (f0.trans hx0);obtain ⟨s, hs, -, -⟩ := DataW.trod_string Tryz.underlying9 (f1.trans hx1)
  have hs' : [u1] = [Value.string s] := hs
  simp only [List.cons.injEq, and_true] at hs'
  subst hs'
  refine ⟨(ts, s.data.toList), fun i u a hi ha => ?_⟩
  match i, hi, ha with
  | 0, hi, ha => simp [K3] at hi ha; subst hi ha; exact hts
  | 1, hi, ha => simp [K3] at hi ha; subst hi ha; rw [QmB]; exact .p _
  | i + 2, hi, _ => simp at hi)
theorem QqT (y : Qp) : (KV y).length = 4 := by rw [W0]; rfl
theorem Qrk (y : Qv) : (QlU y).length = 6 := by rw [QjK]; rfl
theorem QrM : ∀ (fuel : Nat) (cs : List Value) (x : DataW H × List MemPlace), DataW.trod enc Tryz.prog w base spare held fuel 30 cs = some x → cs.length = 4 ∧ ∃ y : Qp, RdC w cs (QF y) := by
 intro fuel
 induction fuel using Nat.strongRecOn with
 | _ fuel ih =>
  intro cs x h;obtain ⟨xs, k, hfu, -, hl, hlen, hf⟩ := DataW.trod_struct Tryz.underlying30 h
  have h4 : cs.length = 4 := hl.trans (by kernel_rfl)
  refine ⟨h4, ?_⟩
  obtain ⟨u0, u1, u2, u3, rfl⟩ : ∃ a b c d, cs = [a, b, c, d] := by
   match cs, h4 with
   | [a, b, c, d], _ => exact ⟨a, b, c, d, rfl⟩
  have f0 := hf 0 _ rfl
  have f1 := hf 1 _ rfl
  have f2 := hf 2 _ rfl
  have f3 := hf 3 _ rfl
  have hx0 : xs[0]? = some (xs[0]'(by rw [hlen]; decide)) := List.getElem?_eq_getElem _
  have hx1 : xs[1]? = some (xs[1]'(by rw [hlen]; decide)) := List.getElem?_eq_getElem _
  have hx2 : xs[2]? = some (xs[2]'(by rw [hlen]; decide)) := List.getElem?_eq_getElem _
  have hx3 : xs[3]? = some (xs[3]'(by rw [hlen]; decide)) := List.getElem?_eq_getElem _
  obtain ⟨N, hN, -⟩ := DataW.trod_int Tryz.underlying2 (f0.trans hx0)
  have hN' : [u0] = [Value.int .i64 N] := hN
  simp only [List.cons.injEq, and_true] at hN'
  subst hN'
  obtain ⟨nm, hnm⟩ := Qmt (v := u1) (f1.trans hx1);obtain ⟨es, hes⟩ := Qvp (v := u3) (f3.trans hx3)
  subst hfu
  obtain ⟨ps, hps⟩ := Qci (v := u2) Tryz.underlying27 4 (by kernel_rfl) (by decide) (f2.trans hx2) KV QqT (fun m ds y hm hdl ht => by
   obtain ⟨-, z, hz⟩ := ih m (by omega) ds y ht
   exact ⟨z, by rw [W0]; exact hz⟩)
  refine ⟨.mk N nm ps es, fun i u a hi ha => ?_⟩
  match i, hi, ha with
  | 0, hi, ha => simp at hi ha; subst hi ha; exact .p _
  | 1, hi, ha => simp at hi ha; subst hi ha; exact hnm
  | 2, hi, ha => simp at hi ha; subst hi ha; exact hps
  | 3, hi, ha => simp at hi ha; subst hi ha; exact hes
  | i + 4, hi, _ => simp at hi
theorem Qvs {fuel : Nat} {v : Value} {x : DataW H × List MemPlace} (h : DataW.trod enc Tryz.prog w base spare held fuel 24 [v] = some x) : ∃ l : List Ru, FR w (QeT w) v (rus l) :=
 Qci Tryz.underlying24 2 (by kernel_rfl) (by decide) h ruC (fun _ => rfl) (fun m ds y _ hdl ht => by
  obtain ⟨u0, u1, rfl⟩ : ∃ a b, ds = [a, b] := by
   match ds, hdl with
   | [a, b], _ => exact ⟨a, b, rfl⟩
  obtain ⟨xs, k, -, rfl, hl, hlen, hf⟩ := DataW.trod_struct Tryz.underlying188 ht
  have f0 := hf 0 _ rfl
  have f1 := hf 1 _ rfl
  have hx0 : xs[0]? = some (xs[0]'(by rw [hlen]; decide)) := List.getElem?_eq_getElem _
  have hx1 : xs[1]? = some (xs[1]'(by rw [hlen]; decide)) := List.getElem?_eq_getElem _
  obtain ⟨ts, hts⟩ := Qmt (v := u0) (f0.trans hx0);obtain ⟨s, hs, -, -⟩ := DataW.trod_string Tryz.underlying9 (f1.trans hx1)
  have hs' : [u1] = [Value.string s] := hs
  simp only [List.cons.injEq, and_true] at hs'
  subst hs'
  refine ⟨⟨ts, s.data.toList⟩, fun i u a hi ha => ?_⟩
  match i, hi, ha with
  | 0, hi, ha => simp [ruC] at hi ha; subst hi ha; exact hts
  | 1, hi, ha => simp [ruC] at hi ha; subst hi ha; rw [QmB]; exact .p _
  | i + 2, hi, _ => simp at hi)
theorem Qu0 : ∀ (fuel : Nat) (cs : List Value) (x : DataW H × List MemPlace), DataW.trod enc Tryz.prog w base spare held fuel 26 cs = some x → cs.length = 6 ∧ ∃ y : Qv, RdC w cs (Q2 y) := by
 intro fuel
 induction fuel using Nat.strongRecOn with
 | _ fuel ih =>
  intro cs x h;obtain ⟨xs, k, hfu, -, hl, hlen, hf⟩ := DataW.trod_struct Tryz.underlying26 h
  have h6 : cs.length = 6 := hl.trans (by kernel_rfl)
  refine ⟨h6, ?_⟩
  obtain ⟨u0, u1, u2, u3, u4, u5, rfl⟩ : ∃ a b c d e f, cs = [a, b, c, d, e, f] := by
   match cs, h6 with
   | [a, b, c, d, e, f], _ => exact ⟨a, b, c, d, e, f, rfl⟩
  have f0 := hf 0 _ rfl
  have f1 := hf 1 _ rfl
  have f2 := hf 2 _ rfl
  have f3 := hf 3 _ rfl
  have f4 := hf 4 _ rfl
  have f5 := hf 5 _ rfl
  have hx0 : xs[0]? = some (xs[0]'(by rw [hlen]; decide)) := List.getElem?_eq_getElem _
  have hx1 : xs[1]? = some (xs[1]'(by rw [hlen]; decide)) := List.getElem?_eq_getElem _
  have hx2 : xs[2]? = some (xs[2]'(by rw [hlen]; decide)) := List.getElem?_eq_getElem _
  have hx3 : xs[3]? = some (xs[3]'(by rw [hlen]; decide)) := List.getElem?_eq_getElem _
  have hx4 : xs[4]? = some (xs[4]'(by rw [hlen]; decide)) := List.getElem?_eq_getElem _
  have hx5 : xs[5]? = some (xs[5]'(by rw [hlen]; decide)) := List.getElem?_eq_getElem _
  obtain ⟨K, hK, -⟩ := DataW.trod_int Tryz.underlying3 (f0.trans hx0)
  have hK' : [u0] = [Value.int .i64 K] := hK
  obtain ⟨lo, hlo, -⟩ := DataW.trod_int Tryz.underlying2 (f1.trans hx1)
  have hlo' : [u1] = [Value.int .i64 lo] := hlo
  obtain ⟨hi, hhi, -⟩ := DataW.trod_int Tryz.underlying2 (f2.trans hx2)
  have hhi' : [u2] = [Value.int .i64 hi] := hhi
  simp only [List.cons.injEq, and_true] at hK' hlo' hhi'
  subst hK' hlo' hhi'
  obtain ⟨nm, hnm⟩ := Qmt (v := u3) (f3.trans hx3);obtain ⟨rs, hrs⟩ := Qvs (v := u5) (f5.trans hx5)
  subst hfu
  obtain ⟨ps, hps⟩ := Qci (v := u4) Tryz.underlying23 6 (by kernel_rfl) (by decide) (f4.trans hx4) QlU Qrk (fun m ds y hm hdl ht => by
   obtain ⟨-, z, hz⟩ := ih m (by omega) ds y ht
   exact ⟨z, by rw [QjK]; exact hz⟩)
  refine ⟨.mk K lo hi nm ps rs, fun i u a hi ha => ?_⟩
  match i, hi, ha with
  | 0, hi, ha => simp at hi ha; subst hi ha; exact .p _
  | 1, hi, ha => simp at hi ha; subst hi ha; exact .p _
  | 2, hi, ha => simp at hi ha; subst hi ha; exact .p _
  | 3, hi, ha => simp at hi ha; subst hi ha; exact hnm
  | 4, hi, ha => simp at hi ha; subst hi ha; exact hps
  | 5, hi, ha => simp at hi ha; subst hi ha; exact hrs
  | i + 6, hi, _ => simp at hi
theorem QtS {cs : Array Value} {xs : List AV} (hl : cs.toList.length = xs.length) (h : RdC w cs.toList xs) : FR w (QeT w) (.agg cs) (.agg xs) := by
 have := FR.agg (w := w) (S := QeT w) cs.toList xs hl h
 simpa using this
end
theorem Qq5 {P : Program} {f : FuncId} {args : List AV} (h : FC P f args (bl true)) (W : World) (vs : List Value) (hl : vs.length = args.length) (hr : ∀ (i : Nat) (v : Value) (x : AV), vs[i]? = some v → args[i]? = some x → FR W (QeT W) v x) :
  Calls P f vs.toArray W fun e W' => e = .returned (.bool true) ∧ Below W.heap.size W W' := by
 refine (h W (QeT W) vs (fun _ _ h => h) ⟨hl, hr⟩).mono ?_;rintro e w' ⟨v, S', rfl, hb, -, -, hfr⟩
 cases hfr
 exact ⟨rfl, hb.toBelow⟩
end Go.Proofs.YtnkkokmmeplbgaaGreat
