/-
  Contracts: the example of the chapter.
-/
import Derived.Test.YtaecccdkjmipeaaGreatB13
import Derived.Test.YtaecccdkjmipeaaGreatA4
import Derived.Test.YtaecccdkjmipeaaGreatA6
import Derived.Test.YtaecccdkjmipeaaGreatB11
import Derived.Test.YtaecccdkjmipeaaGreatRows
import Derived.Deep.Slices
import Derived.Deep.Fields
import Derived.ChangeSame
import Derived.SliceStrings
import Derived.ProofKit
namespace Go.Proofs.YtaecccdkjmipeaaGreat
set_option maxRecDepth 100000
set_option maxHeartbeats 1000000
open Go.RowKit
theorem QnD (l : Qs) (vs : List Qn) (hF : KL l vs = 0 → QnL l vs) : FC Tryz.prog 96 [.agg (QF l), JM vs] (.tup [.agg (Xm (Qao l vs).1), i64 (Qao l vs).2]) := by
 refine YV [.c 4 30 4 true, .t 5] ⟨⟨inferInstance, rfl⟩, trivial⟩ Tryz.func96 rfl rfl 32 Tryz.ntmps96 (Nat.le_of_ble_eq_true rfl) ?_
 intro E hN
 refine YJ ?_; refine zP (Qc (Qpd l vs) rfl rfl rfl) ?_; refine Xz ?_
 refine zq ?_ ?_ <;> intro h7
 ·
  have h2 : ¬ KL l vs = 0 := by simpa using h7
  refine Xz ?_; refine QG ?_
  change (resY _ _).bind AV.fzt = some _
  refine Yj rfl ?_
  rw [Qao, if_neg h2]; rfl
 have h2 : KL l vs = 0 := by simpa using h7
 have hc := QpA h2
 have hbt : (KZ l).1 = QL l := by rw [KZ, if_pos hc.1]
 refine QJ ?_; refine zP (Qc (QqP l) rfl rfl rfl) ?_; refine YJ ?_
 refine Qi (fun x : {k : Nat // k ≤ (vs).length ∧ True} => ⟨[(2, .ptr 0 0), (4, .ptr 1 0), (7, .ptr 2 0), (19, JM vs), (20, i64 vs.length), (21, i64 (x.1 : Nat))], [(0, .var 26 (QF l)), (1, .var 30 [i64 0, .p (.slice none 0 0), .p (.slice none 0 0), .p (.slice none 0 0)]), (2, .var 30 (Xm (QbA l (vs.take x.1))))], 3⟩) (fun x => (vs).length - x.1) (⟨0, Nat.zero_le _, by simp⟩) ?_ ?_
 ·
  exact Qa rfl (QR ⟨(QE (by simp)), rfl, (Xu trivial)⟩) ⟨rfl, rfl, rfl, rfl, rfl, rfl, (QuE (by rw [hbt]; rfl)), rfl, rfl, trivial⟩
 rintro ⟨k, hk, hg⟩
 dsimp only
 refine JK 19 rfl (fun hl19 => ?_)
 refine QA ?_
 refine zq ?_ ?_ <;> intro h21
 rotate_left
 ·
  have hge : (vs).length ≤ k := by simpa using h21
  rw [List.take_of_length_le hge]
  refine QJ ?_
  refine zP (Qc (Qix (QbA l vs) (by have := ((hF h2).2.2 vs.length (Nat.le_refl _)).2; rw [List.take_length] at this; exact this.up (by decide))) rfl rfl rfl) ?_
  refine QC ?_; refine QG ?_
  change (resY _ _).bind AV.fzt = some _
  refine Yj rfl ?_
  rw [Qao, if_pos h2]
 have hlt : k < (vs).length := by simpa using h21
 obtain ⟨x, hx⟩ := Qk hlt
 refine QA ?_; refine zP (Qh rfl rfl rfl k rfl _ (Xk hx) rfl) ?_; refine XJ ?_
 refine zP (Qc (Qot l (QP hc.1) (hF h2).1 (QbA l (vs.take k)) x ((hF h2).2.2 k hk).1 (hc.2 x (List.mem_of_getElem? hx)) ((hF h2).2.2 k hk).2 ((hF h2).2.1 x (List.mem_of_getElem? hx))) rfl rfl rfl) ?_
 refine QA ?_; refine Qb ?_
 exact ⟨⟨k + 1, hlt, trivial⟩, Qa rfl (QR (Xu ⟨(QE (by dsimp only; omega)), rfl, trivial⟩)) ⟨rfl, rfl, rfl, rfl, rfl, rfl, (QuE (QgT hx).symm), rfl, rfl, trivial⟩, by dsimp only; omega⟩
theorem Qoi (l : Qs) (a b : Qn) (hF : KL l [a, b] = 0 → QnL l [a, b]) : FC Tryz.prog 59 [.agg (QF l), .agg (Xm a), .agg (Xm b)] (.tup [.agg (Xm (Qao l [a, b]).1), i64 (Qao l [a, b]).2]) := by
 refine YV [.c 6 30 4 true, .t 7] ⟨⟨inferInstance, rfl⟩, trivial⟩ Tryz.func59 rfl rfl 15 Tryz.ntmps59 (Nat.le_of_ble_eq_true rfl) ?_
 intro E hN
 refine Wi ?_; refine zP (Qi6 rfl rfl rfl rfl (by exact rfl) (by decide) (by decide) (QqR a b)) ?_
 refine zP (Qc (QnD l [a, b] hF) rfl rfl rfl) ?_; refine QA ?_; refine QG ?_
 change (resY _ _).bind AV.fzt = some _
 refine Yj rfl ?_
 rfl
end Go.Proofs.YtaecccdkjmipeaaGreat
namespace Go.Proofs.YtaecccdkjmipeaaGreat
open Go.RowKit
section
variable {α : Type} {c : α → α → Int} {a b : List α} {k : Nat}
end
def QdN (es : List En) : Nat := (es.map (fun e => 1 + e.1.length)).sum
mutual
def Qea : Qn → Nat
 | .mk _ nm ps es => 1 + nm.length + QdN es + Qee ps
def Qee : List Qn → Nat
 | [] => 0
 | a :: r => Qea a + Qee r
end
theorem Qjj (x : Qn) : Qea x = 1 + x.nm.length + QdN x.es + Qee x.ps := by
 cases x with
 | mk N nm ps es => rw [Qea]; rfl
theorem QfR (a b : List En) : QdN (a ++ b) = QdN a + QdN b := by simp [QdN]
theorem QpB {es : List En} {k : Nat} {e : En} (h : es[k]? = some e) : QdN (es.take (k + 1)) = QdN (es.take k) + (1 + e.1.length) := by
 obtain ⟨hk, rfl⟩ := List.getElem?_eq_some_iff.1 h
 rw [List.take_succ_eq_append_getElem hk, QfR]
 simp [QdN]
theorem Qup (es : List En) (k : Nat) : QdN (es.take k) ≤ QdN es := by
 have h := QfR (es.take k) (es.drop k)
 rw [List.take_append_drop] at h
 omega
def Qvj (x : Qn) (m : Int) : Bool := decide ((Qea x : Int) ≤ m)
end Go.Proofs.YtaecccdkjmipeaaGreat
namespace Go.Proofs.YtaecccdkjmipeaaGreat
set_option maxRecDepth 100000
open Go.RowKit
theorem Qrt {es : List En} {e : En} (h : e ∈ es) : 1 + e.1.length ≤ QdN es := by
 obtain ⟨k, hk⟩ := List.mem_iff_getElem?.1 h
 have := QpB hk
 have := Qup es (k + 1)
 omega
theorem Qlm : ∀ es : List En, es.length ≤ QdN es
 | [] => Nat.zero_le _
 | e :: r => by
  have := Qlm r
  have h : QdN (e :: r) = (1 + e.1.length) + QdN r := by simp [QdN]
  rw [h, List.length_cons]; omega
theorem Qmy (v : Qn) : 1 ≤ Qea v := by rw [Qjj]; omega
theorem Qh4 : ∀ {ps : List Qn} {p : Qn}, p ∈ ps → Qea p ≤ Qee ps
 | q :: r, p, h => by
  rw [Qee]
  rcases List.mem_cons.1 h with rfl | h
  ·omega
  have := Qh4 h; omega
theorem QhA : ∀ ps : List Qn, ps.length ≤ Qee ps
 | [] => Nat.zero_le _
 | p :: r => by have := QhA r; have := Qmy p; rw [Qee, List.length_cons]; omega
theorem Ql4 (n : Nat) (hn : n ≤ 65) (v : Qn) (h : Qea v ≤ n) : SmV n v := by
 have e := Qjj v
 have h1 := Qlm v.es
 have h2 := QhA v.ps
 exact .mk v (by omega) (by omega) (by omega) (fun x hx => by have := Qrt hx; omega) (fun p hp => Ql4 n hn p (by have := Qh4 hp; omega))
termination_by v
decreasing_by exact Qn.sizeOf_ps ‹_›
theorem QrM {v : Qn} (h : Qvj v 40 = true) : SmV 40 v := Ql4 40 (by decide) v (by have := of_decide_eq_true h; omega)
theorem Qjo {l : Qs} {vs : List Qn} (hc : Q0 l = 0) (h : (vs.all fun v => Qr v l) = true) : KL l vs = 0 := by
 unfold KL Qdq
 have : vs.all (Qbt l) = true := by
  rw [List.all_eq_true] at h ⊢
  intro v hv
  simp [Qbt, hc, h v hv]
 simp [hc, this]
theorem QfT {l : Qs} {vs : List Qn} {v : Qn} (hc : KL l vs = 0) (h : QbA l vs = v) : Qao l vs = (v, 0) := by rw [Qao, if_pos hc, h]
open Go.RowKit Go.ChangeShapes Go.WideShapes Go.ChangeAt
def Qgj (w : World) : Nat → Nat → Prop := fun b _ => b < w.heap.size
section
variable {H : Type} {enc : TypeId × Value → H} {P : Program} {w : World} {base : Nat} {spare : Nat → Bool} {held : Bool}
theorem Qq0 {t e : TypeId} {fuel : Nat} {v : Value} {x : DataW H × List MemPlace} (ht : P.underlying t = some (.slice e)) (k : Nat) (he : P.cellsOf e = k) (hk : 0 < k) (h : DataW.trod enc P w base spare held fuel t [v] = some x) :
  ∃ A n c, v = .slice A n c ∧ n ≤ c ∧ c ≤ maxLen ∧ (0 < n → ∃ b off, A = some ⟨b, off, none⟩ ∧ b < w.heap.size ∧ ∀ j, j < n → ∃ ds y m, m < fuel ∧ ds.length = k ∧ (∀ i u, ds[i]? = some u → w.cell? ⟨b, off + j * k + i, none⟩ = some u) ∧ DataW.trod enc P w base spare held m e ds = some y) := by
 rcases DataW.trod_slice ht h with ⟨hcs, _⟩ | ⟨a, len, cap, elems, rest, n, hfu, hcs, -, hb, hl, hm, hlen, hel, -, -⟩
 ·simp only [List.cons.injEq, and_true] at hcs
  exact ⟨none, 0, 0, hcs, Nat.le_refl _, Nat.zero_le _, fun h => absurd h (by omega)⟩
 simp only [List.cons.injEq, and_true] at hcs
 refine ⟨some a, len, cap, hcs, hl, hm, fun h0 => ?_⟩
 rw [he] at hel
 have hat : ∀ j, j < len → ∃ ds y, ds.length = k ∧ (∀ i u, ds[i]? = some u → w.cell? ((a.add (j * k)).add i) = some u) ∧ DataW.trod enc P w base spare held n e ds = some y := by
  intro j hj
  have key := hel j hj
  rw [List.getElem?_eq_getElem (by omega)] at key
  obtain ⟨cs', h1, h2⟩ := Option.bind_eq_some_iff.1 key
  obtain ⟨_, hcl, hat⟩ := World.cells?_some h1
  exact ⟨cs', _, hcl, fun i u hu => by
   have hi := (List.getElem?_eq_some_iff.1 hu).1
   rw [hat i (by omega), hu], h2⟩
 obtain ⟨ds, y, hdl, hc, -⟩ := hat 0 h0
 have hc0 := hc 0 _ (List.getElem?_eq_getElem (by omega))
 obtain ⟨b, off, spot⟩ := a
 have hsp : spot = none := by simpa [Addr.add] using World.cell?_spot hc0
 subst hsp
 have ha : ∀ o j, (⟨b, o, none⟩ : Addr).add j = ⟨b, o + j, none⟩ := by intro o j; unfold Addr.add; split <;> simp_all
 refine ⟨b, off, rfl, World.block_lt_of_cell? w _ (by simpa [Addr.add] using hc0), fun j hj => ?_⟩
 obtain ⟨ds, y, hdl, hc, ht⟩ := hat j hj
 refine ⟨ds, y, n, by omega, hdl, fun i u hu => ?_, ht⟩
 have := hc i u hu
 rw [ha, ha] at this
 exact this
def RdC (w : World) (cs : List Value) (xs : List AV) : Prop := ∀ (i : Nat) (u : Value) (a : AV), cs[i]? = some u → xs[i]? = some a → FR w (Qgj w) u a
theorem QeM {t e : TypeId} {fuel : Nat} {v : Value} {x : DataW H × List MemPlace} (ht : P.underlying t = some (.slice e)) (k : Nat) (he : P.cellsOf e = k) (hk : 0 < k) (h : DataW.trod enc P w base spare held fuel t [v] = some x)
  {α : Type} (f : α → List AV) (hf : ∀ z, (f z).length = k) (hel : ∀ m ds y, m < fuel → ds.length = k → DataW.trod enc P w base spare held m e ds = some y → ∃ z : α, RdC w ds (f z)) : ∃ l : List α, FR w (Qgj w) v (.sl (l.map f) none) := by
 obtain ⟨A, n, c, rfl, h1, h2, h3⟩ := Qq0 ht k he hk h
 by_cases hn : 0 < n
 ·obtain ⟨b, off, rfl, hb, hat⟩ := h3 hn
  obtain ⟨l, hl, hp⟩ := QbU (p := fun j (z : α) => ∀ i a, (f z)[i]? = some a → ∃ u, w.cell? ⟨b, off + j * k + i, none⟩ = some u ∧ FR w (Qgj w) u a) n (fun j hj => by
   obtain ⟨ds, y, m, hm, hdl, hcl, htr⟩ := hat j hj
   obtain ⟨z, hz⟩ := hel m ds y hm hdl htr
   refine ⟨z, fun i a ha => ?_⟩
   have hi : i < ds.length := by have := (List.getElem?_eq_some_iff.1 ha).1; rw [hf] at this; omega
   exact ⟨ds[i], hcl i _ (List.getElem?_eq_getElem hi), hz i _ a (List.getElem?_eq_getElem hi) ha⟩)
  have key : ∀ (j : Nat) (e : List AV) (i : Nat) (x : AV), (l.map f)[j]? = some e → e[i]? = some x → ∃ u, w.cell? ⟨b, off + j * k + i, none⟩ = some u ∧ FR w (Qgj w) u x := fun j e i x hj hi => by
   rw [List.getElem?_map] at hj
   cases hz : l[j]? with
   | none => rw [hz] at hj; cases hj
   | some z => rw [hz] at hj; cases hj; exact hp j z hz i x hi
  refine ⟨l, .sl _ n c k _ b off (fun j i => (w.cell? ⟨b, off + j * k + i, none⟩).getD undef) (by simp [hl]) h1 h2 (fun _ => rfl) (fun j e hj => ?_) (fun j e i x hj hi => ?_) (fun j e i x hj hi => ?_)⟩
  ·rw [List.getElem?_map] at hj
   cases hz : l[j]? with
   | none => rw [hz] at hj; cases hj
   | some z => rw [hz] at hj; cases hj; exact hf z
  ·obtain ⟨u, hu, -⟩ := key j e i x hj hi
   exact ⟨hb, by rw [hu]; rfl⟩
  obtain ⟨u, hu, hfr⟩ := key j e i x hj hi
  rw [hu]; exact hfr
 obtain rfl : n = 0 := by omega
 exact ⟨[], .nil _ _ _ _ h2⟩
theorem Qut (s : ByteArray) : (⟨s.data.toList.toArray⟩ : ByteArray) = s := by cases s; simp
theorem Qr9 (s : ByteArray) : sv s.data.toList = .p (.string s) := by show AV.p (.string ⟨s.data.toList.toArray⟩) = _; rw [Qut]
end
section
variable {H : Type} {enc : TypeId × Value → H} {w : World} {base : Nat} {spare : Nat → Bool} {held : Bool}
theorem Qrs {fuel : Nat} {v : Value} {x : DataW H × List MemPlace} (h : DataW.trod enc Tryz.prog w base spare held fuel 22 [v] = some x) : ∃ l : List Nm, FR w (Qgj w) v (XU l) :=
 QeM Tryz.underlying22 1 (by kernel_rfl) (by decide) h WS (fun _ => rfl) (fun m ds y _ hdl ht => by
  obtain ⟨s, hs, -, -⟩ := DataW.trod_string Tryz.underlying9 ht
  subst hs
  refine ⟨s.data.toList, fun i u a hi ha => ?_⟩
  match i, hi, ha with
  | 0, hi, ha =>
   simp [WS] at hi ha
   subst hi ha
   rw [Qr9]; exact .p _
  | i + 1, hi, _ => simp at hi)
theorem Qqv (y : Qs) : (WB y).length = 6 := by rw [Qgu]; rfl
theorem Qwf {fuel : Nat} {v : Value} {x : DataW H × List MemPlace} (h : DataW.trod enc Tryz.prog w base spare held fuel 24 [v] = some x) : ∃ l : List Ru, FR w (Qgj w) v (rus l) :=
 QeM Tryz.underlying24 2 (by kernel_rfl) (by decide) h ruC (fun _ => rfl) (fun m ds y _ hdl ht => by
  obtain ⟨u0, u1, rfl⟩ : ∃ a b, ds = [a, b] := by
   match ds, hdl with
   | [a, b], _ => exact ⟨a, b, rfl⟩
  obtain ⟨xs, k, -, rfl, hl, hlen, hf⟩ := DataW.trod_struct Tryz.underlying133 ht
  have f0 := hf 0 _ rfl
  have f1 := hf 1 _ rfl
  have hx0 : xs[0]? = some (xs[0]'(by rw [hlen]; decide)) := List.getElem?_eq_getElem _
  have hx1 : xs[1]? = some (xs[1]'(by rw [hlen]; decide)) := List.getElem?_eq_getElem _
  obtain ⟨ts, hts⟩ := Qrs (v := u0) (f0.trans hx0)
  obtain ⟨s, hs, -, -⟩ := DataW.trod_string Tryz.underlying9 (f1.trans hx1)
  have hs' : [u1] = [Value.string s] := hs
  simp only [List.cons.injEq, and_true] at hs'
  subst hs'
  refine ⟨⟨ts, s.data.toList⟩, fun i u a hi ha => ?_⟩
  match i, hi, ha with
  | 0, hi, ha => simp [ruC] at hi ha; subst hi ha; exact hts
  | 1, hi, ha => simp [ruC] at hi ha; subst hi ha; rw [Qr9]; exact .p _
  | i + 2, hi, _ => simp at hi)
theorem QvH : ∀ (fuel : Nat) (cs : List Value) (x : DataW H × List MemPlace), DataW.trod enc Tryz.prog w base spare held fuel 26 cs = some x → cs.length = 6 ∧ ∃ y : Qs, RdC w cs (QF y) := by
 intro fuel
 induction fuel using Nat.strongRecOn with
 | _ fuel ih =>
  intro cs x h
  obtain ⟨xs, k, hfu, -, hl, hlen, hf⟩ := DataW.trod_struct Tryz.underlying26 h
  have h6 : cs.length = 6 := hl.trans (by kernel_rfl)
  refine ⟨h6, ?_⟩
  obtain ⟨u0, u1, u2, u3, u4, u5, rfl⟩ : ∃ a b c d e f, cs = [a, b, c, d, e, f] := by
   match cs, h6 with
   | [a, b, c, d, e, f], _ => exact ⟨a, b, c, d, e, f, rfl⟩
  have f0 := hf 0 _ rfl
  have f1 := hf 1 _ rfl
  have f2 := hf 2 _ rfl
  have f3 := hf 3 _ rfl
  have f4 := hf 4 _ rfl
  have f5 := hf 5 _ rfl
  have hx0 : xs[0]? = some (xs[0]'(by rw [hlen]; decide)) := List.getElem?_eq_getElem _
  have hx1 : xs[1]? = some (xs[1]'(by rw [hlen]; decide)) := List.getElem?_eq_getElem _
  have hx2 : xs[2]? = some (xs[2]'(by rw [hlen]; decide)) := List.getElem?_eq_getElem _
  have hx3 : xs[3]? = some (xs[3]'(by rw [hlen]; decide)) := List.getElem?_eq_getElem _
  have hx4 : xs[4]? = some (xs[4]'(by rw [hlen]; decide)) := List.getElem?_eq_getElem _
  have hx5 : xs[5]? = some (xs[5]'(by rw [hlen]; decide)) := List.getElem?_eq_getElem _
  obtain ⟨K, hK, -⟩ := DataW.trod_int Tryz.underlying3 (f0.trans hx0)
  have hK' : [u0] = [Value.int .i64 K] := hK
  obtain ⟨lo, hlo, -⟩ := DataW.trod_int Tryz.underlying2 (f1.trans hx1)
  have hlo' : [u1] = [Value.int .i64 lo] := hlo
  obtain ⟨hi, hhi, -⟩ := DataW.trod_int Tryz.underlying2 (f2.trans hx2)
  have hhi' : [u2] = [Value.int .i64 hi] := hhi
  simp only [List.cons.injEq, and_true] at hK' hlo' hhi'
  subst hK' hlo' hhi'
  obtain ⟨nm, hnm⟩ := Qrs (v := u3) (f3.trans hx3)
  obtain ⟨rs, hrs⟩ := Qwf (v := u5) (f5.trans hx5)
  subst hfu
  obtain ⟨ps, hps⟩ := QeM (v := u4) Tryz.underlying23 6 (by kernel_rfl) (by decide) (f4.trans hx4) WB Qqv (fun m ds y hm hdl ht => by
   obtain ⟨-, z, hz⟩ := ih m (by omega) ds y ht
   exact ⟨z, by rw [Qgu]; exact hz⟩)
  refine ⟨.mk K lo hi nm ps rs, fun i u a hi ha => ?_⟩
  match i, hi, ha with
  | 0, hi, ha => simp at hi ha; subst hi ha; exact .p _
  | 1, hi, ha => simp at hi ha; subst hi ha; exact .p _
  | 2, hi, ha => simp at hi ha; subst hi ha; exact .p _
  | 3, hi, ha => simp at hi ha; subst hi ha; exact hnm
  | 4, hi, ha => simp at hi ha; subst hi ha; exact hps
  | 5, hi, ha => simp at hi ha; subst hi ha; exact hrs
  | i + 6, hi, _ => simp at hi
theorem QtZ {cs : Array Value} {xs : List AV} (hl : cs.toList.length = xs.length) (h : RdC w cs.toList xs) : FR w (Qgj w) (.agg cs) (.agg xs) := by
 have := FR.agg (w := w) (S := Qgj w) cs.toList xs hl h
 simpa using this
end
theorem QsD {P : Program} {f : FuncId} {args : List AV} (h : FC P f args (bl true)) (W : World) (vs : List Value) (hl : vs.length = args.length) (hr : ∀ (i : Nat) (v : Value) (x : AV), vs[i]? = some v → args[i]? = some x → FR W (Qgj W) v x) :
  Calls P f vs.toArray W fun e W' => e = .returned (.bool true) ∧ Below W.heap.size W W' := by
 refine (h W (Qgj W) vs (fun _ _ h => h) ⟨hl, hr⟩).mono ?_
 rintro e w' ⟨v, S', rfl, hb, -, -, hfr⟩
 cases hfr
 exact ⟨rfl, hb.toBelow⟩
end Go.Proofs.YtaecccdkjmipeaaGreat
