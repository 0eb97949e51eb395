/-
  A row of one's own that an element of another row of one's o
-/
import Derived.Test.YtnkkokmmeplbgaaGreatA8
import Derived.Scope
import Derived.Test.YtnkkokmmeplbgaaGreatA2
import Derived.Test.YtnkkokmmeplbgaaGreatA3
import Derived.Test.YtnkkokmmeplbgaaGreatT5
import Derived.Test.YtnkkokmmeplbgaaGreatA5
import Derived.ChangeKeysEq
import Derived.OrdersHeld
namespace Go.Proofs.YtnkkokmmeplbgaaGreat
open Go.RowKit
def Wm (ρ : List (Nat × Nat)) : Qs → Qs
 | .var t cs => .var t (cs.map (KL ρ))
 | .tok t k n => .tok t k n
 | .arr t k es => .arr t k (es.map fun e => e.map (KL ρ))
def Qs.cells : Qs → List AV
 | .var _ cs => cs
 | .tok _ _ _ => []
 | .arr _ _ es => es.flatten
def QpB (Hin : List (Nat × Qs)) : AV → Bool
 | .agg cs | .tup cs | .fn _ cs => cs.all (Qbg Hin)
 | x => Qbg Hin x
structure Qut (Hout : List (Nat × Qs)) (m : Nat) (c c' : Cx) : Prop where
 os : c'.w.os = c.w.os
 tape : c'.w.tape = c.w.tape
 output : c'.w.output = c.w.output
 drawn : c.w.drawn ≤ c'.w.drawn
 size : c.w.heap.size ≤ c'.w.heap.size
 frame : ∀ b, b < c.w.heap.size → (∀ o v, c.V o = some v → Xj v ≠ some b) → c'.w.heap[b]? = c.w.heap[b]?
 le : c.le c'
 K : ∀ o, c'.K o ↔ c.K o ∨ o < m
 Snew : ∀ b off, c'.S b off → c.S b off ∨ (∃ o v, c.V o = some v ∧ Xj v = some b) ∨ c.w.heap.size ≤ b
 Ssz : ∀ b off, c'.S b off → b < c'.w.heap.size
 live : ∀ o ob, Qj Hout o = some ob → c'.K o ∧ ∃ v, c'.V o = some v ∧ OR c' v ob ∧ ∀ b, Xj v = some b → (∃ o' v', c.V o' = some v' ∧ Xj v' = some b) ∨ c.w.heap.size ≤ b
 dead : ∀ o, Qj Hout o = none → c'.V o = none
 apart : ∀ o o' v v' b, c'.V o = some v → c'.V o' = some v' → Xj v = some b → Xj v' = some b → o = o'
def GX (P : Program) (f : FuncId) (args : List AV) (Hin : List (Nat × Qs)) (res : AV) (Hout : List (Nat × Qs)) (m : Nat) : Prop :=
 ∀ (c : Cx) (vs : List Value), GIn Hin c → vs.length = args.length → (∀ (i : Nat) (v : Value) (x : AV), vs[i]? = some v → args[i]? = some x → VR c v x) →
  Calls P f vs.toArray c.w fun e w' => ∃ v c', e = .returned v ∧ c'.w = w' ∧ Qut Hout m c c' ∧ VR c' v res
def AV.nt : AV → AV
 | .sl es _ => .sl es none
 | x => x
def AV.ntt : AV → AV
 | .tup xs => .tup (xs.map AV.nt)
 | x => x.nt
theorem VR.nt {c : Cx} {v : Value} {x : AV} (h : VR c v x) : VR c v x.nt := by
 cases x with
 | sl es tk => exact .fr _ _ h.sl_inv
 | _ => exact h
theorem VR.ntt {c : Cx} {v : Value} {x : AV} (h : VR c v x) : VR c v x.ntt := by
 have many : ∀ {vs : List Value} {cs : List AV}, vs.length = cs.length → (∀ (i : Nat) (v : Value) (x : AV), vs[i]? = some v → cs[i]? = some x → VR c v x) → VR c (.tuple vs.toArray) (.tup (cs.map AV.nt)) := fun {vs cs} hl h =>
  .tup vs _ (by simpa using hl) fun i v x hi hj => by
   rw [List.getElem?_map] at hj
   cases hx : cs[i]? with
   | none => rw [hx] at hj; cases hj
   | some y => rw [hx] at hj; cases hj; exact (h i v y hi hx).nt
 cases x with
 | tup cs => cases h with
  | fr _ _ h => cases h with | tup vs _ hl h => exact many hl (fun i v x h1 h2 => .fr _ _ (h i v x h1 h2))
  | tup vs _ hl h => exact many hl h
 | _ => exact h.nt
def retX (ts : List Nat) (res : AV) (Hout : List (Nat × Qs)) (m : Nat) : Exit → St → Prop
 | .normal, st | .ret, st => (Q7 st ts).ntt = res ∧ okId m res = true ∧ Nat.ble st.nx m = true ∧ Nat.ble m Qe = true ∧ ∀ o ob, Qj Hout o = some ob → Qj st.H o = some ob ∧ (Nat.blt o m || Nat.ble Qe o) = true ∧ JO m ob = true
 | _, _ => False
theorem QK {P : Program} {f : FuncId} {fn : Func} {code : Code} {args : List AV} {res : AV} {Hin Hout : List (Nat × Qs)} {m : Nat} (ts : List Nat) (hf : P.funcs[f]? = some fn) (hb : fn.body = some code) (hres : fn.results = (ts.map ResultVar.tmp).toArray) (N : Nat) (hN : fn.ntmps = N) (hle : args.length ≤ N)
  (h : ∀ E : Jp, E.N = N → Ym P E code (retX ts res Hout m) ⟨QaH 0 args, Hin, 0⟩) : GX P f args Hin res Hout m := by
 intro c0 vs hg hvl hv;refine calls_of_wp hf hb ?_
 let E : Jp := ⟨N, c0.w, c0.S, fun b => c0.w.heap.size ≤ b ∨ ∃ o v, c0.V o = some v ∧ Xj v = some b, fun _ h => .inl h, c0.K, hg.big, c0.V⟩
 have hr : Js E c0 { tmps := vs.toArray ++ Array.replicate (fn.ntmps - vs.toArray.size) undef, defers := [] } ⟨QaH 0 args, Hin, 0⟩ := {
  defers := rfl
  size := by show (vs.toArray ++ Array.replicate (fn.ntmps - vs.toArray.size) undef).size = N; simp; omega
  tmps := fun i => by
   show VR _ ((vs.toArray ++ Array.replicate (fn.ntmps - vs.toArray.size) undef).getD i undef) ((Qj (QaH 0 args) i).getD .bot)
   rw [Wv]
   simp only [Nat.zero_le, if_true, Nat.sub_zero]
   rcases Nat.lt_or_ge i args.length with hlt | hge
   ·have hlt' : i < vs.length := by omega
    have e : (vs.toArray ++ Array.replicate (fn.ntmps - vs.toArray.size) undef).getD i undef = vs[i] := by
     simp [Array.getElem?_append, hlt']
    rw [e, List.getElem?_eq_getElem hlt];exact hv i _ _ (List.getElem?_eq_getElem hlt') (List.getElem?_eq_getElem hlt)
   rw [List.getElem?_eq_none hge];exact .fr _ _ (.bot _)
  live := fun o ob h => by
   obtain ⟨h1, v, h2, h3⟩ := hg.live o ob h;exact ⟨h1, v, h2, h3, fun b hb => .inr ⟨o, v, h2, hb⟩⟩
  dead := hg.dead
  apart := hg.apart
  ids := fun _ h => .inr h
  nxB := Nat.zero_le _
  kbs := fun _ h => h
  V0 := fun _ _ => .refl _
  Ssz := hg.Ssz
  os := rfl, tape := rfl, output := rfl, drawn := Nat.le_refl _, grown := Nat.le_refl _
  frame := fun _ _ _ => rfl
  S0 := fun _ _ h => ⟨h, rfl⟩
  Snew := fun _ _ h => .inl h }
 refine wp_mono (h E rfl _ _ hr) ?_;rintro e a' w' ⟨c, st, rfl, hr', hq⟩
 have fin : ((Q7 st ts).ntt = res ∧ okId m res = true ∧ Nat.ble st.nx m = true ∧ Nat.ble m Qe = true ∧ ∀ o ob, Qj Hout o = some ob → Qj st.H o = some ob ∧ (Nat.blt o m || Nat.ble Qe o) = true ∧ JO m ob = true) →
   a'.defers = [] ∧ ∃ v, (results fn a'.tmps).run P c.w = .ok v c.w ∧ ∃ v' c', Ending.returned v = .returned v' ∧ c'.w = c.w ∧ Qut Hout m c0 c' ∧ VR c' v' res := by
  rintro ⟨hr2, hok, hnx, hmB, hout⟩
  have hnx := Nat.le_of_ble_eq_true hnx
  have hmB := Nat.le_of_ble_eq_true hmB
  obtain ⟨V', hV'⟩ : ∃ V' : Nat → Option Value, V' = fun o => if (Qj Hout o).isSome then c.V o else none := ⟨_, rfl⟩
  have hVs : ∀ o v, V' o = some v → c.V o = some v ∧ (Qj Hout o).isSome = true := fun o v h => by
   rw [hV'] at h;dsimp only at h
   split at h
   ·exact ⟨h, by assumption⟩
   cases h
  have hK : ∀ o, c.K o → o < m ∨ Qe ≤ o → c0.K o ∨ o < m := fun o hk ho => by
   rcases hr'.ids o hk with h1 | h1
   ·exact .inr (by omega)
   exact .inl h1
  have hle : c0.le ⟨c.w, c.S, V', fun o => c0.K o ∨ o < m⟩ := ⟨fun b off hs => hr'.S0 b off hs, fun _ h => .inl h, fun o hk => by
   refine (hr'.V0 o hk).trans ?_
   show Qbk (c.V o) (V' o)
   rw [hV'];dsimp only
   split
   ·exact .refl _
   exact .inr (.inl rfl)⟩
  have or2 : ∀ {o}, (Nat.blt o m || Nat.ble Qe o) = true → o < m ∨ Qe ≤ o := fun h => by
   rcases Bool.or_eq_true _ _ ▸ h with h | h
   ·exact .inl (Nat.le_of_ble_eq_true h)
   exact .inr (Nat.le_of_ble_eq_true h)
  refine ⟨hr'.defers, _, WJ ts hres a'.tmps c.w, _, ⟨c.w, c.S, V', fun o => c0.K o ∨ o < m⟩, rfl, rfl, ?_, ?_⟩
  ·exact {
    os := hr'.os, tape := hr'.tape, output := hr'.output, drawn := hr'.drawn, size := hr'.grown
    frame := fun b hb hn => hr'.frame b hb (fun hw => by
     rcases hw with hw | ⟨o, v, h1, h2⟩
     ·have hw : c0.w.heap.size ≤ b := hw
      have hb : b < c0.w.heap.size := hb
      omega
     exact hn o v h1 h2)
    le := hle
    K := fun _ => Iff.rfl
    Snew := fun b off hs => by
     rcases hr'.Snew b off hs with h1 | h1 | h1
     ·exact .inl h1
     ·exact .inr (.inr h1)
     exact .inr (.inl h1)
    Ssz := hr'.Ssz
    live := fun o ob ho => by
     obtain ⟨h1, h2, h3⟩ := hout o ob ho;obtain ⟨hk, v, hv, hor, hwr⟩ := hr'.live o ob h1;refine ⟨hK o hk (or2 h2), v, by rw [hV']; simp [ho, hv], ?_, fun b hb => ?_⟩
     ·exact OR.okId (c := c) (c' := ⟨c.w, c.S, V', fun o => c0.K o ∨ o < m⟩) rfl rfl hK (fun o v h => (hVs o v h).1) hor h3
     rcases hwr b hb with h4 | h4
     ·exact .inr h4
     exact .inl h4
    dead := fun o ho => by show V' o = none; rw [hV']; simp [ho]
    apart := fun o o' v v' b h1 h2 h3 h4 => hr'.apart o o' v v' b (hVs o v h1).1 (hVs o' v' h2).1 h3 h4 }
  have hvr : VR c (Qqv a'.tmps ts) (Q7 st ts) := by
   have many : ∀ ts : List Nat, VR c (.tuple (ts.map fun t => a'.tmps.getD t undef).toArray) (.tup (ts.map st.get)) := fun ts => by
    refine .tup _ _ (by simp) fun i v x hi hj => ?_
    rw [List.getElem?_map] at hi hj
    cases hq : ts[i]? with
    | none => rw [hq] at hi; cases hi
    | some t => rw [hq] at hi hj; cases hi; cases hj; exact hr'.tmps t
   match ts with
   | [] => exact many []
   | [t] => exact hr'.tmps t
   | t :: u :: ts => exact many (t :: u :: ts)
  have h9 := hvr.ntt
  rw [hr2] at h9;exact VR.okId (c := c) (c' := ⟨c.w, c.S, V', fun o => c0.K o ∨ o < m⟩) rfl rfl hK (fun o v h => (hVs o v h).1) h9 hok
 cases e with
 | normal => exact fin hq
 | ret => exact fin hq
 | _ => exact hq.elim
section
variable {P : Program} {E : Jp} {c : Cx} {a : Act} {st : St}
theorem VR.backV {ρ : List (Nat × Nat)} {c' c0' : Cx} {Hin : List (Nat × Qs)} (hw : c'.w = c0'.w) (hS : c'.S = c0'.S) (hK : ∀ o, c0'.K o → c'.K (rn ρ o)) (hV : ∀ o v, (Qj Hin o).isSome = true → c'.V (rn ρ o) = some v → c0'.V o = some v) {v : Value} {x : AV} (h : VR c0' v x) (hx : QpB Hin x = true) : VR c' v (QcD ρ x) := by
 have many : ∀ {vs : List Value} {cs : List AV}, cs.all (Qbg Hin) = true → (∀ (i : Nat) (v : Value) (x : AV), vs[i]? = some v → cs[i]? = some x → VR c0' v x) → ∀ (i : Nat) (v : Value) (x : AV), vs[i]? = some v → (cs.map (KL ρ))[i]? = some x → VR c' v x :=
  fun {vs cs} hc h i v x hi hj => by
   rw [List.getElem?_map] at hj
   cases hx : cs[i]? with
   | none => rw [hx] at hj; cases hj
   | some y => rw [hx] at hj; cases hj; exact (h i v y hi hx).back1 hw hS hK hV (List.all_eq_true.1 hc _ (List.mem_of_getElem? hx))
 cases x with
 | agg cs => cases h with
  | fr _ _ h => cases h with | agg vs _ hl h => exact .agg vs _ (by simpa using hl) (many hx (fun i v x h1 h2 => .fr _ _ (h i v x h1 h2)))
  | agg vs _ hl h => exact .agg vs _ (by simpa using hl) (many hx h)
 | tup cs => cases h with
  | fr _ _ h => cases h with | tup vs _ hl h => exact .tup vs _ (by simpa using hl) (many hx (fun i v x h1 h2 => .fr _ _ (h i v x h1 h2)))
  | tup vs _ hl h => exact .tup vs _ (by simpa using hl) (many hx h)
 | fn f cs => cases h with
  | fr _ _ h => cases h with | fn _ vs _ hl h => exact .fn f vs _ (by simpa using hl) (many hx (fun i v x h1 h2 => .fr _ _ (h i v x h1 h2)))
  | fn _ vs _ hl h => exact .fn f vs _ (by simpa using hl) (many hx h)
 | _ => exact VR.back1 hw hS hK hV h hx
theorem Qfm (g : AV → AV) (es : List (List AV)) : (es.map fun e => e.map g).flatten = es.flatten.map g := by rw [List.map_flatten]
theorem QmS {g : AV → AV} {cs : List AV} {i : Nat} {x : AV} (h : (cs.map g)[i]? = some x) : ∃ y, cs[i]? = some y ∧ g y = x := by
 rw [List.getElem?_map] at h
 cases hx : cs[i]? with
 | none => rw [hx] at h; cases h
 | some y => rw [hx] at h; cases h; exact ⟨y, rfl, rfl⟩
theorem Js.xcall (hr : Js E c a st) {f : FuncId} {bs : List AV} {Hin Hout : List (Nat × Qs)} {res : AV} {m : Nat} (hc : GX P f bs Hin res Hout m) (ρ : List (Nat × Nat)) (H' : List (Nat × Qs)) (hmB : st.nx + m ≤ Qe)
  (hin : ∀ o ob, Qj Hin o = some ob → Qj st.H (rn ρ o) = some (Wm ρ ob) ∧ Qe ≤ o ∧ ob.cells.all Qd5 = true)
  (hnew : ∀ o, o < m → rn ρ o = st.nx + o)
  (inj : ∀ o o', (Qj Hin o).isSome = true → (Qj Hin o').isSome = true → rn ρ o = rn ρ o' → o = o')
  (dom : ∀ o, (Qj Hout o).isSome = true → (Qj Hin o).isSome = true ∨ o < m) (hout : ∀ o ob, Qj Hout o = some ob → ob.cells.all (Qbg Hout) = true)
  (h1 : ∀ o, (Qj Hin o).isSome = true ∨ o < m → Qj H' (rn ρ o) = (Qj Hout o).map (Wm ρ)) (h2 : ∀ q, (∀ o, (Qj Hin o).isSome = true ∨ o < m → rn ρ o ≠ q) → Qj H' q = Qj st.H q)
  (hrs : QpB Hout res = true)
  {vs : List Value} (hvl : vs.length = bs.length) (hbig : bs.all QdJ = true) (hv : ∀ (i : Nat) (v : Value) (x : AV), vs[i]? = some v → bs[i]? = some x → VR c v (QcD ρ x)) :
  Calls P f vs.toArray c.w fun e w' => ∃ v c', e = .returned v ∧ c'.w = w' ∧ Js E c' a ⟨st.t, H', st.nx + m⟩ ∧ VR c' v (QcD ρ res) := by
 classical
 obtain ⟨V0, hV0⟩ : ∃ V0 : Nat → Option Value, V0 = fun o => if (Qj Hin o).isSome then c.V (rn ρ o) else none := ⟨_, rfl⟩
 have hV0s : ∀ o v, V0 o = some v → c.V (rn ρ o) = some v ∧ (Qj Hin o).isSome = true := fun o v h => by
  rw [hV0] at h; dsimp only at h
  split at h
  ·exact ⟨h, by assumption⟩
  cases h
 have hV0i : ∀ o, (Qj Hin o).isSome = true → V0 o = c.V (rn ρ o) := fun o h => by rw [hV0]; simp [h]
 have hK0 : ∀ o, Qe ≤ o → c.K (rn ρ o) → (⟨c.w, c.S, V0, fun o => Qe ≤ o ∧ c.K (rn ρ o)⟩ : Cx).K o := fun o h1 h2 => ⟨h1, h2⟩
 have gin : GIn Hin ⟨c.w, c.S, V0, fun o => Qe ≤ o ∧ c.K (rn ρ o)⟩ := {
  big := fun o h => h.1
  live := fun o ob ho => by
   obtain ⟨g1, g2, g3⟩ := hin o ob ho;obtain ⟨hk, v, hvv, hor, _⟩ := hr.live _ _ g1;refine ⟨⟨g2, hk⟩, v, (hV0i o (by rw [ho]; rfl)).trans hvv, ?_⟩
   have into : ∀ {u : Value} {x : AV}, VR c u (KL ρ x) → Qd5 x = true → VR ⟨c.w, c.S, V0, fun o => Qe ≤ o ∧ c.K (rn ρ o)⟩ u x := fun h hx => VR.into1 (c := c) (c0 := ⟨c.w, c.S, V0, fun o => Qe ≤ o ∧ c.K (rn ρ o)⟩) (ρ := ρ) rfl rfl hK0 (fun o v h => (hV0s o v h).1) h hx
   cases ob with
   | var t cs => cases hor with
    | var b ccs _ _ hh hl hp hS =>
     exact .var b ccs t cs hh (by simpa using hl) (fun i u x hi hj => into (hp i u _ hi (by rw [List.getElem?_map, hj]; rfl)) (List.all_eq_true.1 g3 _ (List.mem_of_getElem? hj))) hS
   | tok t k n => cases hor with | tok _ _ _ _ xs ho hS => exact .tok v t k n xs ho hS
   | arr t k es => cases hor with
    | arr _ _ _ _ xs ho hks hp hS =>
     rw [List.length_map] at ho;exact .arr v t k es xs ho (fun e he => by simpa using hks _ (List.mem_map_of_mem he)) (fun i u x hi hj => into (hp i u _ hi (by rw [Qfm, List.getElem?_map, hj]; rfl)) (List.all_eq_true.1 g3 _ (List.mem_of_getElem? hj))) hS
  dead := fun o ho => by show V0 o = none; rw [hV0]; simp [ho]
  apart := fun o o' v v' b g1 g2 g3 g4 => by
   obtain ⟨k1, k2⟩ := hV0s o v g1;obtain ⟨k3, k4⟩ := hV0s o' v' g2;exact inj o o' k2 k4 (hr.apart _ _ v v' b k1 k3 g3 g4)
  Ssz := hr.Ssz }
 refine (hc _ vs gin hvl (fun i v x hi hj => VR.intoV (c := c) (c0 := ⟨c.w, c.S, V0, fun o => Qe ≤ o ∧ c.K (rn ρ o)⟩) (ρ := ρ) rfl rfl hK0 (fun o v h => (hV0s o v h).1) (hv i v x hi hj) (List.all_eq_true.1 hbig _ (List.mem_of_getElem? hj)))).mono ?_;rintro e w' ⟨v, c0', rfl, rfl, go, hfr⟩
 have fresh : ∀ o, o < m → ¬ c.K (st.nx + o) := fun o ho hk => by
  rcases hr.ids _ hk with h | h
  ·omega
  have := E.kb _ h; omega
 have kin : ∀ o, (Qj Hin o).isSome = true → c.K (rn ρ o) := fun o ho => by
  cases h : Qj Hin o with
  | none => rw [h] at ho; cases ho
  | some ob => exact (gin.live o ob h).1.2
 have injD : ∀ o o', ((Qj Hin o).isSome = true ∨ o < m) → ((Qj Hin o').isSome = true ∨ o' < m) → rn ρ o = rn ρ o' → o = o' := fun o o' g1 g2 e => by
  rcases g1 with g1 | g1 <;> rcases g2 with g2 | g2
  ·exact inj o o' g1 g2 e
  ·rw [hnew o' g2] at e
   exact absurd (e ▸ kin o g1) (fresh o' g2)
  ·rw [hnew o g1] at e
   exact absurd (e ▸ kin o' g2) (fresh o g1)
  rw [hnew o g1, hnew o' g2] at e; omega
 obtain ⟨V', hV'⟩ : ∃ V' : Nat → Option Value, V' = fun q => if h : ∃ o, ((Qj Hin o).isSome = true ∨ o < m) ∧ rn ρ o = q then c0'.V h.choose else c.V q := ⟨_, rfl⟩
 have hVq : ∀ o, ((Qj Hin o).isSome = true ∨ o < m) → V' (rn ρ o) = c0'.V o := fun o ho => by
  have hex : ∃ o', ((Qj Hin o').isSome = true ∨ o' < m) ∧ rn ρ o' = rn ρ o := ⟨o, ho, rfl⟩
  rw [hV'];dsimp only;rw [dif_pos hex];exact congrArg c0'.V (injD _ _ hex.choose_spec.1 ho hex.choose_spec.2)
 have hVn : ∀ q, (∀ o, ((Qj Hin o).isSome = true ∨ o < m) → rn ρ o ≠ q) → V' q = c.V q := fun q hq => by
  have hex : ¬ ∃ o', ((Qj Hin o').isSome = true ∨ o' < m) ∧ rn ρ o' = q := fun ⟨o, g1, g2⟩ => hq o g1 g2
  rw [hV'];dsimp only;rw [dif_neg hex]
 have part : ∀ q, (∃ o, ((Qj Hin o).isSome = true ∨ o < m) ∧ rn ρ o = q) ∨ (∀ o, ((Qj Hin o).isSome = true ∨ o < m) → rn ρ o ≠ q) := fun q => by
  by_cases h : ∃ o, ((Qj Hin o).isSome = true ∨ o < m) ∧ rn ρ o = q
  ·exact .inl h
  exact .inr (fun o g1 g2 => h ⟨o, g1, g2⟩)
 let K' : Nat → Prop := fun q => c.K q ∨ (st.nx ≤ q ∧ q < st.nx + m)
 have hKb : ∀ o, c0'.K o → K' (rn ρ o) := fun o hk => by
  rcases (go.K o).1 hk with h | h
  ·exact .inl h.2
  exact .inr (by rw [hnew o h]; omega)
 have hlec : c.le ⟨c0'.w, c0'.S, V', K'⟩ := ⟨fun b off hs => go.le.S b off hs, fun _ h => .inl h, fun q hk => by
  rcases part q with ⟨o, g1, rfl⟩ | hq
  ·rcases g1 with g1 | g1
   ·show Qbk (c.V (rn ρ o)) (V' (rn ρ o))
    rw [hVq o (.inl g1), ← hV0i o g1]
    cases ho : Qj Hin o with
    | none => rw [ho] at g1; cases g1
    | some ob => exact go.le.V o (gin.live o ob ho).1
   rw [hnew o g1] at hk;exact absurd hk (fresh o g1)
  exact .inl (hVn q hq)⟩
 have hsz := go.size
 have hDout : ∀ o ob, Qj Hout o = some ob → (Qj Hin o).isSome = true ∨ o < m := fun o ob h => dom o (by rw [h]; rfl)
 have oth : ∀ q u, (∀ o, ((Qj Hin o).isSome = true ∨ o < m) → rn ρ o ≠ q) → c.V q = some u → ∀ b, Xj u = some b → ∀ o v, V0 o = some v → Xj v ≠ some b := fun q u hq hu b hb o v hov e => by
  obtain ⟨k1, k2⟩ := hV0s o v hov;exact hq o (.inl k2) (hr.apart _ _ v u b k1 hu e hb)
 have lv : ∀ q u, c.V q = some u → ∃ ob, Qj st.H q = some ob ∧ OR c u ob ∧ ∀ b, Xj u = some b → E.Wr b := fun q u hu => by
  cases hl : Qj st.H q with
  | none => rw [hr.dead q hl] at hu; cases hu
  | some ob =>
   obtain ⟨_, u', hu', hor, hwr⟩ := hr.live q ob hl
   rw [hu] at hu'; cases hu'
   exact ⟨ob, rfl, hor, hwr⟩
 have wrIn : ∀ o v b, V0 o = some v → Xj v = some b → E.Wr b ∧ b < c.w.heap.size := fun o v b hov hb => by
  obtain ⟨ob, _, hor, hwr⟩ := lv _ _ (hV0s o v hov).1;exact ⟨hwr b hb, hor.lt hb⟩
 have bk : ∀ {u : Value} {x : AV}, VR c0' u x → Qbg Hout x = true → VR ⟨c0'.w, c0'.S, V', K'⟩ u (KL ρ x) := fun h hx =>
  VR.back1 (c0' := c0') (c' := ⟨c0'.w, c0'.S, V', K'⟩) (Hin := Hout) rfl rfl hKb (fun o v hs e => by rw [← hVq o (dom o hs)]; exact e) h hx
 refine ⟨v, ⟨c0'.w, c0'.S, V', K'⟩, rfl, rfl, ?_, VR.backV (c0' := c0') (c' := ⟨c0'.w, c0'.S, V', K'⟩) (Hin := Hout) rfl rfl hKb (fun o v hs e => by rw [← hVq o (dom o hs)]; exact e) hfr hrs⟩
 exact {
  defers := hr.defers, size := hr.size
  tmps := fun i => (hr.tmps i).mono hlec
  live := fun q ob hq => by
   rcases part q with ⟨o, g1, rfl⟩ | hnq
   ·have hq' := h1 o g1
    rw [show Qj H' (rn ρ o) = some ob from hq] at hq'
    cases ho : Qj Hout o with
    | none => rw [ho] at hq'; cases hq'
    | some ob0 =>
     rw [ho] at hq'
     have : ob = Wm ρ ob0 := Option.some.inj hq'
     subst this
     obtain ⟨hk0, u, hu, hor, hbl⟩ := go.live o ob0 ho;refine ⟨hKb o hk0, u, (hVq o g1).trans hu, ?_, fun b hb => ?_⟩
     ·have hio := hout o ob0 ho
      cases ob0 with
      | var t cs => cases hor with
       | var b ccs _ _ hh hl hp hS =>
        exact .var b ccs t _ hh (by simpa using hl) (fun i u x hi hj => by
         obtain ⟨x0, hx, rfl⟩ := QmS hj
         exact bk (hp i u x0 hi hx) (List.all_eq_true.1 hio _ (List.mem_of_getElem? hx))) hS
      | tok t k n => cases hor with | tok _ _ _ _ xs ho hS => exact .tok u t k n xs ho hS
      | arr t k es => cases hor with
       | arr _ _ _ _ xs ho hks hp hS =>
        exact .arr u t k _ xs (by rw [List.length_map]; exact ho) (fun e he => by
         obtain ⟨e0, h0, rfl⟩ := List.mem_map.1 he
         simpa using hks e0 h0) (fun i u x hi hj => by
         rw [Qfm] at hj;obtain ⟨x0, hx, rfl⟩ := QmS hj
         exact bk (hp i u x0 hi hx) (List.all_eq_true.1 hio _ (List.mem_of_getElem? hx))) hS
     rcases hbl b hb with ⟨o', v', g2, g3⟩ | g2
     ·exact (wrIn o' v' b g2 g3).1
     exact E.new b (Nat.le_trans hr.grown g2)
   have hq' : Qj st.H q = some ob := by rw [← h2 q hnq]; exact hq
   obtain ⟨hk, u, hu, hor, hwr⟩ := hr.live q ob hq';refine ⟨.inl hk, u, (hVn q hnq).trans hu, ?_, hwr⟩
   have hst : ∀ b, Xj u = some b → c0'.w.heap[b]? = c.w.heap[b]? := fun b hb => go.frame b (hor.lt hb) (fun o v hov => oth q u hnq hu b hb o v hov)
   have hSs : ∀ b, Xj u = some b → ∀ off, c0'.S b off → c.S b off := fun b hb off hs => by
    rcases go.Snew b off hs with g1 | ⟨o, v, g1, g2⟩ | g1
    ·exact g1
    ·exact absurd g2 (oth q u hnq hu b hb o v g1)
    have := hor.lt hb
    have g1 : c.w.heap.size ≤ b := g1
    omega
   cases hor with
   | var b ccs t cs hh hl hp hn => exact .var b ccs t cs ((hst b rfl).trans hh) hl (fun i u x h1 h2 => (hp i u x h1 h2).mono hlec) (fun off hs => hn off (hSs b rfl off hs))
   | tok _ t k n xs ho2 hn =>
    refine .tok u t k n xs ?_ (fun b hb off hle hs => hn b hb off hle (hSs b hb off hs));refine ⟨ho2.1, ?_⟩
    rcases ho2.2 with h1 | ⟨g, cap, cur, rfl, h1, h2, h3⟩
    ·exact .inl h1
    exact .inr ⟨g, cap, cur, rfl, h1, (hst g rfl).trans h2, h3⟩
   | arr _ t k es xs ho2 hk2 hp hn =>
    refine .arr u t k es xs ?_ hk2 (fun i u x h1 h2 => (hp i u x h1 h2).mono hlec) (fun b hb off hs => hn b hb off (hSs b hb off hs));refine ⟨ho2.1, ?_⟩
    rcases ho2.2 with h1 | ⟨g, cap, cur, rfl, h1, h2, h3⟩
    ·exact .inl h1
    exact .inr ⟨g, cap, cur, rfl, h1, (hst g rfl).trans h2, h3⟩
  dead := fun q hq => by
   rcases part q with ⟨o, g1, rfl⟩ | hnq
   ·have h3 := h1 o g1
    rw [show Qj H' (rn ρ o) = none from hq] at h3
    cases ho : Qj Hout o with
    | some ob0 => rw [ho] at h3; cases h3
    | none => exact (hVq o g1).trans (go.dead o ho)
   exact (hVn q hnq).trans (hr.dead q (by rw [← h2 q hnq]; exact hq))
  apart := fun q q' u u' b hu hu' hb1 hb2 => by
   have ofIn : ∀ o v, c0'.V o = some v → ∀ b, Xj v = some b → (∃ o' v', V0 o' = some v' ∧ Xj v' = some b) ∨ c.w.heap.size ≤ b := fun o v g2 b hb => by
    cases ho : Qj Hout o with
    | none => rw [go.dead o ho] at g2; cases g2
    | some ob0 =>
     obtain ⟨_, v2, g3, _, g4⟩ := go.live o ob0 ho
     rw [g2] at g3; cases g3
     exact g4 b hb
   have mix : ∀ o v q u b, c0'.V o = some v → (∀ o, ((Qj Hin o).isSome = true ∨ o < m) → rn ρ o ≠ q) → c.V q = some u → Xj v = some b → Xj u = some b → False := fun o v q u b g2 g3 g4 g5 g6 => by
    rcases ofIn o v g2 b g5 with ⟨o', v', k1, k2⟩ | k1
    ·exact oth q u g3 g4 b g6 o' v' k1 k2
    obtain ⟨ob, _, hor, _⟩ := lv q u g4
    have := hor.lt g6
    omega
   have hu : V' q = some u := hu
   have hu' : V' q' = some u' := hu'
   rcases part q with ⟨o, g1, rfl⟩ | hnq <;> rcases part q' with ⟨o', g2, rfl⟩ | hnq'
   ·rw [hVq o g1] at hu
    rw [hVq o' g2] at hu';rw [go.apart o o' u u' b hu hu' hb1 hb2]
   ·rw [hVq o g1] at hu
    rw [hVn q' hnq'] at hu';exact (mix o u q' u' b hu hnq' hu' hb1 hb2).elim
   ·rw [hVn q hnq] at hu
    rw [hVq o' g2] at hu';exact (mix o' u' q u b hu' hnq hu hb2 hb1).elim
   rw [hVn q hnq] at hu;rw [hVn q' hnq'] at hu';exact hr.apart q q' u u' b hu hu' hb1 hb2
  ids := fun q hk => by
   rcases hk with hk | hk
   ·rcases hr.ids q hk with h | h
    ·exact .inl (by show q < st.nx + m; omega)
    exact .inr h
   exact .inl hk.2
  nxB := hmB, kbs := fun q h => .inl (hr.kbs q h)
  V0 := fun q hk => (hr.V0 q hk).trans (hlec.V q (hr.kbs q hk))
  Ssz := go.Ssz
  os := go.os.trans hr.os, tape := go.tape.trans hr.tape, output := go.output.trans hr.output, drawn := Nat.le_trans hr.drawn go.drawn
  grown := Nat.le_trans hr.grown hsz
  frame := fun b hb hn => by
   refine (go.frame b (Nat.lt_of_lt_of_le hb hr.grown) (fun o v hov e => hn (wrIn o v b hov e).1)).trans (hr.frame b hb hn)
  S0 := fun b off hs => ⟨(go.le.S _ _ (hr.S0 b off hs).1).1, ((go.le.S _ _ (hr.S0 b off hs).1).2).trans (hr.S0 b off hs).2⟩
  Snew := fun b off hs => by
   rcases go.Snew b off hs with g1 | ⟨o, v, g1, g2⟩ | g1
   ·exact hr.Snew b off g1
   ·exact .inr (wrIn o v b g1 g2).1
   exact .inr (E.new b (Nat.le_trans hr.grown g1)) }
end
def Qjx (nx : Nat) : Nat → List (Nat × Nat)
 | 0 => []
 | m + 1 => (m, nx + m) :: Qjx nx m
theorem Qdt (nx : Nat) : ∀ m o, Qj (Qjx nx m) o = if o < m then some (nx + o) else none
 | 0, o => by simp [Qjx, Qj]
 | m + 1, o => by
  rw [Qjx, QA, Qdt nx m o]
  by_cases h : o = m
  ·subst h; simp
  rw [if_neg h]
  by_cases h2 : o < m
  ·rw [if_pos h2, if_pos (by omega)]
  rw [if_neg h2, if_neg (by omega)]
theorem Qe1 {α : Type} : ∀ (l r : List (Nat × α)) (o : Nat), Qj (l ++ r) o = (Qj l o).or (Qj r o)
 | [], r, o => by simp [Qj]
 | (j, x) :: l, r, o => by
  rw [List.cons_append, QA, QA, Qe1 l r o]
  split <;> rfl
theorem QfB {α : Type} : ∀ {l : List (Nat × α)} {o : Nat}, (∀ p ∈ l, p.1 ≠ o) → Qj l o = none
 | [], _, _ => rfl
 | (j, x) :: l, o, h => by
  rw [QA, if_neg (fun e => h (j, x) (.head _) e.symm)]
  exact QfB fun p hp => h p (.tail _ hp)
theorem Qld {α : Type} : ∀ {l : List (Nat × α)} {p : Nat × α}, p ∈ l → (Qj l p.1).isSome = true
 | (j, x) :: l, p, h => by
  rw [QA]
  split
  ·rfl
  rename_i hne
  cases h with
  | head => exact absurd rfl hne
  | tail _ h => exact Qld h
theorem QeO {α : Type} {l : List (Nat × α)} {o : Nat} (h : (Qj l o).isSome = true) : ∃ p ∈ l, p.1 = o := by
 cases hx : Qj l o with
 | none => rw [hx] at h; cases h
 | some x => exact ⟨(o, x), Kx hx, rfl⟩
def Qp0 (ρ : List (Nat × Nat)) (H : List (Nat × Qs)) : List (Nat × Qs) → Prop
 | [] => True
 | (o, ob) :: r => Qj H (rn ρ o) = some (Wm ρ ob) ∧ Nat.ble Qe o = true ∧ ob.cells.all Qd5 = true ∧ Qp0 ρ H r
theorem Qgy {ρ : List (Nat × Nat)} {H : List (Nat × Qs)} : ∀ {Hin : List (Nat × Qs)}, Qp0 ρ H Hin → ∀ o ob, Qj Hin o = some ob → Qj H (rn ρ o) = some (Wm ρ ob) ∧ Qe ≤ o ∧ ob.cells.all Qd5 = true
 | [], _, _, _, h => by cases h
 | (q, ob') :: r, ⟨h1, h2, h3, h4⟩, o, ob, h => by
  rw [QA] at h
  split at h
  ·rename_i e; cases h; subst e; exact ⟨h1, Nat.le_of_ble_eq_true h2, h3⟩
  exact Qgy h4 o ob h
def Qqw (Ho : List (Nat × Qs)) : List (Nat × Qs) → Prop
 | [] => True
 | (_, ob) :: r => ob.cells.all (Qbg Ho) = true ∧ Qqw Ho r
theorem Qg1 {Ho : List (Nat × Qs)} : ∀ {l : List (Nat × Qs)}, Qqw Ho l → ∀ o ob, Qj l o = some ob → ob.cells.all (Qbg Ho) = true
 | [], _, _, _, h => by cases h
 | (q, ob') :: r, ⟨h1, h2⟩, o, ob, h => by
  rw [QA] at h
  split at h
  ·cases h; exact h1
  exact Qg1 h2 o ob h
def QuI (st : St) (m : Nat) : List (Nat × Qs) → Prop
 | [] => True
 | (o, ob) :: r => Qj st.H o = some ob ∧ (Nat.blt o m || Nat.ble Qe o) = true ∧ JO m ob = true ∧ QuI st m r
theorem Qix {st : St} {m : Nat} : ∀ {l : List (Nat × Qs)}, QuI st m l → ∀ o ob, Qj l o = some ob → Qj st.H o = some ob ∧ (Nat.blt o m || Nat.ble Qe o) = true ∧ JO m ob = true
 | [], _, _, _, h => by cases h
 | (q, ob') :: r, ⟨h1, h2, h3, h4⟩, o, ob, h => by
  rw [QA] at h
  split at h
  ·rename_i e; cases h; subst e; exact ⟨h1, h2, h3⟩
  exact Qix h4 o ob h
theorem Ja {ts : List Nat} {st : St} {r res : AV} {Hout : List (Nat × Qs)} {m : Nat} (h : (Q7 st ts).ntt = r) (hr : r = res) (hok : okId m res = true) (hn : Nat.ble st.nx m = true) (hm : Nat.ble m Qe = true) (hx : QuI st m Hout) :
  (Q7 st ts).ntt = res ∧ okId m res = true ∧ Nat.ble st.nx m = true ∧ Nat.ble m Qe = true ∧ ∀ o ob, Qj Hout o = some ob → Qj st.H o = some ob ∧ (Nat.blt o m || Nat.ble Qe o) = true ∧ JO m ob = true :=
 ⟨by rw [h, hr], hok, hn, hm, Qix hx⟩
def xOk (ρ : List (Nat × Nat)) (ρ' : List (Nat × Nat)) (Hin Hout : List (Nat × Qs)) (m nx : Nat) : Bool :=
 ρ.all (fun p => Nat.ble Qe p.1) && Nat.ble (nx + m) Qe && Hin.all (fun p => Hin.all fun q => !(Nat.beq (rn ρ' p.1) (rn ρ' q.1)) || Nat.beq p.1 q.1) && Hout.all (fun p => (Qj Hin p.1).isSome || Nat.blt p.1 m) && Hin.all (fun p => (Qj Hout p.1).isSome)
theorem QsN {ρ : List (Nat × Nat)} {x : AV} (h : x.fz1 = some x) : KL ρ x = x := by
 cases x with
 | sl es tk => cases tk with
  | none => rfl
  | some o => simp [AV.fz1] at h
 | ptr o off => simp [AV.fz1] at h
 | own o n => simp [AV.fz1] at h
 | eptr o n off => simp [AV.fz1] at h
 | _ => rfl
theorem QcO {ρ : List (Nat × Nat)} {es : List (List AV)} (h : ∀ e ∈ es, fzs e = some e) : (es.map fun e => e.map (KL ρ)) = es := by
 have : ∀ e ∈ es, e.map (KL ρ) = e := fun e he => by
  have h2 := (KH (h e he)).2
  refine List.ext_getElem? fun i => ?_
  rw [List.getElem?_map]
  cases hx : e[i]? with
  | none => rfl
  | some x => exact congrArg some (QsN (h2 i x x hx hx))
 rw [List.map_congr_left this, List.map_id']
theorem YJ {es : List (List AV)} (h : ∀ e ∈ es, fzs e = some e) : es.flatten.all Qd5 = true := by
 refine List.all_eq_true.2 fun x hx => ?_
 obtain ⟨e, he, hxe⟩ := List.mem_flatten.1 hx;obtain ⟨i, hi⟩ := List.getElem?_of_mem hxe
 have := (KH (h e he)).2 i x x hi hi
 cases x with
 | sl es tk => cases tk with
  | none => rfl
  | some o => simp [AV.fz1] at this
 | ptr o off => simp [AV.fz1] at this
 | own o n => simp [AV.fz1] at this
 | eptr o n off => simp [AV.fz1] at this
 | agg => simp [AV.fz1] at this
 | tup => simp [AV.fz1] at this
 | fn => simp [AV.fz1] at this
 | _ => rfl
section
variable {P : Program} {E : Jp} {Q : Exit → St → Prop} {ops : Array Oper} {o : Oper} {rest : List Oper} {t : List (Nat × AV)} {H : List (Nat × Qs)} {nx N d : Nat} {w : Bool}
theorem QN (hN : E.N = N) {f : FuncId} {bs avs : List AV} {Hin Hout : List (Nat × Qs)} {res res' : AV} {m : Nat} (ρ : List (Nat × Nat)) (hc : GX P f bs Hin res Hout m) [hf : Q8 P f] (ho : QbB ⟨t, H, nx⟩ o f avs) {ρ' : List (Nat × Nat)} (hρ : ρ ++ Qjx nx m = ρ') (hab : bs.map (QcD ρ') = avs) (hbig : bs.all QdJ = true)
  (hin : Qp0 ρ' H Hin) (hk : xOk ρ ρ' Hin Hout m nx = true) (hout : Qqw Hout Hout) (hrs : QpB Hout res = true) {Hn H' : List (Nat × Qs)} (hHn : Hout.map (fun p => (rn ρ' p.1, Wm ρ' p.2)) = Hn) (hH : Hn ++ H = H') (hre : QcD ρ' res = res')
  (hg : Qr ops ⟨t, H, nx⟩ o = some w) (hw : w = true) (hd : o.dst = some d) (hdN : Nat.blt d N = true)
  (h : Q3 P E ops rest Q ⟨(d, res') :: t, H', nx + m⟩) : Q3 P E ops (o :: rest) Q ⟨t, H, nx⟩ := fun c a hr => by
 subst hw hH hre hHn
 simp only [xOk, Bool.and_eq_true] at hk
 obtain ⟨⟨⟨⟨k1, k2⟩, k3⟩, k4⟩, k5⟩ := hk
 have hmB : nx + m ≤ Qe := Nat.le_of_ble_eq_true k2
 have hnew : ∀ o, o < m → rn ρ' o = nx + o := fun o ho => by
  have h0 : Qj ρ o = none := QfB fun p hp e => by
   have := Nat.le_of_ble_eq_true (List.all_eq_true.1 k1 p hp)
   omega
  rw [← hρ, rn, Qe1, h0, Qdt, if_pos ho]
  rfl
 have hdi := Qgy hin
 have inj : ∀ o o', (Qj Hin o).isSome = true → (Qj Hin o').isSome = true → rn ρ' o = rn ρ' o' → o = o' := fun o o' g1 g2 e => by
  obtain ⟨p, hp, rfl⟩ := QeO g1;obtain ⟨q, hq, rfl⟩ := QeO g2
  have := List.all_eq_true.1 (List.all_eq_true.1 k3 p hp) q hq
  rw [e, Nat.beq_refl, Bool.not_true, Bool.false_or] at this;exact Nat.eq_of_beq_eq_true this
 have dom : ∀ o, (Qj Hout o).isSome = true → (Qj Hin o).isSome = true ∨ o < m := fun o g => by
  obtain ⟨p, hp, rfl⟩ := QeO g
  rcases Bool.or_eq_true _ _ ▸ List.all_eq_true.1 k4 p hp with h | h
  ·exact .inl h
  exact .inr (Nat.le_of_ble_eq_true h)
 have dom2 : ∀ o, (Qj Hin o).isSome = true → (Qj Hout o).isSome = true := fun o g => by
  obtain ⟨p, hp, rfl⟩ := QeO g;exact List.all_eq_true.1 k5 p hp
 have fresh : ∀ o, o < m → Qj H (nx + o) = none := fun o ho => by
  cases hx : Qj H (nx + o) with
  | none => rfl
  | some ob =>
   rcases hr.ids _ (hr.live _ ob hx).1 with h | h
   ·have h : nx + o < nx := h
    omega
   have := E.kb _ h; omega
 have kin : ∀ o, (Qj Hin o).isSome = true → rn ρ' o < nx ∨ Qe ≤ rn ρ' o := fun o g => by
  cases hx : Qj Hin o with
  | none => rw [hx] at g; cases g
  | some ob =>
   rcases hr.ids _ (hr.live _ _ (hdi o ob hx).1).1 with h | h
   ·exact .inl h
   exact .inr (E.kb _ h)
 have injD : ∀ o o', ((Qj Hin o).isSome = true ∨ o < m) → ((Qj Hin o').isSome = true ∨ o' < m) → rn ρ' o = rn ρ' o' → o = o' := fun o o' g1 g2 e => by
  rcases g1 with g1 | g1 <;> rcases g2 with g2 | g2
  ·exact inj o o' g1 g2 e
  ·have := kin o g1; rw [e, hnew o' g2] at this; omega
  ·have := kin o' g2; rw [← e, hnew o g1] at this; omega
  rw [hnew o g1, hnew o' g2] at e; omega
 have lk : ∀ (l : List (Nat × Qs)), (∀ p ∈ l, (Qj Hin p.1).isSome = true ∨ p.1 < m) → ∀ o, ((Qj Hin o).isSome = true ∨ o < m) → Qj (l.map fun p => (rn ρ' p.1, Wm ρ' p.2)) (rn ρ' o) = (Qj l o).map (Wm ρ') := by
  intro l
  induction l with
  | nil => intro _ o _; rfl
  | cons p l ih =>
   intro hl o hD;obtain ⟨j, x⟩ := p;rw [List.map_cons, QA, QA]
   by_cases e : o = j
   ·subst e; rw [if_pos rfl, if_pos rfl]; rfl
   rw [if_neg e, if_neg (fun e2 => e (injD o j hD (hl (j, x) (.head _)) e2))];exact ih (fun p hp => hl p (.tail _ hp)) o hD
 have hDl : ∀ p ∈ Hout, (Qj Hin p.1).isSome = true ∨ p.1 < m := fun p hp => dom p.1 (Qld hp)
 refine wpList_step fun K hK => ?_
 rw [XL hg hr, if_pos rfl];obtain ⟨vs, hrun, hvl, hv⟩ := ho.run (P := P) hr
 unfold Oper.wp
 rw [hrun, Oper.upon_enter]
 subst hab
 refine (hr.xcall hc ρ' (Hout.map (fun p => (rn ρ' p.1, Wm ρ' p.2)) ++ H) hmB hdi hnew inj dom (Qg1 hout) (fun o hD => ?_) (fun q hq => ?_) hrs (by simpa using hvl) hbig (fun i v x hi hj => hv i v _ hi (by rw [List.getElem?_map, hj]; rfl))).mono ?_
 ·rw [Qe1, lk Hout hDl o hD]
  cases hx : Qj Hout o with
  | some ob => rfl
  | none =>
   rcases hD with h | h
   ·have := dom2 o h; rw [hx] at this; cases this
   show Qj H (rn ρ' o) = none
   rw [hnew o h]; exact fresh o h
 ·rw [Qe1, QfB (fun p hp e => ?_)]
  ·rfl
  obtain ⟨p0, hp0, rfl⟩ := List.mem_map.1 hp;exact hq p0.1 (hDl p0 hp0) e
 rintro e w' ⟨v, c', rfl, rfl, hr', hvr⟩
 have hput := hr'.put (d := o.dst) (dlt hN hd hdN) hvr
 rw [hd] at hput;refine hK _ _ (h c' _ ?_);rw [hd];exact hput
end
section
variable {P : Program} {E : Jp} {Q : Exit → St → Prop} {ops : Array Oper} {o : Oper} {rest : List Oper} {t : List (Nat × AV)} {H : List (Nat × Qs)} {nx N d : Nat} {w : Bool}
end
section
variable {P : Program} {E : Jp} {st : St} {o : Oper} {c : Cx} {a : Act}
end
section
variable {P : Program} {E : Jp} {ops : Array Oper} {o : Oper} {w : Bool} {N d : Nat} {s : St}
end
section
variable {P : Program} {E : Jp} {st : St} {o : Oper}
end
section
variable {P : Program} {E : Jp} {Q : Exit → St → Prop} {ops : Array Oper} {o : Oper} {rest : List Oper} {t : List (Nat × AV)} {H : List (Nat × Qs)} {nx N d : Nat} {w : Bool} {c : Cx} {a : Act}
end
section
variable {E : Jp} {t : List (Nat × AV)} {H : List (Nat × Qs)} {nx : Nat}
end
section
variable {P : Program} {E : Jp} {ops : Array Oper} {md : Region.Mode}
def QlO (w0 : World) (S0 : Nat → Nat → Prop) (w : World) : Prop := ∀ b off, S0 b off → w.cell? ⟨b, off, none⟩ = w0.cell? ⟨b, off, none⟩
def WF (P : Program) (E : Jp) (ops : Array Oper) (o : Oper) (x : AV) (s : St) : Prop := Qh8 E o ∧ ∀ c a, Js E c a s → ∃ v, YieldsIf P ops (QlO c.w c.S) o v a ∧ VR c v x
theorem WI.wf {o : Oper} {x : AV} {s : St} (h : WI P E ops o x s) : WF P E ops o x s := ⟨h.1, fun c a hr => by
 obtain ⟨v, hy, hv⟩ := h.2 c a hr
 exact ⟨v, hy.yieldsIf, hv⟩⟩
def AF (P : Program) (E : Jp) (ops : Array Oper) (md : Region.Mode) (Q : Exit → St → Prop) : Nat → Array Bool → St → Prop
 | 0, listed, s => AU P E ops md Q 0 listed s
 | f + 1, listed, s => (∃ i oi x, ops[i]? = some oi ∧ (Region.ready md ops listed).contains i = true ∧ Region.free md ops listed i = true ∧ WF P E ops oi x s ∧ AF P E ops md Q f (listed.setIfInBounds i true) (s.put oi.dst x)) ∨ AU P E ops md Q (f + 1) listed s
theorem Qam {Q : Exit → St → Prop} (hs : Region.noSelect ops = true) (hQ : ∀ c s, Q (.panic c) s → False) : ∀ (f : Nat) (listed : Array Bool) (c : Cx) (a : Act) (s : St), Js E c a s → AU P E ops md Q f listed s → wpAnyH P md ops (QhM E Q) (QlO E.w0 E.S0) f listed a c.w
 | 0, _, c, _, s, hr, h => ⟨h.1, c, s, rfl, hr, h.2⟩
 | f + 1, listed, c, a, s, hr, h => by
  have sm : ∀ {c : Cx} {a : Act} {s : St}, Js E c a s → QlO E.w0 E.S0 c.w := fun hr b off h => (hr.S0 b off h).2
  rcases h with ⟨i, oi, x, hoi, hrd, hfr, ⟨hd, hwi⟩, hk⟩ | h
  ·obtain ⟨v, hy, hv⟩ := hwi c a hr
   exact wpAnyH_take hoi hs hfr hrd (fun c' a' w' ⟨c2, s2, _, _, hq⟩ => (hQ c' s2 hq).elim) hy.yieldsIf (sm hr) (Qam hs hQ f _ c _ _ (hr.put hd hv) hk)
  refine ⟨fun h0 => ⟨c, s, rfl, hr, h.1 h0⟩, fun i hi => ?_⟩
  rcases h.2 i hi with h1 | ⟨o, s', ho, hw, hd, hrun, hk⟩ | ⟨o, s', x, ho, hw, hd, hrun, hk⟩
  ·exact Ws hr (fun c' a' s' hr' h' => ⟨sm hr', Qam hs hQ f _ c' a' s' hr' h'⟩) h1
  ·unfold wpOp
   simp only [ho]
   rw [XL hw hr, if_pos rfl];obtain ⟨c', hrun', hr'⟩ := hrun c a hr;refine .inl ?_
   unfold Oper.wp
   rw [hrun', Oper.upon_skip, hd];exact ⟨sm hr', Qam hs hQ f _ c' _ s' hr' hk⟩
  unfold wpOp
  simp only [ho]
  rw [XL hw hr, if_pos rfl];exact .inl (hrun c a hr _ _ fun c' v hr' hv => ⟨sm (hr'.put hd hv), Qam hs hQ f _ c' _ _ (hr'.put hd hv) hk⟩)
theorem QgM {Q : Exit → St → Prop} (hs : Region.noSelect ops = true) (hQ : ∀ c s, Q (.panic c) s → False) (c : Cx) (hw : c.w = E.w0) (hS : c.S = E.S0) : ∀ (f : Nat) (listed : Array Bool) (a : Act) (s : St), Js E c a s → AF P E ops md Q f listed s → wpAnyH P md ops (QhM E Q) (QlO E.w0 E.S0) f listed a c.w
 | 0, listed, a, s, hr, h => Qam hs hQ 0 listed c a s hr h
 | f + 1, listed, a, s, hr, h => by
  rcases h with ⟨i, oi, x, hoi, hrd, hfr, ⟨hd, hwi⟩, hk⟩ | h
  ·obtain ⟨v, hy, hv⟩ := hwi c a hr
   rw [hw, hS] at hy;exact wpAnyH_take hoi hs hfr hrd (fun c' a' w' ⟨c2, s2, _, _, hq⟩ => (hQ c' s2 hq).elim) hy (fun b off _ => by rw [hw]) (QgM hs hQ c hw hS f _ _ _ (hr.put hd hv) hk)
  exact Qam hs hQ (f + 1) listed c a s hr h
def Jp.at (E : Jp) (c : Cx) (hg : E.w0.heap.size ≤ c.w.heap.size) : Jp := ⟨E.N, c.w, c.S, E.Wr, fun b h => E.new b (Nat.le_trans hg h), E.KB, E.kb, c.V⟩
theorem Js.rebase {c : Cx} {a : Act} {s : St} (hr : Js E c a s) : Js (E.at c hr.grown) c a s := {
 defers := hr.defers, size := hr.size, tmps := hr.tmps, live := hr.live, dead := hr.dead, apart := hr.apart, ids := hr.ids, nxB := hr.nxB, kbs := hr.kbs
 V0 := fun _ _ => Qbk.refl _, Ssz := hr.Ssz, os := rfl, tape := rfl, output := rfl, drawn := Nat.le_refl _, grown := Nat.le_refl _
 frame := fun _ _ _ => rfl, S0 := fun _ _ h => ⟨h, rfl⟩, Snew := fun _ _ h => .inl h }
theorem Js.back {c c2 : Cx} {a a2 : Act} {s s2 : St} (hr : Js E c a s) (h : Js (E.at c hr.grown) c2 a2 s2) : Js E c2 a2 s2 := {
 defers := h.defers, size := h.size, tmps := h.tmps, live := h.live, dead := h.dead, apart := h.apart, ids := h.ids, nxB := h.nxB, kbs := h.kbs
 V0 := fun o ho => (hr.V0 o ho).trans (h.V0 o ho), Ssz := h.Ssz, os := h.os.trans hr.os, tape := h.tape.trans hr.tape, output := h.output.trans hr.output
 drawn := Nat.le_trans hr.drawn h.drawn, grown := Nat.le_trans hr.grown h.grown
 frame := fun b hb hw => (h.frame b (Nat.lt_of_lt_of_le hb hr.grown) hw).trans (hr.frame b hb hw)
 S0 := fun b off hs => by
  obtain ⟨h1, h2⟩ := hr.S0 b off hs;obtain ⟨h3, h4⟩ := h.S0 b off h1;exact ⟨h3, h4.trans h2⟩
 Snew := fun b off hs => by
  rcases h.Snew b off hs with h1 | h1
  ·exact hr.Snew b off h1
  exact .inr h1 }
theorem Qpr {Q : Exit → St → Prop} {st : St} {id : Nat} {l : List Oper} {N : Nat} (hN : E.N = N) (n : Nat) (hn : l.toArray.size = n) (hm : P.follows .mixedOrders = true) (hs : Region.noSelect l.toArray = true) (hQ : ∀ c s, Q (.panic c) s → False) (h : ∀ E' : Jp, E'.N = N → AF P E' l.toArray .any Q n (Array.replicate n false) st) : Ym P E (.region id l.toArray true) Q st := fun c a hr => by
 subst hn
 have hr1 := hr.drew
 have hh := QgM hs hQ _ rfl rfl _ _ _ _ hr1.rebase (h (E.at _ hr1.grown) hN)
 refine wp_mono (wp_region_held hm hh) ?_;rintro e a' w' ⟨c2, s2, h1, h2, h3⟩;exact ⟨c2, s2, h1, hr1.back h2, h3⟩
variable {o : Oper} {t : List (Nat × AV)} {H : List (Nat × Qs)} {nx N d : Nat} {w : Bool}
theorem QeD {Q : Exit → St → Prop} {f : Nat} {listed : Array Bool} (i : Nat) (hi : ops[i]? = some o) (hr : (Region.ready md ops listed).contains i = true) (hf : Region.free md ops listed i = true) {x : AV} (hd : o.dst = some d) (hy : WF P E ops o x ⟨t, H, nx⟩)
  (h : AF P E ops md Q f (listed.setIfInBounds i true) ⟨(d, x) :: t, H, nx⟩) : AF P E ops md Q (f + 1) listed ⟨t, H, nx⟩ := .inl ⟨i, o, x, hi, hr, hf, hy, by rw [hd]; exact h⟩
theorem Qtc {Q : Exit → St → Prop} {f : Nat} {listed : Array Bool} {s : St} (h : AU P E ops md Q f listed s) : AF P E ops md Q f listed s := by
 cases f with
 | zero => exact h
 | succ f => exact .inr h
theorem QnN (hN : E.N = N) {s : St} {tt : TypeId} {x : Operand} (ho : o.op = .load tt x) {n : Nat} {row : Bool} [hT : X1 P tt n row] {cs : List AV} (hx : Jj s x = some (.el cs)) {r : AV} (hl : Wl row n cs = some r) (hn : Nat.blt 0 n = true) (hg : Qr ops s o = some w) (hw : w = true) (hd : o.dst = some d) (hdN : Nat.blt d N = true) : WF P E ops o r s := by
 subst hw
 refine ⟨dlt hN hd hdN, fun c a hr => ?_⟩
 have hn := Nat.le_of_ble_eq_true hn
 have hv := hr.ev x
 rw [Q5 hx] at hv
 generalize hvx : a.eval x = vx at hv
 have key : ∃ (b off : Nat) (f : Nat → Value), vx = .pointer (some ⟨b, off, none⟩) ∧ ∀ (i : Nat) (y : AV), cs[i]? = some y → (∀ w, QlO c.w c.S w → w.cell? ⟨b, off + i, none⟩ = some (f i)) ∧ VR c (f i) y := by
  cases hv with
  | fr _ _ h => cases h with
   | el b off _ f hcell h => exact ⟨b, off, f, rfl, fun i y hi => ⟨fun w hs => (hs b _ (hcell i y hi).1).trans (hcell i y hi).2, .fr _ _ (h i y hi)⟩⟩
 obtain ⟨b, off, f, hp, hat⟩ := key;obtain ⟨i, hi, hsz⟩ := JL hT.size;obtain ⟨dd, hdd, hdr⟩ := Qce hT.row
 cases row with
 | false =>
  cases cs with
  | nil => cases hl
  | cons y ys =>
   cases hl
   obtain ⟨h1, h2⟩ := hat 0 _ rfl;refine ⟨f 0, .inl ⟨by rw [XL hg hr], fun w hs => ?_⟩, h2⟩
   simp [execOp, ho, hvx, hp, Instr.loadAt, Instr.sureAddr, loadVar, Qaf hT.row, show w.cell? ⟨b, off, none⟩ = some (f 0) from h1 w hs]
 | true =>
  simp only [Wl] at hl
  cases hb : Nat.ble n cs.length with
  | false => rw [hb] at hl; cases hl
  | true =>
   rw [hb] at hl
   cases hl
   have hnl : n ≤ cs.length := Nat.le_of_ble_eq_true hb
   obtain ⟨us, hus⟩ : ∃ us, us = (List.range n).map f := ⟨_, rfl⟩
   have hul : us.length = n := by rw [hus]; simp
   have hug : ∀ (j : Nat) (v : Value), us[j]? = some v → j < n ∧ v = f j := fun j v hj => by
    rw [hus, List.getElem?_map] at hj
    have hjn : j < n := by
     rcases Nat.lt_or_ge j n with h | h
     ·exact h
     rw [List.getElem?_eq_none (by simpa using h)] at hj; cases hj
    rw [List.getElem?_range hjn] at hj
    cases hj
    exact ⟨hjn, rfl⟩
   refine ⟨.agg us.toArray, .inl ⟨by rw [XL hg hr], fun w hs => ?_⟩, .agg us (cs.take n) (by simp; omega) (fun j v y h1 h2 => ?_)⟩
   ·have := run_loadAt_mid (P := P) w b off tt us dd (fun j v hj => by
     obtain ⟨hjn, rfl⟩ := hug j v hj
     exact (hat j cs[j] (List.getElem?_eq_getElem (by omega))).1 w hs) hdd hdr (by rw [hi, Option.map_some, hsz, hul])
    simp [execOp, ho, hvx, hp, this]
   obtain ⟨hjn, rfl⟩ := hug j v h1;rw [List.getElem?_take, if_pos hjn] at h2;exact (hat j y h2).2
end
section
variable {P : Program} {E : Jp} {Q : Exit → St → Prop} {ops : Array Oper} {o : Oper} {rest : List Oper} {t : List (Nat × AV)} {H : List (Nat × Qs)} {nx N d : Nat} {w : Bool}
end
def rnT (ρ : List (Nat × Nat)) (t : List (Nat × AV)) : List (Nat × AV) := t.map fun p => (p.1, QcD ρ p.2)
def rnH (ρ : List (Nat × Nat)) (H : List (Nat × Qs)) : List (Nat × Qs) := H.map fun p => (rn ρ p.1, Wm ρ p.2)
theorem Qkv (ρ : List (Nat × Nat)) : ∀ (t : List (Nat × AV)) (i : Nat), Qj (rnT ρ t) i = (Qj t i).map (QcD ρ)
 | [], _ => rfl
 | p :: t, i => by
  show Qj ((p.1, QcD ρ p.2) :: rnT ρ t) i = (Qj ((p.1, p.2) :: t) i).map _
  rw [QA, QA]
  split
  ·rfl
  exact Qkv ρ t i
theorem QlB {ρ : List (Nat × Nat)} : ∀ (H : List (Nat × Qs)) (o : Nat), (∀ p ∈ H, rn ρ p.1 = rn ρ o → p.1 = o) → Qj (rnH ρ H) (rn ρ o) = (Qj H o).map (Wm ρ)
 | [], _, _ => rfl
 | p :: H, o, h => by
  show Qj ((rn ρ p.1, Wm ρ p.2) :: rnH ρ H) (rn ρ o) = (Qj ((p.1, p.2) :: H) o).map _
  rw [QA, QA]
  by_cases e : o = p.1
  ·rw [if_pos (by rw [e]), if_pos e]; rfl
  rw [if_neg (fun e2 => e (h p (by simp) e2.symm).symm), if_neg e]
  exact QlB H o fun q hq => h q (by simp [hq])
theorem Qf3 {ρ : List (Nat × Nat)} : ∀ (H : List (Nat × Qs)) (q : Nat) (ob : Qs), Qj (rnH ρ H) q = some ob → ∃ p ∈ H, rn ρ p.1 = q
 | [], _, _, h => by cases h
 | p :: H, q, ob, h => by
  have h : Qj ((rn ρ p.1, Wm ρ p.2) :: rnH ρ H) q = some ob := h
  rw [QA] at h
  split at h
  ·rename_i e; exact ⟨p, by simp, e.symm⟩
  obtain ⟨p', h1, h2⟩ := Qf3 H q ob h; exact ⟨p', by simp [h1], h2⟩
theorem QfJ : ∀ {H : List (Nat × Qs)} {p : Nat × Qs}, p ∈ H → (Qj H p.1).isSome = true
 | [], _, h => by cases h
 | x :: H, p, h => by
  show (Qj ((x.1, x.2) :: H) p.1).isSome = true
  rw [QA]
  split
  ·rfl
  rename_i e
  rcases List.mem_cons.1 h with rfl | h
  ·exact absurd rfl e
  exact QfJ h
theorem Qb4 : ∀ {H : List (Nat × Qs)} {o : Nat}, (Qj H o).isSome = true → ∃ p ∈ H, p.1 = o
 | [], _, h => by cases h
 | x :: H, o, h => by
  replace h : (Qj ((x.1, x.2) :: H) o).isSome = true := h
  rw [QA] at h
  split at h
  ·rename_i e; exact ⟨x, by simp, e.symm⟩
  obtain ⟨p, h1, h2⟩ := Qb4 h; exact ⟨p, by simp [h1], h2⟩
def Qk8 (ρ : List (Nat × Nat)) (t : List (Nat × AV)) (H : List (Nat × Qs)) (nx : Nat) : Bool :=
 (t.all fun p => QpB H p.2) && (H.all fun p => p.2.cells.all (Qbg H)) && (H.all fun p => H.all fun q => !(rn ρ p.1 == rn ρ q.1) || p.1 == q.1) && (H.all fun p => rn ρ p.1 == p.1 || (Nat.blt (rn ρ p.1) nx && Nat.blt (rn ρ p.1) Qe))
theorem Qhs {E : Jp} {t : List (Nat × AV)} {H : List (Nat × Qs)} {nx : Nat} (ρ : List (Nat × Nat)) (h : Qk8 ρ t H nx = true) {t' : List (Nat × AV)} (et : rnT ρ t = t') {H' : List (Nat × Qs)} (eH : rnH ρ H = H') : KE E ⟨t, H, nx⟩ ⟨t', H', nx⟩ := fun c a hr => by
 classical
 subst et eH
 simp only [Qk8, Bool.and_eq_true, List.all_eq_true, Bool.or_eq_true, Bool.not_eq_true', beq_iff_eq, beq_eq_false_iff_ne] at h
 obtain ⟨⟨⟨ht, hH⟩, hinj⟩, hlt⟩ := h
 have inj : ∀ o o', (Qj H o).isSome = true → (Qj H o').isSome = true → rn ρ o = rn ρ o' → o = o' := fun o o' h1 h2 e => by
  obtain ⟨p, hp, rfl⟩ := Qb4 h1;obtain ⟨q, hq, rfl⟩ := Qb4 h2
  rcases hinj p hp q hq with h | h
  ·exact absurd e h
  exact h
 have hlook : ∀ o, (Qj H o).isSome = true → Qj (rnH ρ H) (rn ρ o) = (Qj H o).map (Wm ρ) := fun o ho => QlB H o fun p hp e => inj _ _ (QfJ hp) ho e
 obtain ⟨V', hV'⟩ : ∃ V' : Nat → Option Value, V' = fun q => if h : ∃ o, (Qj H o).isSome = true ∧ rn ρ o = q then c.V h.choose else none := ⟨_, rfl⟩
 have hVq : ∀ o, (Qj H o).isSome = true → V' (rn ρ o) = c.V o := fun o ho => by
  have hex : ∃ o', (Qj H o').isSome = true ∧ rn ρ o' = rn ρ o := ⟨o, ho, rfl⟩
  rw [hV'];dsimp only;rw [dif_pos hex];exact congrArg c.V (inj _ _ hex.choose_spec.1 ho hex.choose_spec.2)
 have hVn : ∀ q, (¬ ∃ o, (Qj H o).isSome = true ∧ rn ρ o = q) → V' q = none := fun q hq => by rw [hV']; dsimp only; rw [dif_neg hq]
 let K' : Nat → Prop := fun q => c.K q ∨ ∃ o, (Qj H o).isSome = true ∧ rn ρ o = q
 have hK : ∀ o, c.K o → K' (rn ρ o) ∨ ¬ (Qj H o).isSome = true := fun o hk => by
  by_cases ho : (Qj H o).isSome = true
  ·exact .inl (.inr ⟨o, ho, rfl⟩)
  exact .inr ho
 have bk1 : ∀ {u : Value} {x : AV}, VR c u x → Qbg H x = true → VR ⟨c.w, c.S, V', K'⟩ u (KL ρ x) := fun {u x} h hx =>
  VR.back1 (c0' := ⟨c.w, c.S, c.V, fun o => (Qj H o).isSome = true⟩) (c' := ⟨c.w, c.S, V', K'⟩) (Hin := H) rfl rfl (fun o ho => .inr ⟨o, ho, rfl⟩) (fun o v hs e => by rw [← hVq o hs]; exact e) (by
   cases h with
   | fr _ _ h => exact .fr _ _ h
   | tok _ es o h hk hv => exact .tok _ es o h hx hv
   | own _ o n hk hv => exact .own _ o n hx hv
   | ptr _ o off hk hv => exact .ptr _ o off hx hv
   | eptr _ o n off hk hv => exact .eptr _ o n off hx hv
   | agg => cases hx
   | tup => cases hx
   | fn => cases hx) hx
 have many : ∀ {vs : List Value} {cs : List AV}, cs.all (Qbg H) = true → (∀ (i : Nat) (v : Value) (x : AV), vs[i]? = some v → cs[i]? = some x → VR c v x) → ∀ (i : Nat) (v : Value) (x : AV), vs[i]? = some v → (cs.map (KL ρ))[i]? = some x → VR ⟨c.w, c.S, V', K'⟩ v x :=
  fun {vs cs} hc h i v x hi hj => by
   obtain ⟨y, hy, rfl⟩ := QmS hj;exact bk1 (h i v y hi hy) (List.all_eq_true.1 hc _ (List.mem_of_getElem? hy))
 have bkV : ∀ {u : Value} {x : AV}, VR c u x → QpB H x = true → VR ⟨c.w, c.S, V', K'⟩ u (QcD ρ x) := fun {u x} h hx => by
  cases x with
  | agg cs => cases h with
   | fr _ _ h => cases h with | agg vs _ hl h => exact .agg vs _ (by simpa using hl) (many hx (fun i v x h1 h2 => .fr _ _ (h i v x h1 h2)))
   | agg vs _ hl h => exact .agg vs _ (by simpa using hl) (many hx h)
  | tup cs => cases h with
   | fr _ _ h => cases h with | tup vs _ hl h => exact .tup vs _ (by simpa using hl) (many hx (fun i v x h1 h2 => .fr _ _ (h i v x h1 h2)))
   | tup vs _ hl h => exact .tup vs _ (by simpa using hl) (many hx h)
  | fn f cs => cases h with
   | fr _ _ h => cases h with | fn _ vs _ hl h => exact .fn f vs _ (by simpa using hl) (many hx (fun i v x h1 h2 => .fr _ _ (h i v x h1 h2)))
   | fn _ vs _ hl h => exact .fn f vs _ (by simpa using hl) (many hx h)
  | _ => exact bk1 h hx
 refine ⟨⟨c.w, c.S, V', K'⟩, rfl, ?_⟩
 exact {
  defers := hr.defers, size := hr.size
  tmps := fun i => by
   show VR _ _ ((Qj (rnT ρ t) i).getD .bot)
   rw [Qkv]
   have hv := hr.tmps i
   cases hl : Qj t i with
   | none => exact .fr _ _ (.bot _)
   | some x =>
    rw [show (⟨t, H, nx⟩ : St).get i = x by simp [St.get, hl]] at hv
    have hm : ∃ p ∈ t, p.2 = x := by
     have key : ∀ (t : List (Nat × AV)), Qj t i = some x → ∃ p ∈ t, p.2 = x := by
      intro t
      induction t with
      | nil => intro h; cases h
      | cons p t ih =>
       intro h
       replace h : Qj ((p.1, p.2) :: t) i = some x := h
       rw [QA] at h
       split at h
       ·cases h; exact ⟨p, by simp, rfl⟩
       obtain ⟨q, h1, h2⟩ := ih h; exact ⟨q, by simp [h1], h2⟩
     exact key t hl
    obtain ⟨p, hp, rfl⟩ := hm;exact bkV hv (ht p hp)
  live := fun q ob hq => by
   obtain ⟨p, hp, rfl⟩ := Qf3 H q ob hq
   have hs := QfJ hp
   rw [show Qj (rnH ρ H) (rn ρ p.1) = _ from hlook p.1 hs] at hq
   cases ho : Qj H p.1 with
   | none => rw [ho] at hs; cases hs
   | some ob0 =>
    rw [ho] at hq
    have e : Wm ρ ob0 = ob := Option.some.inj hq
    subst e
    obtain ⟨hk, v, hv, hor, hwr⟩ := hr.live p.1 ob0 ho;refine ⟨.inr ⟨p.1, hs, rfl⟩, v, (hVq p.1 hs).trans hv, ?_, hwr⟩
    have hcs : ob0.cells.all (Qbg H) = true := by
     have key : ∀ (L : List (Nat × Qs)) (k : Nat), Qj L k = some ob0 → ∃ p ∈ L, p.2 = ob0 := by
      intro L k
      induction L with
      | nil => intro h; cases h
      | cons p t ih =>
       intro h
       replace h : Qj ((p.1, p.2) :: t) k = some ob0 := h
       rw [QA] at h
       split at h
       ·cases h; exact ⟨p, by simp, rfl⟩
       obtain ⟨q, h1, h2⟩ := ih h; exact ⟨q, by simp [h1], h2⟩
     obtain ⟨q, hqm, rfl⟩ := key H p.1 ho;exact List.all_eq_true.2 (hH q hqm)
    cases ob0 with
    | var t cs => cases hor with
     | var b ccs _ _ hh hl hp hS => exact .var b ccs t _ hh (by simpa using hl) (fun i u x hi hj => many (vs := ccs.toList) hcs (fun i u x hi hj => hp i u x (by simpa using hi) hj) i u x (by simpa using hi) hj) hS
    | tok t k n => cases hor with | tok _ _ _ _ xs ho hS => exact .tok v t k n xs ho hS
    | arr t k es => cases hor with
     | arr _ _ _ _ xs ho hks hp hS =>
      refine .arr v t k _ xs (by simpa using ho) (fun e he => ?_) (fun i u x hi hj => ?_) hS
      ·obtain ⟨e0, h0, rfl⟩ := List.mem_map.1 he
       simpa using hks e0 h0
      rw [Qfm] at hj;exact many (vs := xs) hcs (fun i u x hi hj => hp i u x hi hj) i u x hi hj
  dead := fun q hq => by
   refine hVn q ?_;rintro ⟨o, ho, rfl⟩
   replace hq : Qj (rnH ρ H) (rn ρ o) = none := hq
   rw [hlook o ho] at hq
   cases h : Qj H o with
   | none => rw [h] at ho; cases ho
   | some ob => rw [h] at hq; cases hq
  apart := fun o o' v v' b h1 h2 h3 h4 => by
   replace h1 : V' o = some v := h1
   replace h2 : V' o' = some v' := h2
   by_cases e1 : ∃ p, (Qj H p).isSome = true ∧ rn ρ p = o
   ·by_cases e2 : ∃ p, (Qj H p).isSome = true ∧ rn ρ p = o'
    ·obtain ⟨p, hp, rfl⟩ := e1
     obtain ⟨q, hq, rfl⟩ := e2;rw [hVq p hp] at h1;rw [hVq q hq] at h2;rw [hr.apart p q v v' b h1 h2 h3 h4]
    rw [hVn o' e2] at h2; cases h2
   rw [hVn o e1] at h1; cases h1
  ids := fun q hk => by
   rcases hk with hk | ⟨o, ho, rfl⟩
   ·exact hr.ids q hk
   obtain ⟨p, hp, rfl⟩ := Qb4 ho
   rcases hlt p hp with h | h
   ·rw [h]
    cases hl : Qj H p.1 with
    | none => rw [hl] at ho; cases ho
    | some ob => exact hr.ids _ (hr.live p.1 ob hl).1
   exact .inl (by simpa using h.1)
  nxB := hr.nxB
  kbs := fun o hk => .inl (hr.kbs o hk)
  V0 := fun q hk => by
   show Qbk (E.V0 q) (V' q)
   by_cases e : ∃ o, (Qj H o).isSome = true ∧ rn ρ o = q
   ·obtain ⟨o, ho, rfl⟩ := e
    obtain ⟨p, hp, rfl⟩ := Qb4 ho
    rcases hlt p hp with h | h
    ·rw [hVq p.1 ho]
     rw [h] at hk ⊢
     exact hr.V0 p.1 hk
    have := E.kb _ hk
    have h2 : rn ρ p.1 < Qe := by simpa using h.2
    omega
   rw [hVn q e]; exact .inr (.inl rfl)
  Ssz := hr.Ssz, os := hr.os, tape := hr.tape, output := hr.output, drawn := hr.drawn, grown := hr.grown, frame := hr.frame, S0 := hr.S0, Snew := hr.Snew }
section
variable {P : Program} {E : Jp} {ops : Array Oper}
end
end Go.Proofs.YtnkkokmmeplbgaaGreat
