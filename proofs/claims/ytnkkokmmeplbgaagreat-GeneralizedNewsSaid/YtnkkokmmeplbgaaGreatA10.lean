/-
  A row of one's own that an element of another row of one's o
-/
import Derived.Test.YtnkkokmmeplbgaaGreatT5
import Derived.Scope
import Derived.Test.YtnkkokmmeplbgaaGreatA2
import Derived.Test.YtnkkokmmeplbgaaGreatA3
import Derived.Test.YtnkkokmmeplbgaaGreatA7
import Derived.ChangeKeysEq
import Derived.OrdersHeld
namespace Go.Proofs.YtnkkokmmeplbgaaGreat
open Go.RowKit
def Qbr (ρ : List (Nat × Nat)) : Qi → Qi
 | .var t cs => .var t (cs.map (Ye ρ))
 | .tok t k n => .tok t k n
 | .arr t k es => .arr t k (es.map fun e => e.map (Ye ρ))
def Qi.cells : Qi → List AV
 | .var _ cs => cs
 | .tok _ _ _ => []
 | .arr _ _ es => es.flatten
def Qnu (Hin : List (Nat × Qi)) : AV → Bool
 | .agg cs | .tup cs | .fn _ cs => cs.all (Qa1 Hin)
 | x => Qa1 Hin x
structure Qnq (Hout : List (Nat × Qi)) (m : Nat) (c c' : Cx) : Prop where
 os : c'.w.os = c.w.os
 tape : c'.w.tape = c.w.tape
 output : c'.w.output = c.w.output
 drawn : c.w.drawn ≤ c'.w.drawn
 size : c.w.heap.size ≤ c'.w.heap.size
 frame : ∀ b, b < c.w.heap.size → (∀ o v, c.V o = some v → QR v ≠ some b) → c'.w.heap[b]? = c.w.heap[b]?
 le : c.le c'
 K : ∀ o, c'.K o ↔ c.K o ∨ o < m
 Snew : ∀ b off, c'.S b off → c.S b off ∨ (∃ o v, c.V o = some v ∧ QR v = some b) ∨ c.w.heap.size ≤ b
 Ssz : ∀ b off, c'.S b off → b < c'.w.heap.size
 live : ∀ o ob, Qd Hout o = some ob → c'.K o ∧ ∃ v, c'.V o = some v ∧ OR c' v ob ∧ ∀ b, QR v = some b → (∃ o' v', c.V o' = some v' ∧ QR v' = some b) ∨ c.w.heap.size ≤ b
 dead : ∀ o, Qd Hout o = none → c'.V o = none
 apart : ∀ o o' v v' b, c'.V o = some v → c'.V o' = some v' → QR v = some b → QR v' = some b → o = o'
def GX (P : Program) (f : FuncId) (args : List AV) (Hin : List (Nat × Qi)) (res : AV) (Hout : List (Nat × Qi)) (m : Nat) : Prop :=
 ∀ (c : Cx) (vs : List Value), GIn Hin c → vs.length = args.length → (∀ (i : Nat) (v : Value) (x : AV), vs[i]? = some v → args[i]? = some x → VR c v x) →
  Calls P f vs.toArray c.w fun e w' => ∃ v c', e = .returned v ∧ c'.w = w' ∧ Qnq Hout m c c' ∧ VR c' v res
def AV.nt : AV → AV
 | .sl es _ => .sl es none
 | x => x
def AV.ntt : AV → AV
 | .tup xs => .tup (xs.map AV.nt)
 | x => x.nt
theorem VR.nt {c : Cx} {v : Value} {x : AV} (h : VR c v x) : VR c v x.nt := by
 cases x with
 | sl es tk => exact .fr _ _ h.sl_inv
 | _ => exact h
theorem VR.ntt {c : Cx} {v : Value} {x : AV} (h : VR c v x) : VR c v x.ntt := by
 have many : ∀ {vs : List Value} {cs : List AV}, vs.length = cs.length → (∀ (i : Nat) (v : Value) (x : AV), vs[i]? = some v → cs[i]? = some x → VR c v x) → VR c (.tuple vs.toArray) (.tup (cs.map AV.nt)) := fun {vs cs} hl h =>
  .tup vs _ (by simpa using hl) fun i v x hi hj => by
   rw [List.getElem?_map] at hj
   cases hx : cs[i]? with
   | none => rw [hx] at hj; cases hj
   | some y => rw [hx] at hj; cases hj; exact (h i v y hi hx).nt
 cases x with
 | tup cs => cases h with
  | fr _ _ h => cases h with | tup vs _ hl h => exact many hl (fun i v x h1 h2 => .fr _ _ (h i v x h1 h2))
  | tup vs _ hl h => exact many hl h
 | _ => exact h.nt
def retX (ts : List Nat) (res : AV) (Hout : List (Nat × Qi)) (m : Nat) : Exit → St → Prop
 | .normal, st | .ret, st => (XP st ts).ntt = res ∧ okId m res = true ∧ Nat.ble st.nx m = true ∧ Nat.ble m Qk = true ∧ ∀ o ob, Qd Hout o = some ob → Qd st.H o = some ob ∧ (Nat.blt o m || Nat.ble Qk o) = true ∧ X5 m ob = true
 | _, _ => False
theorem JH {P : Program} {f : FuncId} {fn : Func} {code : Code} {args : List AV} {res : AV} {Hin Hout : List (Nat × Qi)} {m : Nat} (ts : List Nat) (hf : P.funcs[f]? = some fn) (hb : fn.body = some code) (hres : fn.results = (ts.map ResultVar.tmp).toArray) (N : Nat) (hN : fn.ntmps = N) (hle : args.length ≤ N)
  (h : ∀ E : Xy, E.N = N → JT P E code (retX ts res Hout m) ⟨Kc 0 args, Hin, 0⟩) : GX P f args Hin res Hout m := by
 intro c0 vs hg hvl hv
 refine calls_of_wp hf hb ?_
 let E : Xy := ⟨N, c0.w, c0.S, fun b => c0.w.heap.size ≤ b ∨ ∃ o v, c0.V o = some v ∧ QR v = some b, fun _ h => .inl h, c0.K, hg.big, c0.V⟩
 have hr : XE E c0 { tmps := vs.toArray ++ Array.replicate (fn.ntmps - vs.toArray.size) undef, defers := [] } ⟨Kc 0 args, Hin, 0⟩ := {
  defers := rfl
  size := by show (vs.toArray ++ Array.replicate (fn.ntmps - vs.toArray.size) undef).size = N; simp; omega
  tmps := fun i => by
   show VR _ ((vs.toArray ++ Array.replicate (fn.ntmps - vs.toArray.size) undef).getD i undef) ((Qd (Kc 0 args) i).getD .bot)
   rw [Yu]
   simp only [Nat.zero_le, if_true, Nat.sub_zero]
   rcases Nat.lt_or_ge i args.length with hlt | hge
   ·have hlt' : i < vs.length := by omega
    have e : (vs.toArray ++ Array.replicate (fn.ntmps - vs.toArray.size) undef).getD i undef = vs[i] := by
     simp [Array.getElem?_append, hlt']
    rw [e, List.getElem?_eq_getElem hlt]
    exact hv i _ _ (List.getElem?_eq_getElem hlt') (List.getElem?_eq_getElem hlt)
   rw [List.getElem?_eq_none hge]
   exact .fr _ _ (.bot _)
  live := fun o ob h => by
   obtain ⟨h1, v, h2, h3⟩ := hg.live o ob h
   exact ⟨h1, v, h2, h3, fun b hb => .inr ⟨o, v, h2, hb⟩⟩
  dead := hg.dead
  apart := hg.apart
  ids := fun _ h => .inr h
  nxB := Nat.zero_le _
  kbs := fun _ h => h
  V0 := fun _ _ => .refl _
  Ssz := hg.Ssz
  os := rfl, tape := rfl, output := rfl, drawn := Nat.le_refl _, grown := Nat.le_refl _
  frame := fun _ _ _ => rfl
  S0 := fun _ _ h => ⟨h, rfl⟩
  Snew := fun _ _ h => .inl h }
 refine wp_mono (h E rfl _ _ hr) ?_
 rintro e a' w' ⟨c, st, rfl, hr', hq⟩
 have fin : ((XP st ts).ntt = res ∧ okId m res = true ∧ Nat.ble st.nx m = true ∧ Nat.ble m Qk = true ∧ ∀ o ob, Qd Hout o = some ob → Qd st.H o = some ob ∧ (Nat.blt o m || Nat.ble Qk o) = true ∧ X5 m ob = true) →
   a'.defers = [] ∧ ∃ v, (results fn a'.tmps).run P c.w = .ok v c.w ∧ ∃ v' c', Ending.returned v = .returned v' ∧ c'.w = c.w ∧ Qnq Hout m c0 c' ∧ VR c' v' res := by
  rintro ⟨hr2, hok, hnx, hmB, hout⟩
  have hnx := Nat.le_of_ble_eq_true hnx
  have hmB := Nat.le_of_ble_eq_true hmB
  obtain ⟨V', hV'⟩ : ∃ V' : Nat → Option Value, V' = fun o => if (Qd Hout o).isSome then c.V o else none := ⟨_, rfl⟩
  have hVs : ∀ o v, V' o = some v → c.V o = some v ∧ (Qd Hout o).isSome = true := fun o v h => by
   rw [hV'] at h
   dsimp only at h
   split at h
   ·exact ⟨h, by assumption⟩
   cases h
  have hK : ∀ o, c.K o → o < m ∨ Qk ≤ o → c0.K o ∨ o < m := fun o hk ho => by
   rcases hr'.ids o hk with h1 | h1
   ·exact .inr (by omega)
   exact .inl h1
  have hle : c0.le ⟨c.w, c.S, V', fun o => c0.K o ∨ o < m⟩ := ⟨fun b off hs => hr'.S0 b off hs, fun _ h => .inl h, fun o hk => by
   refine (hr'.V0 o hk).trans ?_
   show Wb (c.V o) (V' o)
   rw [hV']
   dsimp only
   split
   ·exact .refl _
   exact .inr (.inl rfl)⟩
  have or2 : ∀ {o}, (Nat.blt o m || Nat.ble Qk o) = true → o < m ∨ Qk ≤ o := fun h => by
   rcases Bool.or_eq_true _ _ ▸ h with h | h
   ·exact .inl (Nat.le_of_ble_eq_true h)
   exact .inr (Nat.le_of_ble_eq_true h)
  refine ⟨hr'.defers, _, YB ts hres a'.tmps c.w, _, ⟨c.w, c.S, V', fun o => c0.K o ∨ o < m⟩, rfl, rfl, ?_, ?_⟩
  ·exact {
    os := hr'.os, tape := hr'.tape, output := hr'.output, drawn := hr'.drawn, size := hr'.grown
    frame := fun b hb hn => hr'.frame b hb (fun hw => by
     rcases hw with hw | ⟨o, v, h1, h2⟩
     ·have hw : c0.w.heap.size ≤ b := hw
      have hb : b < c0.w.heap.size := hb
      omega
     exact hn o v h1 h2)
    le := hle
    K := fun _ => Iff.rfl
    Snew := fun b off hs => by
     rcases hr'.Snew b off hs with h1 | h1 | h1
     ·exact .inl h1
     ·exact .inr (.inr h1)
     exact .inr (.inl h1)
    Ssz := hr'.Ssz
    live := fun o ob ho => by
     obtain ⟨h1, h2, h3⟩ := hout o ob ho
     obtain ⟨hk, v, hv, hor, hwr⟩ := hr'.live o ob h1
     refine ⟨hK o hk (or2 h2), v, by rw [hV']; simp [ho, hv], ?_, fun b hb => ?_⟩
     ·exact OR.okId (c := c) (c' := ⟨c.w, c.S, V', fun o => c0.K o ∨ o < m⟩) rfl rfl hK (fun o v h => (hVs o v h).1) hor h3
     rcases hwr b hb with h4 | h4
     ·exact .inr h4
     exact .inl h4
    dead := fun o ho => by show V' o = none; rw [hV']; simp [ho]
    apart := fun o o' v v' b h1 h2 h3 h4 => hr'.apart o o' v v' b (hVs o v h1).1 (hVs o' v' h2).1 h3 h4 }
  have hvr : VR c (Qkd a'.tmps ts) (XP st ts) := by
   have many : ∀ ts : List Nat, VR c (.tuple (ts.map fun t => a'.tmps.getD t undef).toArray) (.tup (ts.map st.get)) := fun ts => by
    refine .tup _ _ (by simp) fun i v x hi hj => ?_
    rw [List.getElem?_map] at hi hj
    cases hq : ts[i]? with
    | none => rw [hq] at hi; cases hi
    | some t => rw [hq] at hi hj; cases hi; cases hj; exact hr'.tmps t
   match ts with
   | [] => exact many []
   | [t] => exact hr'.tmps t
   | t :: u :: ts => exact many (t :: u :: ts)
  have h9 := hvr.ntt
  rw [hr2] at h9
  exact VR.okId (c := c) (c' := ⟨c.w, c.S, V', fun o => c0.K o ∨ o < m⟩) rfl rfl hK (fun o v h => (hVs o v h).1) h9 hok
 cases e with
 | normal => exact fin hq
 | ret => exact fin hq
 | _ => exact hq.elim
section
variable {P : Program} {E : Xy} {c : Cx} {a : Act} {st : St}
theorem VR.backV {ρ : List (Nat × Nat)} {c' c0' : Cx} {Hin : List (Nat × Qi)} (hw : c'.w = c0'.w) (hS : c'.S = c0'.S) (hK : ∀ o, c0'.K o → c'.K (rn ρ o)) (hV : ∀ o v, (Qd Hin o).isSome = true → c'.V (rn ρ o) = some v → c0'.V o = some v) {v : Value} {x : AV} (h : VR c0' v x) (hx : Qnu Hin x = true) : VR c' v (Qbi ρ x) := by
 have many : ∀ {vs : List Value} {cs : List AV}, cs.all (Qa1 Hin) = true → (∀ (i : Nat) (v : Value) (x : AV), vs[i]? = some v → cs[i]? = some x → VR c0' v x) → ∀ (i : Nat) (v : Value) (x : AV), vs[i]? = some v → (cs.map (Ye ρ))[i]? = some x → VR c' v x :=
  fun {vs cs} hc h i v x hi hj => by
   rw [List.getElem?_map] at hj
   cases hx : cs[i]? with
   | none => rw [hx] at hj; cases hj
   | some y => rw [hx] at hj; cases hj; exact (h i v y hi hx).back1 hw hS hK hV (List.all_eq_true.1 hc _ (List.mem_of_getElem? hx))
 cases x with
 | agg cs => cases h with
  | fr _ _ h => cases h with | agg vs _ hl h => exact .agg vs _ (by simpa using hl) (many hx (fun i v x h1 h2 => .fr _ _ (h i v x h1 h2)))
  | agg vs _ hl h => exact .agg vs _ (by simpa using hl) (many hx h)
 | tup cs => cases h with
  | fr _ _ h => cases h with | tup vs _ hl h => exact .tup vs _ (by simpa using hl) (many hx (fun i v x h1 h2 => .fr _ _ (h i v x h1 h2)))
  | tup vs _ hl h => exact .tup vs _ (by simpa using hl) (many hx h)
 | fn f cs => cases h with
  | fr _ _ h => cases h with | fn _ vs _ hl h => exact .fn f vs _ (by simpa using hl) (many hx (fun i v x h1 h2 => .fr _ _ (h i v x h1 h2)))
  | fn _ vs _ hl h => exact .fn f vs _ (by simpa using hl) (many hx h)
 | _ => exact VR.back1 hw hS hK hV h hx
theorem Qd4 (g : AV → AV) (es : List (List AV)) : (es.map fun e => e.map g).flatten = es.flatten.map g := by rw [List.map_flatten]
theorem Qlf {g : AV → AV} {cs : List AV} {i : Nat} {x : AV} (h : (cs.map g)[i]? = some x) : ∃ y, cs[i]? = some y ∧ g y = x := by
 rw [List.getElem?_map] at h
 cases hx : cs[i]? with
 | none => rw [hx] at h; cases h
 | some y => rw [hx] at h; cases h; exact ⟨y, rfl, rfl⟩
theorem XE.xcall (hr : XE E c a st) {f : FuncId} {bs : List AV} {Hin Hout : List (Nat × Qi)} {res : AV} {m : Nat} (hc : GX P f bs Hin res Hout m) (ρ : List (Nat × Nat)) (H' : List (Nat × Qi)) (hmB : st.nx + m ≤ Qk)
  (hin : ∀ o ob, Qd Hin o = some ob → Qd st.H (rn ρ o) = some (Qbr ρ ob) ∧ Qk ≤ o ∧ ob.cells.all QbH = true)
  (hnew : ∀ o, o < m → rn ρ o = st.nx + o)
  (inj : ∀ o o', (Qd Hin o).isSome = true → (Qd Hin o').isSome = true → rn ρ o = rn ρ o' → o = o')
  (dom : ∀ o, (Qd Hout o).isSome = true → (Qd Hin o).isSome = true ∨ o < m) (hout : ∀ o ob, Qd Hout o = some ob → ob.cells.all (Qa1 Hout) = true)
  (h1 : ∀ o, (Qd Hin o).isSome = true ∨ o < m → Qd H' (rn ρ o) = (Qd Hout o).map (Qbr ρ)) (h2 : ∀ q, (∀ o, (Qd Hin o).isSome = true ∨ o < m → rn ρ o ≠ q) → Qd H' q = Qd st.H q)
  (hrs : Qnu Hout res = true)
  {vs : List Value} (hvl : vs.length = bs.length) (hbig : bs.all QaA = true) (hv : ∀ (i : Nat) (v : Value) (x : AV), vs[i]? = some v → bs[i]? = some x → VR c v (Qbi ρ x)) :
  Calls P f vs.toArray c.w fun e w' => ∃ v c', e = .returned v ∧ c'.w = w' ∧ XE E c' a ⟨st.t, H', st.nx + m⟩ ∧ VR c' v (Qbi ρ res) := by
 classical
 obtain ⟨V0, hV0⟩ : ∃ V0 : Nat → Option Value, V0 = fun o => if (Qd Hin o).isSome then c.V (rn ρ o) else none := ⟨_, rfl⟩
 have hV0s : ∀ o v, V0 o = some v → c.V (rn ρ o) = some v ∧ (Qd Hin o).isSome = true := fun o v h => by
  rw [hV0] at h; dsimp only at h
  split at h
  ·exact ⟨h, by assumption⟩
  cases h
 have hV0i : ∀ o, (Qd Hin o).isSome = true → V0 o = c.V (rn ρ o) := fun o h => by rw [hV0]; simp [h]
 have hK0 : ∀ o, Qk ≤ o → c.K (rn ρ o) → (⟨c.w, c.S, V0, fun o => Qk ≤ o ∧ c.K (rn ρ o)⟩ : Cx).K o := fun o h1 h2 => ⟨h1, h2⟩
 have gin : GIn Hin ⟨c.w, c.S, V0, fun o => Qk ≤ o ∧ c.K (rn ρ o)⟩ := {
  big := fun o h => h.1
  live := fun o ob ho => by
   obtain ⟨g1, g2, g3⟩ := hin o ob ho
   obtain ⟨hk, v, hvv, hor, _⟩ := hr.live _ _ g1
   refine ⟨⟨g2, hk⟩, v, (hV0i o (by rw [ho]; rfl)).trans hvv, ?_⟩
   have into : ∀ {u : Value} {x : AV}, VR c u (Ye ρ x) → QbH x = true → VR ⟨c.w, c.S, V0, fun o => Qk ≤ o ∧ c.K (rn ρ o)⟩ u x := fun h hx => VR.into1 (c := c) (c0 := ⟨c.w, c.S, V0, fun o => Qk ≤ o ∧ c.K (rn ρ o)⟩) (ρ := ρ) rfl rfl hK0 (fun o v h => (hV0s o v h).1) h hx
   cases ob with
   | var t cs => cases hor with
    | var b ccs _ _ hh hl hp hS =>
     exact .var b ccs t cs hh (by simpa using hl) (fun i u x hi hj => into (hp i u _ hi (by rw [List.getElem?_map, hj]; rfl)) (List.all_eq_true.1 g3 _ (List.mem_of_getElem? hj))) hS
   | tok t k n => cases hor with | tok _ _ _ _ xs ho hS => exact .tok v t k n xs ho hS
   | arr t k es => cases hor with
    | arr _ _ _ _ xs ho hks hp hS =>
     rw [List.length_map] at ho
     exact .arr v t k es xs ho (fun e he => by simpa using hks _ (List.mem_map_of_mem he)) (fun i u x hi hj => into (hp i u _ hi (by rw [Qd4, List.getElem?_map, hj]; rfl)) (List.all_eq_true.1 g3 _ (List.mem_of_getElem? hj))) hS
  dead := fun o ho => by show V0 o = none; rw [hV0]; simp [ho]
  apart := fun o o' v v' b g1 g2 g3 g4 => by
   obtain ⟨k1, k2⟩ := hV0s o v g1
   obtain ⟨k3, k4⟩ := hV0s o' v' g2
   exact inj o o' k2 k4 (hr.apart _ _ v v' b k1 k3 g3 g4)
  Ssz := hr.Ssz }
 refine (hc _ vs gin hvl (fun i v x hi hj => VR.intoV (c := c) (c0 := ⟨c.w, c.S, V0, fun o => Qk ≤ o ∧ c.K (rn ρ o)⟩) (ρ := ρ) rfl rfl hK0 (fun o v h => (hV0s o v h).1) (hv i v x hi hj) (List.all_eq_true.1 hbig _ (List.mem_of_getElem? hj)))).mono ?_
 rintro e w' ⟨v, c0', rfl, rfl, go, hfr⟩
 have fresh : ∀ o, o < m → ¬ c.K (st.nx + o) := fun o ho hk => by
  rcases hr.ids _ hk with h | h
  ·omega
  have := E.kb _ h; omega
 have kin : ∀ o, (Qd Hin o).isSome = true → c.K (rn ρ o) := fun o ho => by
  cases h : Qd Hin o with
  | none => rw [h] at ho; cases ho
  | some ob => exact (gin.live o ob h).1.2
 have injD : ∀ o o', ((Qd Hin o).isSome = true ∨ o < m) → ((Qd Hin o').isSome = true ∨ o' < m) → rn ρ o = rn ρ o' → o = o' := fun o o' g1 g2 e => by
  rcases g1 with g1 | g1 <;> rcases g2 with g2 | g2
  ·exact inj o o' g1 g2 e
  ·rw [hnew o' g2] at e
   exact absurd (e ▸ kin o g1) (fresh o' g2)
  ·rw [hnew o g1] at e
   exact absurd (e ▸ kin o' g2) (fresh o g1)
  rw [hnew o g1, hnew o' g2] at e; omega
 obtain ⟨V', hV'⟩ : ∃ V' : Nat → Option Value, V' = fun q => if h : ∃ o, ((Qd Hin o).isSome = true ∨ o < m) ∧ rn ρ o = q then c0'.V h.choose else c.V q := ⟨_, rfl⟩
 have hVq : ∀ o, ((Qd Hin o).isSome = true ∨ o < m) → V' (rn ρ o) = c0'.V o := fun o ho => by
  have hex : ∃ o', ((Qd Hin o').isSome = true ∨ o' < m) ∧ rn ρ o' = rn ρ o := ⟨o, ho, rfl⟩
  rw [hV']
  dsimp only
  rw [dif_pos hex]
  exact congrArg c0'.V (injD _ _ hex.choose_spec.1 ho hex.choose_spec.2)
 have hVn : ∀ q, (∀ o, ((Qd Hin o).isSome = true ∨ o < m) → rn ρ o ≠ q) → V' q = c.V q := fun q hq => by
  have hex : ¬ ∃ o', ((Qd Hin o').isSome = true ∨ o' < m) ∧ rn ρ o' = q := fun ⟨o, g1, g2⟩ => hq o g1 g2
  rw [hV']
  dsimp only
  rw [dif_neg hex]
 have part : ∀ q, (∃ o, ((Qd Hin o).isSome = true ∨ o < m) ∧ rn ρ o = q) ∨ (∀ o, ((Qd Hin o).isSome = true ∨ o < m) → rn ρ o ≠ q) := fun q => by
  by_cases h : ∃ o, ((Qd Hin o).isSome = true ∨ o < m) ∧ rn ρ o = q
  ·exact .inl h
  exact .inr (fun o g1 g2 => h ⟨o, g1, g2⟩)
 let K' : Nat → Prop := fun q => c.K q ∨ (st.nx ≤ q ∧ q < st.nx + m)
 have hKb : ∀ o, c0'.K o → K' (rn ρ o) := fun o hk => by
  rcases (go.K o).1 hk with h | h
  ·exact .inl h.2
  exact .inr (by rw [hnew o h]; omega)
 have hlec : c.le ⟨c0'.w, c0'.S, V', K'⟩ := ⟨fun b off hs => go.le.S b off hs, fun _ h => .inl h, fun q hk => by
  rcases part q with ⟨o, g1, rfl⟩ | hq
  ·rcases g1 with g1 | g1
   ·show Wb (c.V (rn ρ o)) (V' (rn ρ o))
    rw [hVq o (.inl g1), ← hV0i o g1]
    cases ho : Qd Hin o with
    | none => rw [ho] at g1; cases g1
    | some ob => exact go.le.V o (gin.live o ob ho).1
   rw [hnew o g1] at hk
   exact absurd hk (fresh o g1)
  exact .inl (hVn q hq)⟩
 have hsz := go.size
 have hDout : ∀ o ob, Qd Hout o = some ob → (Qd Hin o).isSome = true ∨ o < m := fun o ob h => dom o (by rw [h]; rfl)
 have oth : ∀ q u, (∀ o, ((Qd Hin o).isSome = true ∨ o < m) → rn ρ o ≠ q) → c.V q = some u → ∀ b, QR u = some b → ∀ o v, V0 o = some v → QR v ≠ some b := fun q u hq hu b hb o v hov e => by
  obtain ⟨k1, k2⟩ := hV0s o v hov
  exact hq o (.inl k2) (hr.apart _ _ v u b k1 hu e hb)
 have lv : ∀ q u, c.V q = some u → ∃ ob, Qd st.H q = some ob ∧ OR c u ob ∧ ∀ b, QR u = some b → E.Wr b := fun q u hu => by
  cases hl : Qd st.H q with
  | none => rw [hr.dead q hl] at hu; cases hu
  | some ob =>
   obtain ⟨_, u', hu', hor, hwr⟩ := hr.live q ob hl
   rw [hu] at hu'; cases hu'
   exact ⟨ob, rfl, hor, hwr⟩
 have wrIn : ∀ o v b, V0 o = some v → QR v = some b → E.Wr b ∧ b < c.w.heap.size := fun o v b hov hb => by
  obtain ⟨ob, _, hor, hwr⟩ := lv _ _ (hV0s o v hov).1
  exact ⟨hwr b hb, hor.lt hb⟩
 have bk : ∀ {u : Value} {x : AV}, VR c0' u x → Qa1 Hout x = true → VR ⟨c0'.w, c0'.S, V', K'⟩ u (Ye ρ x) := fun h hx =>
  VR.back1 (c0' := c0') (c' := ⟨c0'.w, c0'.S, V', K'⟩) (Hin := Hout) rfl rfl hKb (fun o v hs e => by rw [← hVq o (dom o hs)]; exact e) h hx
 refine ⟨v, ⟨c0'.w, c0'.S, V', K'⟩, rfl, rfl, ?_, VR.backV (c0' := c0') (c' := ⟨c0'.w, c0'.S, V', K'⟩) (Hin := Hout) rfl rfl hKb (fun o v hs e => by rw [← hVq o (dom o hs)]; exact e) hfr hrs⟩
 exact {
  defers := hr.defers, size := hr.size
  tmps := fun i => (hr.tmps i).mono hlec
  live := fun q ob hq => by
   rcases part q with ⟨o, g1, rfl⟩ | hnq
   ·have hq' := h1 o g1
    rw [show Qd H' (rn ρ o) = some ob from hq] at hq'
    cases ho : Qd Hout o with
    | none => rw [ho] at hq'; cases hq'
    | some ob0 =>
     rw [ho] at hq'
     have : ob = Qbr ρ ob0 := Option.some.inj hq'
     subst this
     obtain ⟨hk0, u, hu, hor, hbl⟩ := go.live o ob0 ho
     refine ⟨hKb o hk0, u, (hVq o g1).trans hu, ?_, fun b hb => ?_⟩
     ·have hio := hout o ob0 ho
      cases ob0 with
      | var t cs => cases hor with
       | var b ccs _ _ hh hl hp hS =>
        exact .var b ccs t _ hh (by simpa using hl) (fun i u x hi hj => by
         obtain ⟨x0, hx, rfl⟩ := Qlf hj
         exact bk (hp i u x0 hi hx) (List.all_eq_true.1 hio _ (List.mem_of_getElem? hx))) hS
      | tok t k n => cases hor with | tok _ _ _ _ xs ho hS => exact .tok u t k n xs ho hS
      | arr t k es => cases hor with
       | arr _ _ _ _ xs ho hks hp hS =>
        exact .arr u t k _ xs (by rw [List.length_map]; exact ho) (fun e he => by
         obtain ⟨e0, h0, rfl⟩ := List.mem_map.1 he
         simpa using hks e0 h0) (fun i u x hi hj => by
         rw [Qd4] at hj
         obtain ⟨x0, hx, rfl⟩ := Qlf hj
         exact bk (hp i u x0 hi hx) (List.all_eq_true.1 hio _ (List.mem_of_getElem? hx))) hS
     rcases hbl b hb with ⟨o', v', g2, g3⟩ | g2
     ·exact (wrIn o' v' b g2 g3).1
     exact E.new b (Nat.le_trans hr.grown g2)
   have hq' : Qd st.H q = some ob := by rw [← h2 q hnq]; exact hq
   obtain ⟨hk, u, hu, hor, hwr⟩ := hr.live q ob hq'
   refine ⟨.inl hk, u, (hVn q hnq).trans hu, ?_, hwr⟩
   have hst : ∀ b, QR u = some b → c0'.w.heap[b]? = c.w.heap[b]? := fun b hb => go.frame b (hor.lt hb) (fun o v hov => oth q u hnq hu b hb o v hov)
   have hSs : ∀ b, QR u = some b → ∀ off, c0'.S b off → c.S b off := fun b hb off hs => by
    rcases go.Snew b off hs with g1 | ⟨o, v, g1, g2⟩ | g1
    ·exact g1
    ·exact absurd g2 (oth q u hnq hu b hb o v g1)
    have := hor.lt hb
    have g1 : c.w.heap.size ≤ b := g1
    omega
   cases hor with
   | var b ccs t cs hh hl hp hn => exact .var b ccs t cs ((hst b rfl).trans hh) hl (fun i u x h1 h2 => (hp i u x h1 h2).mono hlec) (fun off hs => hn off (hSs b rfl off hs))
   | tok _ t k n xs ho2 hn =>
    refine .tok u t k n xs ?_ (fun b hb off hle hs => hn b hb off hle (hSs b hb off hs))
    refine ⟨ho2.1, ?_⟩
    rcases ho2.2 with h1 | ⟨g, cap, cur, rfl, h1, h2, h3⟩
    ·exact .inl h1
    exact .inr ⟨g, cap, cur, rfl, h1, (hst g rfl).trans h2, h3⟩
   | arr _ t k es xs ho2 hk2 hp hn =>
    refine .arr u t k es xs ?_ hk2 (fun i u x h1 h2 => (hp i u x h1 h2).mono hlec) (fun b hb off hs => hn b hb off (hSs b hb off hs))
    refine ⟨ho2.1, ?_⟩
    rcases ho2.2 with h1 | ⟨g, cap, cur, rfl, h1, h2, h3⟩
    ·exact .inl h1
    exact .inr ⟨g, cap, cur, rfl, h1, (hst g rfl).trans h2, h3⟩
  dead := fun q hq => by
   rcases part q with ⟨o, g1, rfl⟩ | hnq
   ·have h3 := h1 o g1
    rw [show Qd H' (rn ρ o) = none from hq] at h3
    cases ho : Qd Hout o with
    | some ob0 => rw [ho] at h3; cases h3
    | none => exact (hVq o g1).trans (go.dead o ho)
   exact (hVn q hnq).trans (hr.dead q (by rw [← h2 q hnq]; exact hq))
  apart := fun q q' u u' b hu hu' hb1 hb2 => by
   have ofIn : ∀ o v, c0'.V o = some v → ∀ b, QR v = some b → (∃ o' v', V0 o' = some v' ∧ QR v' = some b) ∨ c.w.heap.size ≤ b := fun o v g2 b hb => by
    cases ho : Qd Hout o with
    | none => rw [go.dead o ho] at g2; cases g2
    | some ob0 =>
     obtain ⟨_, v2, g3, _, g4⟩ := go.live o ob0 ho
     rw [g2] at g3; cases g3
     exact g4 b hb
   have mix : ∀ o v q u b, c0'.V o = some v → (∀ o, ((Qd Hin o).isSome = true ∨ o < m) → rn ρ o ≠ q) → c.V q = some u → QR v = some b → QR u = some b → False := fun o v q u b g2 g3 g4 g5 g6 => by
    rcases ofIn o v g2 b g5 with ⟨o', v', k1, k2⟩ | k1
    ·exact oth q u g3 g4 b g6 o' v' k1 k2
    obtain ⟨ob, _, hor, _⟩ := lv q u g4
    have := hor.lt g6
    omega
   have hu : V' q = some u := hu
   have hu' : V' q' = some u' := hu'
   rcases part q with ⟨o, g1, rfl⟩ | hnq <;> rcases part q' with ⟨o', g2, rfl⟩ | hnq'
   ·rw [hVq o g1] at hu
    rw [hVq o' g2] at hu'
    rw [go.apart o o' u u' b hu hu' hb1 hb2]
   ·rw [hVq o g1] at hu
    rw [hVn q' hnq'] at hu'
    exact (mix o u q' u' b hu hnq' hu' hb1 hb2).elim
   ·rw [hVn q hnq] at hu
    rw [hVq o' g2] at hu'
    exact (mix o' u' q u b hu' hnq hu hb2 hb1).elim
   rw [hVn q hnq] at hu
   rw [hVn q' hnq'] at hu'
   exact hr.apart q q' u u' b hu hu' hb1 hb2
  ids := fun q hk => by
   rcases hk with hk | hk
   ·rcases hr.ids q hk with h | h
    ·exact .inl (by show q < st.nx + m; omega)
    exact .inr h
   exact .inl hk.2
  nxB := hmB, kbs := fun q h => .inl (hr.kbs q h)
  V0 := fun q hk => (hr.V0 q hk).trans (hlec.V q (hr.kbs q hk))
  Ssz := go.Ssz
  os := go.os.trans hr.os, tape := go.tape.trans hr.tape, output := go.output.trans hr.output, drawn := Nat.le_trans hr.drawn go.drawn
  grown := Nat.le_trans hr.grown hsz
  frame := fun b hb hn => by
   refine (go.frame b (Nat.lt_of_lt_of_le hb hr.grown) (fun o v hov e => hn (wrIn o v b hov e).1)).trans (hr.frame b hb hn)
  S0 := fun b off hs => ⟨(go.le.S _ _ (hr.S0 b off hs).1).1, ((go.le.S _ _ (hr.S0 b off hs).1).2).trans (hr.S0 b off hs).2⟩
  Snew := fun b off hs => by
   rcases go.Snew b off hs with g1 | ⟨o, v, g1, g2⟩ | g1
   ·exact hr.Snew b off g1
   ·exact .inr (wrIn o v b g1 g2).1
   exact .inr (E.new b (Nat.le_trans hr.grown g1)) }
end
def Qfi (nx : Nat) : Nat → List (Nat × Nat)
 | 0 => []
 | m + 1 => (m, nx + m) :: Qfi nx m
theorem Qaq (nx : Nat) : ∀ m o, Qd (Qfi nx m) o = if o < m then some (nx + o) else none
 | 0, o => by simp [Qfi, Qd]
 | m + 1, o => by
  rw [Qfi, Qp, Qaq nx m o]
  by_cases h : o = m
  ·subst h; simp
  rw [if_neg h]
  by_cases h2 : o < m
  ·rw [if_pos h2, if_pos (by omega)]
  rw [if_neg h2, if_neg (by omega)]
theorem Qbu {α : Type} : ∀ (l r : List (Nat × α)) (o : Nat), Qd (l ++ r) o = (Qd l o).or (Qd r o)
 | [], r, o => by simp [Qd]
 | (j, x) :: l, r, o => by
  rw [List.cons_append, Qp, Qp, Qbu l r o]
  split <;> rfl
theorem Qb0 {α : Type} : ∀ {l : List (Nat × α)} {o : Nat}, (∀ p ∈ l, p.1 ≠ o) → Qd l o = none
 | [], _, _ => rfl
 | (j, x) :: l, o, h => by
  rw [Qp, if_neg (fun e => h (j, x) (.head _) e.symm)]
  exact Qb0 fun p hp => h p (.tail _ hp)
theorem QgA {α : Type} : ∀ {l : List (Nat × α)} {p : Nat × α}, p ∈ l → (Qd l p.1).isSome = true
 | (j, x) :: l, p, h => by
  rw [Qp]
  split
  ·rfl
  rename_i hne
  cases h with
  | head => exact absurd rfl hne
  | tail _ h => exact QgA h
theorem Qbo {α : Type} {l : List (Nat × α)} {o : Nat} (h : (Qd l o).isSome = true) : ∃ p ∈ l, p.1 = o := by
 cases hx : Qd l o with
 | none => rw [hx] at h; cases h
 | some x => exact ⟨(o, x), JO hx, rfl⟩
def QjK (ρ : List (Nat × Nat)) (H : List (Nat × Qi)) : List (Nat × Qi) → Prop
 | [] => True
 | (o, ob) :: r => Qd H (rn ρ o) = some (Qbr ρ ob) ∧ Nat.ble Qk o = true ∧ ob.cells.all QbH = true ∧ QjK ρ H r
theorem QcM {ρ : List (Nat × Nat)} {H : List (Nat × Qi)} : ∀ {Hin : List (Nat × Qi)}, QjK ρ H Hin → ∀ o ob, Qd Hin o = some ob → Qd H (rn ρ o) = some (Qbr ρ ob) ∧ Qk ≤ o ∧ ob.cells.all QbH = true
 | [], _, _, _, h => by cases h
 | (q, ob') :: r, ⟨h1, h2, h3, h4⟩, o, ob, h => by
  rw [Qp] at h
  split at h
  ·rename_i e; cases h; subst e; exact ⟨h1, Nat.le_of_ble_eq_true h2, h3⟩
  exact QcM h4 o ob h
def Qkf (Ho : List (Nat × Qi)) : List (Nat × Qi) → Prop
 | [] => True
 | (_, ob) :: r => ob.cells.all (Qa1 Ho) = true ∧ Qkf Ho r
theorem Qc7 {Ho : List (Nat × Qi)} : ∀ {l : List (Nat × Qi)}, Qkf Ho l → ∀ o ob, Qd l o = some ob → ob.cells.all (Qa1 Ho) = true
 | [], _, _, _, h => by cases h
 | (q, ob') :: r, ⟨h1, h2⟩, o, ob, h => by
  rw [Qp] at h
  split at h
  ·cases h; exact h1
  exact Qc7 h2 o ob h
def QnG (st : St) (m : Nat) : List (Nat × Qi) → Prop
 | [] => True
 | (o, ob) :: r => Qd st.H o = some ob ∧ (Nat.blt o m || Nat.ble Qk o) = true ∧ X5 m ob = true ∧ QnG st m r
theorem Qen {st : St} {m : Nat} : ∀ {l : List (Nat × Qi)}, QnG st m l → ∀ o ob, Qd l o = some ob → Qd st.H o = some ob ∧ (Nat.blt o m || Nat.ble Qk o) = true ∧ X5 m ob = true
 | [], _, _, _, h => by cases h
 | (q, ob') :: r, ⟨h1, h2, h3, h4⟩, o, ob, h => by
  rw [Qp] at h
  split at h
  ·rename_i e; cases h; subst e; exact ⟨h1, h2, h3⟩
  exact Qen h4 o ob h
theorem Qci {ts : List Nat} {st : St} {r res : AV} {Hout : List (Nat × Qi)} {m : Nat} (h : (XP st ts).ntt = r) (hr : r = res) (hok : okId m res = true) (hn : Nat.ble st.nx m = true) (hm : Nat.ble m Qk = true) (hx : QnG st m Hout) :
  (XP st ts).ntt = res ∧ okId m res = true ∧ Nat.ble st.nx m = true ∧ Nat.ble m Qk = true ∧ ∀ o ob, Qd Hout o = some ob → Qd st.H o = some ob ∧ (Nat.blt o m || Nat.ble Qk o) = true ∧ X5 m ob = true :=
 ⟨by rw [h, hr], hok, hn, hm, Qen hx⟩
def xOk (ρ : List (Nat × Nat)) (ρ' : List (Nat × Nat)) (Hin Hout : List (Nat × Qi)) (m nx : Nat) : Bool :=
 ρ.all (fun p => Nat.ble Qk p.1) && Nat.ble (nx + m) Qk && Hin.all (fun p => Hin.all fun q => !(Nat.beq (rn ρ' p.1) (rn ρ' q.1)) || Nat.beq p.1 q.1) && Hout.all (fun p => (Qd Hin p.1).isSome || Nat.blt p.1 m) && Hin.all (fun p => (Qd Hout p.1).isSome)
theorem Qmf {ρ : List (Nat × Nat)} {x : AV} (h : x.fz1 = some x) : Ye ρ x = x := by
 cases x with
 | sl es tk => cases tk with
  | none => rfl
  | some o => simp [AV.fz1] at h
 | ptr o off => simp [AV.fz1] at h
 | own o n => simp [AV.fz1] at h
 | eptr o n off => simp [AV.fz1] at h
 | _ => rfl
theorem Qhf {ρ : List (Nat × Nat)} {es : List (List AV)} (h : ∀ e ∈ es, fzs e = some e) : (es.map fun e => e.map (Ye ρ)) = es := by
 have : ∀ e ∈ es, e.map (Ye ρ) = e := fun e he => by
  have h2 := (Yc (h e he)).2
  refine List.ext_getElem? fun i => ?_
  rw [List.getElem?_map]
  cases hx : e[i]? with
  | none => rfl
  | some x => exact congrArg some (Qmf (h2 i x x hx hx))
 rw [List.map_congr_left this, List.map_id']
section
variable {P : Program} {E : Xy} {Q : Exit → St → Prop} {ops : Array Oper} {o : Oper} {rest : List Oper} {t : List (Nat × AV)} {H : List (Nat × Qi)} {nx N d : Nat} {w : Bool}
theorem Km (hN : E.N = N) {f : FuncId} {bs avs : List AV} {Hin Hout : List (Nat × Qi)} {res res' : AV} {m : Nat} (ρ : List (Nat × Nat)) (hc : GX P f bs Hin res Hout m) [hf : QZ P f] (ho : K2 ⟨t, H, nx⟩ o f avs) {ρ' : List (Nat × Nat)} (hρ : ρ ++ Qfi nx m = ρ') (hab : bs.map (Qbi ρ') = avs) (hbig : bs.all QaA = true)
  (hin : QjK ρ' H Hin) (hk : xOk ρ ρ' Hin Hout m nx = true) (hout : Qkf Hout Hout) (hrs : Qnu Hout res = true) {Hn H' : List (Nat × Qi)} (hHn : Hout.map (fun p => (rn ρ' p.1, Qbr ρ' p.2)) = Hn) (hH : Hn ++ H = H') (hre : Qbi ρ' res = res')
  (hg : Qh ops ⟨t, H, nx⟩ o = some w) (hw : w = true) (hd : o.dst = some d) (hdN : Nat.blt d N = true)
  (h : Ql P E ops rest Q ⟨(d, res') :: t, H', nx + m⟩) : Ql P E ops (o :: rest) Q ⟨t, H, nx⟩ := fun c a hr => by
 subst hw hH hre hHn
 simp only [xOk, Bool.and_eq_true] at hk
 obtain ⟨⟨⟨⟨k1, k2⟩, k3⟩, k4⟩, k5⟩ := hk
 have hmB : nx + m ≤ Qk := Nat.le_of_ble_eq_true k2
 have hnew : ∀ o, o < m → rn ρ' o = nx + o := fun o ho => by
  have h0 : Qd ρ o = none := Qb0 fun p hp e => by
   have := Nat.le_of_ble_eq_true (List.all_eq_true.1 k1 p hp)
   omega
  rw [← hρ, rn, Qbu, h0, Qaq, if_pos ho]
  rfl
 have hdi := QcM hin
 have inj : ∀ o o', (Qd Hin o).isSome = true → (Qd Hin o').isSome = true → rn ρ' o = rn ρ' o' → o = o' := fun o o' g1 g2 e => by
  obtain ⟨p, hp, rfl⟩ := Qbo g1
  obtain ⟨q, hq, rfl⟩ := Qbo g2
  have := List.all_eq_true.1 (List.all_eq_true.1 k3 p hp) q hq
  rw [e, Nat.beq_refl, Bool.not_true, Bool.false_or] at this
  exact Nat.eq_of_beq_eq_true this
 have dom : ∀ o, (Qd Hout o).isSome = true → (Qd Hin o).isSome = true ∨ o < m := fun o g => by
  obtain ⟨p, hp, rfl⟩ := Qbo g
  rcases Bool.or_eq_true _ _ ▸ List.all_eq_true.1 k4 p hp with h | h
  ·exact .inl h
  exact .inr (Nat.le_of_ble_eq_true h)
 have dom2 : ∀ o, (Qd Hin o).isSome = true → (Qd Hout o).isSome = true := fun o g => by
  obtain ⟨p, hp, rfl⟩ := Qbo g
  exact List.all_eq_true.1 k5 p hp
 have fresh : ∀ o, o < m → Qd H (nx + o) = none := fun o ho => by
  cases hx : Qd H (nx + o) with
  | none => rfl
  | some ob =>
   rcases hr.ids _ (hr.live _ ob hx).1 with h | h
   ·have h : nx + o < nx := h
    omega
   have := E.kb _ h; omega
 have kin : ∀ o, (Qd Hin o).isSome = true → rn ρ' o < nx ∨ Qk ≤ rn ρ' o := fun o g => by
  cases hx : Qd Hin o with
  | none => rw [hx] at g; cases g
  | some ob =>
   rcases hr.ids _ (hr.live _ _ (hdi o ob hx).1).1 with h | h
   ·exact .inl h
   exact .inr (E.kb _ h)
 have injD : ∀ o o', ((Qd Hin o).isSome = true ∨ o < m) → ((Qd Hin o').isSome = true ∨ o' < m) → rn ρ' o = rn ρ' o' → o = o' := fun o o' g1 g2 e => by
  rcases g1 with g1 | g1 <;> rcases g2 with g2 | g2
  ·exact inj o o' g1 g2 e
  ·have := kin o g1; rw [e, hnew o' g2] at this; omega
  ·have := kin o' g2; rw [← e, hnew o g1] at this; omega
  rw [hnew o g1, hnew o' g2] at e; omega
 have lk : ∀ (l : List (Nat × Qi)), (∀ p ∈ l, (Qd Hin p.1).isSome = true ∨ p.1 < m) → ∀ o, ((Qd Hin o).isSome = true ∨ o < m) → Qd (l.map fun p => (rn ρ' p.1, Qbr ρ' p.2)) (rn ρ' o) = (Qd l o).map (Qbr ρ') := by
  intro l
  induction l with
  | nil => intro _ o _; rfl
  | cons p l ih =>
   intro hl o hD
   obtain ⟨j, x⟩ := p
   rw [List.map_cons, Qp, Qp]
   by_cases e : o = j
   ·subst e; rw [if_pos rfl, if_pos rfl]; rfl
   rw [if_neg e, if_neg (fun e2 => e (injD o j hD (hl (j, x) (.head _)) e2))]
   exact ih (fun p hp => hl p (.tail _ hp)) o hD
 have hDl : ∀ p ∈ Hout, (Qd Hin p.1).isSome = true ∨ p.1 < m := fun p hp => dom p.1 (QgA hp)
 refine wpList_step fun K hK => ?_
 rw [XD hg hr, if_pos rfl]
 obtain ⟨vs, hrun, hvl, hv⟩ := ho.run (P := P) hr
 unfold Oper.wp
 rw [hrun, Oper.upon_enter]
 subst hab
 refine (hr.xcall hc ρ' (Hout.map (fun p => (rn ρ' p.1, Qbr ρ' p.2)) ++ H) hmB hdi hnew inj dom (Qc7 hout) (fun o hD => ?_) (fun q hq => ?_) hrs (by simpa using hvl) hbig (fun i v x hi hj => hv i v _ hi (by rw [List.getElem?_map, hj]; rfl))).mono ?_
 ·rw [Qbu, lk Hout hDl o hD]
  cases hx : Qd Hout o with
  | some ob => rfl
  | none =>
   rcases hD with h | h
   ·have := dom2 o h; rw [hx] at this; cases this
   show Qd H (rn ρ' o) = none
   rw [hnew o h]; exact fresh o h
 ·rw [Qbu, Qb0 (fun p hp e => ?_)]
  ·rfl
  obtain ⟨p0, hp0, rfl⟩ := List.mem_map.1 hp
  exact hq p0.1 (hDl p0 hp0) e
 rintro e w' ⟨v, c', rfl, rfl, hr', hvr⟩
 have hput := hr'.put (d := o.dst) (dlt hN hd hdN) hvr
 rw [hd] at hput
 refine hK _ _ (h c' _ ?_)
 rw [hd]
 exact hput
end
section
variable {P : Program} {E : Xy} {Q : Exit → St → Prop} {ops : Array Oper} {o : Oper} {rest : List Oper} {t : List (Nat × AV)} {H : List (Nat × Qi)} {nx N d : Nat} {w : Bool}
end
section
variable {P : Program} {E : Xy} {st : St} {o : Oper} {c : Cx} {a : Act}
end
section
variable {P : Program} {E : Xy} {ops : Array Oper} {o : Oper} {w : Bool} {N d : Nat} {s : St}
end
section
variable {P : Program} {E : Xy} {st : St} {o : Oper}
end
section
variable {P : Program} {E : Xy} {Q : Exit → St → Prop} {ops : Array Oper} {o : Oper} {rest : List Oper} {t : List (Nat × AV)} {H : List (Nat × Qi)} {nx N d : Nat} {w : Bool} {c : Cx} {a : Act}
end
section
variable {E : Xy} {t : List (Nat × AV)} {H : List (Nat × Qi)} {nx : Nat}
end
section
variable {P : Program} {E : Xy} {ops : Array Oper} {md : Region.Mode}
def Xy.at (E : Xy) (c : Cx) (hg : E.w0.heap.size ≤ c.w.heap.size) : Xy := ⟨E.N, c.w, c.S, E.Wr, fun b h => E.new b (Nat.le_trans hg h), E.KB, E.kb, c.V⟩
theorem XE.back {c c2 : Cx} {a a2 : Act} {s s2 : St} (hr : XE E c a s) (h : XE (E.at c hr.grown) c2 a2 s2) : XE E c2 a2 s2 := {
 defers := h.defers, size := h.size, tmps := h.tmps, live := h.live, dead := h.dead, apart := h.apart, ids := h.ids, nxB := h.nxB, kbs := h.kbs
 V0 := fun o ho => (hr.V0 o ho).trans (h.V0 o ho), Ssz := h.Ssz, os := h.os.trans hr.os, tape := h.tape.trans hr.tape, output := h.output.trans hr.output
 drawn := Nat.le_trans hr.drawn h.drawn, grown := Nat.le_trans hr.grown h.grown
 frame := fun b hb hw => (h.frame b (Nat.lt_of_lt_of_le hb hr.grown) hw).trans (hr.frame b hb hw)
 S0 := fun b off hs => by
  obtain ⟨h1, h2⟩ := hr.S0 b off hs
  obtain ⟨h3, h4⟩ := h.S0 b off h1
  exact ⟨h3, h4.trans h2⟩
 Snew := fun b off hs => by
  rcases h.Snew b off hs with h1 | h1
  ·exact hr.Snew b off h1
  exact .inr h1 }
variable {o : Oper} {t : List (Nat × AV)} {H : List (Nat × Qi)} {nx N d : Nat} {w : Bool}
end
section
variable {P : Program} {E : Xy} {Q : Exit → St → Prop} {ops : Array Oper} {o : Oper} {rest : List Oper} {t : List (Nat × AV)} {H : List (Nat × Qi)} {nx N d : Nat} {w : Bool}
end
section
variable {P : Program} {E : Xy} {ops : Array Oper}
end
end Go.Proofs.YtnkkokmmeplbgaaGreat
