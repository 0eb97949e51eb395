/-
  A row of one's own that an element of another row of one's o
-/
import Derived.Test.YtaecccdkjmipeaaGreatA8
import Derived.Scope
import Derived.Test.YtaecccdkjmipeaaGreatA2
import Derived.Test.YtaecccdkjmipeaaGreatA3
import Derived.Test.YtaecccdkjmipeaaGreatT5
import Derived.Test.YtaecccdkjmipeaaGreatA5
import Derived.ChangeKeysEq
import Derived.OrdersHeld
namespace Go.Proofs.YtaecccdkjmipeaaGreat
open Go.RowKit
def QtR (Q : Exit → St → Prop) : Exit → St → Prop
 | .goto _, _ => False
 | e, st => Q e st
theorem QpV {P : Program} {E : J1} {Q : Exit → St → Prop} {st : St} {x : Code} (h : J5 P E x (QtR Q) st) : J5 P E (.scope x) Q st := fun c a hr => by
 refine wp_scope_straight (wp_mono (h c a hr) ?_)
 rintro e a' w' ⟨c', st', rfl, hr', hq⟩
 cases e with
 | goto l => exact hq.elim
 | _ => exact ⟨c', st', rfl, hr', hq⟩
theorem WO {P : Program} {E : J1} {st : St} {o : Oper} {t e : TypeId} {l n : Nat} {parts : Array (Nat × Operand)} (ho : o.op = .build t parts) {zs : List Value} [hT : Qmo P t l e n] [hZ : Q5 P t zs] {ps : List (Nat × List AV)} (hp : Qdb st parts.toList = some ps) {cs : List AV} (hf : QcF ((List.range l).map fun i => (i * n, n)) (zs.map .p) ps = some cs) : PY P E o st (.agg cs) := by
 refine YZ fun st' h1 h2 c a hr => ?_
 obtain ⟨g1, g2⟩ := Qak hr h2 (fun q hq => h1 q.2 (by
  simp only [ho, Op.operands]
  simp only [List.mem_toArray, List.mem_map]
  exact ⟨q, hq, rfl⟩)) hp
 have hz := hZ.h
 cases hi : P.info? t with
 | none => simp [hi] at hz
 | some i =>
  cases hz0 : i.zero with
  | none => simp [hi, hz0] at hz
  | some z =>
   have hzc : z.cells.toList = zs := by simpa [hi, hz0] using hz
   obtain ⟨cells', f1, f2, f3⟩ := Qe7 (c := c) (pl := (List.range l).map fun i => (i * n, n)) (place := fun j => some (j * n, n)) (fun j os h => by
     rw [List.getElem?_map] at h
     cases hj : (List.range l)[j]? with
     | none => rw [hj] at h; cases h
     | some q =>
      rw [hj] at h
      obtain ⟨h3, h4⟩ := List.getElem?_eq_some_iff.1 hj
      rw [List.getElem_range] at h4
      subst h4
      exact h) _ ps z.cells (zs.map .p) cs g1 g2 (by rw [← hzc]; simp) (fun j u y hj hk => by
     rw [← hzc, List.getElem?_map] at hk
     have hj' : z.cells.toList[j]? = some u := by simpa using hj
     rw [hj'] at hk
     cases hk
     exact .fr _ _ (.p u)) hf
   refine ⟨.agg cells', ?_, ?_⟩
   ·have hpt : (parts.map fun (i, x) => (i, a.eval x)).toList = parts.toList.map fun (i, x) => (i, a.eval x) := by simp
    simp only [execOp, ho, Sem.run_bind, Instr.build, zeroValue, typeInfo, run_program, Result.andThen_ok, hi, Sem.run_pure, hz0, run_underlying (Qcy hT.h), XO hT.size, hpt, f1]
   ·have := VR.agg (c := c) cells'.toList cs (by simpa using f2) (fun j u y hj hk => f3 j u y (by simpa using hj) hk)
    simpa using this
theorem QiU {x : AV} : ∀ {eo : List (List AV)} {j i : Nat}, (∀ e ∈ eo, e.length = 1) → (eo.set j [x]).flatten[i]? = if i = j ∧ j < eo.length then some x else eo.flatten[i]?
 | [], j, i, _ => by simp
 | e :: eo, 0, i, h => by
  obtain ⟨y, rfl⟩ := List.length_eq_one_iff.1 (h e (by simp))
  cases i <;> simp
 | e :: eo, j + 1, i, h => by
  obtain ⟨y, rfl⟩ := List.length_eq_one_iff.1 (h e (by simp))
  have ih := fun i => QiU (x := x) (eo := eo) (j := j) (i := i) (fun e he => h e (by simp [he]))
  cases i with
  | zero => simp
  | succ i =>
   rw [List.set_cons_succ, List.flatten_cons, List.flatten_cons]
   simp only [List.singleton_append, List.getElem?_cons_succ, ih, List.length_cons, Nat.add_right_cancel_iff, Nat.add_lt_add_iff_right]
theorem QlS {x : AV} : ∀ {eo : List (List AV)} {j : Nat}, (∀ e ∈ eo, e.length = 1) → eo[j]? = some [x] → eo.flatten[j]? = some x
 | [], j, _, h => by simp at h
 | e :: eo, 0, _, h => by simp at h; subst h; simp
 | e :: eo, j + 1, hk, h => by
  obtain ⟨y, rfl⟩ := List.length_eq_one_iff.1 (hk e (by simp))
  rw [List.getElem?_cons_succ] at h
  rw [List.flatten_cons, List.singleton_append, List.getElem?_cons_succ]
  exact QlS (fun e he => hk e (by simp [he])) h
theorem QqD {w : World} {base : Nat} {t : TypeId} {k n : Nat} {v : Value} {xs ys : List Value} (h : w.ownsRow base t k v n xs) (h' : w.ownsRow base t k v n ys) : xs = ys := by
 have hl : xs.length = ys.length := h.1.trans h'.1.symm
 refine List.ext_getElem? fun i => ?_
 rcases Nat.lt_or_ge i xs.length with hi | hi
 ·obtain ⟨g, cp, e1, e2⟩ := K6 h (List.getElem?_eq_getElem hi)
  obtain ⟨g', cp', e1', e2'⟩ := K6 h' (List.getElem?_eq_getElem (hl ▸ hi))
  rw [e1] at e1'
  cases e1'
  rw [e2] at e2'
  rw [List.getElem?_eq_getElem hi, List.getElem?_eq_getElem (hl ▸ hi)]
  exact e2'
 ·rw [List.getElem?_eq_none hi, List.getElem?_eq_none (hl ▸ hi)]
theorem Qhh {E : J1} {t : List (Nat × AV)} {H : List (Nat × QH)} {nx : Nat} (q j o : Nat) {tt : TypeId} {eo : List (List AV)} {n : Nat} {te : TypeId} {k : Nat} {es : List (List AV)} (hq : Ql H q = some (.arr tt 1 eo)) (hj : eo[j]? = some [.own o n]) (ho : Ql H o = some (.arr te k es)) (hqo : Nat.beq q o = false) (hn : n = es.length) (hk : es.all (okE k) = true) (hz : ∀ e ∈ es, fzs e = some e) {H' : List (Nat × QH)} (hH : YE o H = H') {eo' : List (List AV)} (he' : eo.set j [.sl es none] = eo') :
  WM E ⟨t, H, nx⟩ ⟨t, (q, .arr tt 1 eo') :: H', nx⟩ := fun c a hr => by
 subst hH hn he'
 have hne : q ≠ o := fun e => by rw [e, Nat.beq_refl] at hqo; cases hqo
 obtain ⟨hKq, vq, hVq, hor, hwr⟩ := hr.live o _ ho
 obtain ⟨c', e1, hS', hle, hr'⟩ := hr.give ho hVq (fun b off => Xi vq = some b ∧ off < es.length * k) (fun b off h => h.1)
 have hcell : ∀ u, VR c u (.own o es.length) → VR c' u (.sl es none) := fun u hv => by
  cases hor with
  | arr _ _ _ _ xs hown hek hx hSq =>
   obtain ⟨A0, cap0, hA0⟩ := YT hown
   have hvq : u = vq := by
    cases hv with
    | fr _ _ h => cases h
    | own _ _ _ hK hV => rw [(hV A0 _ cap0 (by rw [hVq, hA0])).2 rfl, hA0]
   rw [hvq]
   refine .fr _ _ (FR.of_own (xs := xs) (n := es.length) (te := te) (k := k) (by rw [e1]; exact hown) rfl hk (fun b hb off hoff => (hS' b off).2 (.inr ⟨hb, hoff⟩)) (fun i u y hi hy => ?_))
   have hfz : ∀ x ∈ es.flatten, x.fz1 = some x := fun x hx => by
    obtain ⟨e, he, hxe⟩ := List.mem_flatten.1 hx
    obtain ⟨m, hm⟩ := List.getElem?_of_mem hxe
    exact (Y1 (hz e he)).2 m x x hm hm
   exact ((hx i u y hi hy).fz1 (hfz y (List.mem_of_getElem? hy))).mono hle.S
 obtain ⟨f1, w1, f2, f3, f4⟩ := hr.live q _ hq
 have hlk : ∀ p, Ql ((q, QH.arr tt 1 (eo.set j [.sl es none])) :: YE o H) p = if p = q then some (QH.arr tt 1 (eo.set j [.sl es none])) else Ql (YE o H) p := fun p => QM _ _ _ _
 have hq' : Ql (YE o H) q = some (.arr tt 1 eo) := by rw [YU, if_neg hne]; exact hq
 refine ⟨c', e1, { hr' with live := fun p ob hp => ?_, dead := fun p hp => ?_ }⟩
 ·replace hp : Ql ((q, QH.arr tt 1 (eo.set j [.sl es none])) :: YE o H) p = some ob := hp
  rw [hlk] at hp
  split at hp
  ·rename_i e
   subst e
   cases hp
   obtain ⟨g1, v, g2, g3, g4⟩ := hr'.live _ _ hq'
   refine ⟨g1, v, g2, ?_, g4⟩
   cases g3 with
   | arr _ _ _ _ xs hown hk1 hx hS =>
    refine .arr v tt 1 _ xs (by rw [List.length_set]; exact hown) (fun e he => ?_) (fun i u x hi hxx => ?_) hS
    ·rcases List.mem_or_eq_of_mem_set he with h | h
     ·exact hk1 e h
     rw [h]; rfl
    rw [QiU hk1] at hxx
    split at hxx
    ·rename_i hij
     obtain ⟨rfl, -⟩ := hij
     cases hxx
     refine hcell u ?_
     cases f3 with
     | arr _ _ _ _ xs2 hown2 hk2 hx2 hS2 =>
      have hvv : v = w1 := by
       have h5 := hle.V p f1
       rw [f2, g2] at h5
       rcases h5 with h5 | h5 | ⟨A, n1, c1, A', n1', c1', h5, h6, h7⟩
       ·exact Option.some.inj h5
       ·cases h5
       cases h5; cases h6
       obtain ⟨A1, cp1, hA1⟩ := YT hown2
       obtain ⟨A2, cp2, hA2⟩ := YT hown
       cases hA1; cases hA2
       omega
      subst hvv
      rw [e1] at hown
      have hxs : xs = xs2 := QqD hown hown2
      subst hxs
      exact hx2 i u _ hi (QlS hk2 hj)
    exact hx i u x hi hxx
  exact hr'.live p ob hp
 replace hp : Ql ((q, QH.arr tt 1 (eo.set j [.sl es none])) :: YE o H) p = none := hp
 rw [hlk] at hp
 split at hp
 ·cases hp
 exact hr'.dead p hp
def Qgi (ρ : List (Nat × Nat)) : QH → QH
 | .var t cs => .var t (cs.map (Qc3 ρ))
 | .tok t k n => .tok t k n
 | .arr t k es => .arr t k (es.map fun e => e.map (Qc3 ρ))
def QH.cells : QH → List AV
 | .var _ cs => cs
 | .tok _ _ _ => []
 | .arr _ _ es => es.flatten
def Qs2 (Hin : List (Nat × QH)) : AV → Bool
 | .agg cs | .tup cs | .fn _ cs => cs.all (Qh8 Hin)
 | x => Qh8 Hin x
structure QuN (Hout : List (Nat × QH)) (m : Nat) (c c' : Cx) : Prop where
 os : c'.w.os = c.w.os
 tape : c'.w.tape = c.w.tape
 output : c'.w.output = c.w.output
 drawn : c.w.drawn ≤ c'.w.drawn
 size : c.w.heap.size ≤ c'.w.heap.size
 frame : ∀ b, b < c.w.heap.size → (∀ o v, c.V o = some v → Xi v ≠ some b) → c'.w.heap[b]? = c.w.heap[b]?
 le : c.le c'
 K : ∀ o, c'.K o ↔ c.K o ∨ o < m
 Snew : ∀ b off, c'.S b off → c.S b off ∨ (∃ o v, c.V o = some v ∧ Xi v = some b) ∨ c.w.heap.size ≤ b
 Ssz : ∀ b off, c'.S b off → b < c'.w.heap.size
 live : ∀ o ob, Ql Hout o = some ob → c'.K o ∧ ∃ v, c'.V o = some v ∧ OR c' v ob ∧ ∀ b, Xi v = some b → (∃ o' v', c.V o' = some v' ∧ Xi v' = some b) ∨ c.w.heap.size ≤ b
 dead : ∀ o, Ql Hout o = none → c'.V o = none
 apart : ∀ o o' v v' b, c'.V o = some v → c'.V o' = some v' → Xi v = some b → Xi v' = some b → o = o'
def GX (P : Program) (f : FuncId) (args : List AV) (Hin : List (Nat × QH)) (res : AV) (Hout : List (Nat × QH)) (m : Nat) : Prop :=
 ∀ (c : Cx) (vs : List Value), GIn Hin c → vs.length = args.length → (∀ (i : Nat) (v : Value) (x : AV), vs[i]? = some v → args[i]? = some x → VR c v x) →
  Calls P f vs.toArray c.w fun e w' => ∃ v c', e = .returned v ∧ c'.w = w' ∧ QuN Hout m c c' ∧ VR c' v res
def AV.nt : AV → AV
 | .sl es _ => .sl es none
 | x => x
def AV.ntt : AV → AV
 | .tup xs => .tup (xs.map AV.nt)
 | x => x.nt
theorem VR.nt {c : Cx} {v : Value} {x : AV} (h : VR c v x) : VR c v x.nt := by
 cases x with
 | sl es tk => exact .fr _ _ h.sl_inv
 | _ => exact h
theorem VR.ntt {c : Cx} {v : Value} {x : AV} (h : VR c v x) : VR c v x.ntt := by
 have many : ∀ {vs : List Value} {cs : List AV}, vs.length = cs.length → (∀ (i : Nat) (v : Value) (x : AV), vs[i]? = some v → cs[i]? = some x → VR c v x) → VR c (.tuple vs.toArray) (.tup (cs.map AV.nt)) := fun {vs cs} hl h =>
  .tup vs _ (by simpa using hl) fun i v x hi hj => by
   rw [List.getElem?_map] at hj
   cases hx : cs[i]? with
   | none => rw [hx] at hj; cases hj
   | some y => rw [hx] at hj; cases hj; exact (h i v y hi hx).nt
 cases x with
 | tup cs => cases h with
  | fr _ _ h => cases h with | tup vs _ hl h => exact many hl (fun i v x h1 h2 => .fr _ _ (h i v x h1 h2))
  | tup vs _ hl h => exact many hl h
 | _ => exact h.nt
def retX (ts : List Nat) (res : AV) (Hout : List (Nat × QH)) (m : Nat) : Exit → St → Prop
 | .normal, st | .ret, st => (YK st ts).ntt = res ∧ okId m res = true ∧ Nat.ble st.nx m = true ∧ Nat.ble m Ju = true ∧ ∀ o ob, Ql Hout o = some ob → Ql st.H o = some ob ∧ (Nat.blt o m || Nat.ble Ju o) = true ∧ WH m ob = true
 | _, _ => False
theorem JC {P : Program} {f : FuncId} {fn : Func} {code : Code} {args : List AV} {res : AV} {Hin Hout : List (Nat × QH)} {m : Nat} (ts : List Nat) (hf : P.funcs[f]? = some fn) (hb : fn.body = some code) (hres : fn.results = (ts.map ResultVar.tmp).toArray) (N : Nat) (hN : fn.ntmps = N) (hle : args.length ≤ N)
  (h : ∀ E : J1, E.N = N → J5 P E code (retX ts res Hout m) ⟨Qcg 0 args, Hin, 0⟩) : GX P f args Hin res Hout m := by
 intro c0 vs hg hvl hv
 refine calls_of_wp hf hb ?_
 let E : J1 := ⟨N, c0.w, c0.S, fun b => c0.w.heap.size ≤ b ∨ ∃ o v, c0.V o = some v ∧ Xi v = some b, fun _ h => .inl h, c0.K, hg.big, c0.V⟩
 have hr : JF E c0 { tmps := vs.toArray ++ Array.replicate (fn.ntmps - vs.toArray.size) undef, defers := [] } ⟨Qcg 0 args, Hin, 0⟩ := {
  defers := rfl
  size := by show (vs.toArray ++ Array.replicate (fn.ntmps - vs.toArray.size) undef).size = N; simp; omega
  tmps := fun i => by
   show VR _ ((vs.toArray ++ Array.replicate (fn.ntmps - vs.toArray.size) undef).getD i undef) ((Ql (Qcg 0 args) i).getD .bot)
   rw [QaA]
   simp only [Nat.zero_le, if_true, Nat.sub_zero]
   rcases Nat.lt_or_ge i args.length with hlt | hge
   ·have hlt' : i < vs.length := by omega
    have e : (vs.toArray ++ Array.replicate (fn.ntmps - vs.toArray.size) undef).getD i undef = vs[i] := by
     simp [Array.getElem?_append, hlt']
    rw [e, List.getElem?_eq_getElem hlt]
    exact hv i _ _ (List.getElem?_eq_getElem hlt') (List.getElem?_eq_getElem hlt)
   rw [List.getElem?_eq_none hge]
   exact .fr _ _ (.bot _)
  live := fun o ob h => by
   obtain ⟨h1, v, h2, h3⟩ := hg.live o ob h
   exact ⟨h1, v, h2, h3, fun b hb => .inr ⟨o, v, h2, hb⟩⟩
  dead := hg.dead
  apart := hg.apart
  ids := fun _ h => .inr h
  nxB := Nat.zero_le _
  kbs := fun _ h => h
  V0 := fun _ _ => .refl _
  Ssz := hg.Ssz
  os := rfl, tape := rfl, output := rfl, drawn := Nat.le_refl _, grown := Nat.le_refl _
  frame := fun _ _ _ => rfl
  S0 := fun _ _ h => ⟨h, rfl⟩
  Snew := fun _ _ h => .inl h }
 refine wp_mono (h E rfl _ _ hr) ?_
 rintro e a' w' ⟨c, st, rfl, hr', hq⟩
 have fin : ((YK st ts).ntt = res ∧ okId m res = true ∧ Nat.ble st.nx m = true ∧ Nat.ble m Ju = true ∧ ∀ o ob, Ql Hout o = some ob → Ql st.H o = some ob ∧ (Nat.blt o m || Nat.ble Ju o) = true ∧ WH m ob = true) →
   a'.defers = [] ∧ ∃ v, (results fn a'.tmps).run P c.w = .ok v c.w ∧ ∃ v' c', Ending.returned v = .returned v' ∧ c'.w = c.w ∧ QuN Hout m c0 c' ∧ VR c' v' res := by
  rintro ⟨hr2, hok, hnx, hmB, hout⟩
  have hnx := Nat.le_of_ble_eq_true hnx
  have hmB := Nat.le_of_ble_eq_true hmB
  obtain ⟨V', hV'⟩ : ∃ V' : Nat → Option Value, V' = fun o => if (Ql Hout o).isSome then c.V o else none := ⟨_, rfl⟩
  have hVs : ∀ o v, V' o = some v → c.V o = some v ∧ (Ql Hout o).isSome = true := fun o v h => by
   rw [hV'] at h
   dsimp only at h
   split at h
   ·exact ⟨h, by assumption⟩
   cases h
  have hK : ∀ o, c.K o → o < m ∨ Ju ≤ o → c0.K o ∨ o < m := fun o hk ho => by
   rcases hr'.ids o hk with h1 | h1
   ·exact .inr (by omega)
   exact .inl h1
  have hle : c0.le ⟨c.w, c.S, V', fun o => c0.K o ∨ o < m⟩ := ⟨fun b off hs => hr'.S0 b off hs, fun _ h => .inl h, fun o hk => by
   refine (hr'.V0 o hk).trans ?_
   show QbR (c.V o) (V' o)
   rw [hV']
   dsimp only
   split
   ·exact .refl _
   exact .inr (.inl rfl)⟩
  have or2 : ∀ {o}, (Nat.blt o m || Nat.ble Ju o) = true → o < m ∨ Ju ≤ o := fun h => by
   rcases Bool.or_eq_true _ _ ▸ h with h | h
   ·exact .inl (Nat.le_of_ble_eq_true h)
   exact .inr (Nat.le_of_ble_eq_true h)
  refine ⟨hr'.defers, _, Qaw ts hres a'.tmps c.w, _, ⟨c.w, c.S, V', fun o => c0.K o ∨ o < m⟩, rfl, rfl, ?_, ?_⟩
  ·exact {
    os := hr'.os, tape := hr'.tape, output := hr'.output, drawn := hr'.drawn, size := hr'.grown
    frame := fun b hb hn => hr'.frame b hb (fun hw => by
     rcases hw with hw | ⟨o, v, h1, h2⟩
     ·have hw : c0.w.heap.size ≤ b := hw
      have hb : b < c0.w.heap.size := hb
      omega
     exact hn o v h1 h2)
    le := hle
    K := fun _ => Iff.rfl
    Snew := fun b off hs => by
     rcases hr'.Snew b off hs with h1 | h1 | h1
     ·exact .inl h1
     ·exact .inr (.inr h1)
     exact .inr (.inl h1)
    Ssz := hr'.Ssz
    live := fun o ob ho => by
     obtain ⟨h1, h2, h3⟩ := hout o ob ho
     obtain ⟨hk, v, hv, hor, hwr⟩ := hr'.live o ob h1
     refine ⟨hK o hk (or2 h2), v, by rw [hV']; simp [ho, hv], ?_, fun b hb => ?_⟩
     ·exact OR.okId (c := c) (c' := ⟨c.w, c.S, V', fun o => c0.K o ∨ o < m⟩) rfl rfl hK (fun o v h => (hVs o v h).1) hor h3
     rcases hwr b hb with h4 | h4
     ·exact .inr h4
     exact .inl h4
    dead := fun o ho => by show V' o = none; rw [hV']; simp [ho]
    apart := fun o o' v v' b h1 h2 h3 h4 => hr'.apart o o' v v' b (hVs o v h1).1 (hVs o' v' h2).1 h3 h4 }
  have hvr : VR c (QqA a'.tmps ts) (YK st ts) := by
   have many : ∀ ts : List Nat, VR c (.tuple (ts.map fun t => a'.tmps.getD t undef).toArray) (.tup (ts.map st.get)) := fun ts => by
    refine .tup _ _ (by simp) fun i v x hi hj => ?_
    rw [List.getElem?_map] at hi hj
    cases hq : ts[i]? with
    | none => rw [hq] at hi; cases hi
    | some t => rw [hq] at hi hj; cases hi; cases hj; exact hr'.tmps t
   match ts with
   | [] => exact many []
   | [t] => exact hr'.tmps t
   | t :: u :: ts => exact many (t :: u :: ts)
  have h9 := hvr.ntt
  rw [hr2] at h9
  exact VR.okId (c := c) (c' := ⟨c.w, c.S, V', fun o => c0.K o ∨ o < m⟩) rfl rfl hK (fun o v h => (hVs o v h).1) h9 hok
 cases e with
 | normal => exact fin hq
 | ret => exact fin hq
 | _ => exact hq.elim
section
variable {P : Program} {E : J1} {c : Cx} {a : Act} {st : St}
theorem VR.backV {ρ : List (Nat × Nat)} {c' c0' : Cx} {Hin : List (Nat × QH)} (hw : c'.w = c0'.w) (hS : c'.S = c0'.S) (hK : ∀ o, c0'.K o → c'.K (rn ρ o)) (hV : ∀ o v, (Ql Hin o).isSome = true → c'.V (rn ρ o) = some v → c0'.V o = some v) {v : Value} {x : AV} (h : VR c0' v x) (hx : Qs2 Hin x = true) : VR c' v (Qhl ρ x) := by
 have many : ∀ {vs : List Value} {cs : List AV}, cs.all (Qh8 Hin) = true → (∀ (i : Nat) (v : Value) (x : AV), vs[i]? = some v → cs[i]? = some x → VR c0' v x) → ∀ (i : Nat) (v : Value) (x : AV), vs[i]? = some v → (cs.map (Qc3 ρ))[i]? = some x → VR c' v x :=
  fun {vs cs} hc h i v x hi hj => by
   rw [List.getElem?_map] at hj
   cases hx : cs[i]? with
   | none => rw [hx] at hj; cases hj
   | some y => rw [hx] at hj; cases hj; exact (h i v y hi hx).back1 hw hS hK hV (List.all_eq_true.1 hc _ (List.mem_of_getElem? hx))
 cases x with
 | agg cs => cases h with
  | fr _ _ h => cases h with | agg vs _ hl h => exact .agg vs _ (by simpa using hl) (many hx (fun i v x h1 h2 => .fr _ _ (h i v x h1 h2)))
  | agg vs _ hl h => exact .agg vs _ (by simpa using hl) (many hx h)
 | tup cs => cases h with
  | fr _ _ h => cases h with | tup vs _ hl h => exact .tup vs _ (by simpa using hl) (many hx (fun i v x h1 h2 => .fr _ _ (h i v x h1 h2)))
  | tup vs _ hl h => exact .tup vs _ (by simpa using hl) (many hx h)
 | fn f cs => cases h with
  | fr _ _ h => cases h with | fn _ vs _ hl h => exact .fn f vs _ (by simpa using hl) (many hx (fun i v x h1 h2 => .fr _ _ (h i v x h1 h2)))
  | fn _ vs _ hl h => exact .fn f vs _ (by simpa using hl) (many hx h)
 | _ => exact VR.back1 hw hS hK hV h hx
theorem QiH (g : AV → AV) (es : List (List AV)) : (es.map fun e => e.map g).flatten = es.flatten.map g := by rw [List.map_flatten]
theorem QsH {g : AV → AV} {cs : List AV} {i : Nat} {x : AV} (h : (cs.map g)[i]? = some x) : ∃ y, cs[i]? = some y ∧ g y = x := by
 rw [List.getElem?_map] at h
 cases hx : cs[i]? with
 | none => rw [hx] at h; cases h
 | some y => rw [hx] at h; cases h; exact ⟨y, rfl, rfl⟩
theorem JF.xcall (hr : JF E c a st) {f : FuncId} {bs : List AV} {Hin Hout : List (Nat × QH)} {res : AV} {m : Nat} (hc : GX P f bs Hin res Hout m) (ρ : List (Nat × Nat)) (H' : List (Nat × QH)) (hmB : st.nx + m ≤ Ju)
  (hin : ∀ o ob, Ql Hin o = some ob → Ql st.H (rn ρ o) = some (Qgi ρ ob) ∧ Ju ≤ o ∧ ob.cells.all Qge = true)
  (hnew : ∀ o, o < m → rn ρ o = st.nx + o)
  (inj : ∀ o o', (Ql Hin o).isSome = true → (Ql Hin o').isSome = true → rn ρ o = rn ρ o' → o = o')
  (dom : ∀ o, (Ql Hout o).isSome = true → (Ql Hin o).isSome = true ∨ o < m) (hout : ∀ o ob, Ql Hout o = some ob → ob.cells.all (Qh8 Hout) = true)
  (h1 : ∀ o, (Ql Hin o).isSome = true ∨ o < m → Ql H' (rn ρ o) = (Ql Hout o).map (Qgi ρ)) (h2 : ∀ q, (∀ o, (Ql Hin o).isSome = true ∨ o < m → rn ρ o ≠ q) → Ql H' q = Ql st.H q)
  (hrs : Qs2 Hout res = true)
  {vs : List Value} (hvl : vs.length = bs.length) (hbig : bs.all QnM = true) (hv : ∀ (i : Nat) (v : Value) (x : AV), vs[i]? = some v → bs[i]? = some x → VR c v (Qhl ρ x)) :
  Calls P f vs.toArray c.w fun e w' => ∃ v c', e = .returned v ∧ c'.w = w' ∧ JF E c' a ⟨st.t, H', st.nx + m⟩ ∧ VR c' v (Qhl ρ res) := by
 classical
 obtain ⟨V0, hV0⟩ : ∃ V0 : Nat → Option Value, V0 = fun o => if (Ql Hin o).isSome then c.V (rn ρ o) else none := ⟨_, rfl⟩
 have hV0s : ∀ o v, V0 o = some v → c.V (rn ρ o) = some v ∧ (Ql Hin o).isSome = true := fun o v h => by
  rw [hV0] at h; dsimp only at h
  split at h
  ·exact ⟨h, by assumption⟩
  cases h
 have hV0i : ∀ o, (Ql Hin o).isSome = true → V0 o = c.V (rn ρ o) := fun o h => by rw [hV0]; simp [h]
 have hK0 : ∀ o, Ju ≤ o → c.K (rn ρ o) → (⟨c.w, c.S, V0, fun o => Ju ≤ o ∧ c.K (rn ρ o)⟩ : Cx).K o := fun o h1 h2 => ⟨h1, h2⟩
 have gin : GIn Hin ⟨c.w, c.S, V0, fun o => Ju ≤ o ∧ c.K (rn ρ o)⟩ := {
  big := fun o h => h.1
  live := fun o ob ho => by
   obtain ⟨g1, g2, g3⟩ := hin o ob ho
   obtain ⟨hk, v, hvv, hor, _⟩ := hr.live _ _ g1
   refine ⟨⟨g2, hk⟩, v, (hV0i o (by rw [ho]; rfl)).trans hvv, ?_⟩
   have into : ∀ {u : Value} {x : AV}, VR c u (Qc3 ρ x) → Qge x = true → VR ⟨c.w, c.S, V0, fun o => Ju ≤ o ∧ c.K (rn ρ o)⟩ u x := fun h hx => VR.into1 (c := c) (c0 := ⟨c.w, c.S, V0, fun o => Ju ≤ o ∧ c.K (rn ρ o)⟩) (ρ := ρ) rfl rfl hK0 (fun o v h => (hV0s o v h).1) h hx
   cases ob with
   | var t cs => cases hor with
    | var b ccs _ _ hh hl hp hS =>
     exact .var b ccs t cs hh (by simpa using hl) (fun i u x hi hj => into (hp i u _ hi (by rw [List.getElem?_map, hj]; rfl)) (List.all_eq_true.1 g3 _ (List.mem_of_getElem? hj))) hS
   | tok t k n => cases hor with | tok _ _ _ _ xs ho hS => exact .tok v t k n xs ho hS
   | arr t k es => cases hor with
    | arr _ _ _ _ xs ho hks hp hS =>
     rw [List.length_map] at ho
     exact .arr v t k es xs ho (fun e he => by simpa using hks _ (List.mem_map_of_mem he)) (fun i u x hi hj => into (hp i u _ hi (by rw [QiH, List.getElem?_map, hj]; rfl)) (List.all_eq_true.1 g3 _ (List.mem_of_getElem? hj))) hS
  dead := fun o ho => by show V0 o = none; rw [hV0]; simp [ho]
  apart := fun o o' v v' b g1 g2 g3 g4 => by
   obtain ⟨k1, k2⟩ := hV0s o v g1
   obtain ⟨k3, k4⟩ := hV0s o' v' g2
   exact inj o o' k2 k4 (hr.apart _ _ v v' b k1 k3 g3 g4)
  Ssz := hr.Ssz }
 refine (hc _ vs gin hvl (fun i v x hi hj => VR.intoV (c := c) (c0 := ⟨c.w, c.S, V0, fun o => Ju ≤ o ∧ c.K (rn ρ o)⟩) (ρ := ρ) rfl rfl hK0 (fun o v h => (hV0s o v h).1) (hv i v x hi hj) (List.all_eq_true.1 hbig _ (List.mem_of_getElem? hj)))).mono ?_
 rintro e w' ⟨v, c0', rfl, rfl, go, hfr⟩
 have fresh : ∀ o, o < m → ¬ c.K (st.nx + o) := fun o ho hk => by
  rcases hr.ids _ hk with h | h
  ·omega
  have := E.kb _ h; omega
 have kin : ∀ o, (Ql Hin o).isSome = true → c.K (rn ρ o) := fun o ho => by
  cases h : Ql Hin o with
  | none => rw [h] at ho; cases ho
  | some ob => exact (gin.live o ob h).1.2
 have injD : ∀ o o', ((Ql Hin o).isSome = true ∨ o < m) → ((Ql Hin o').isSome = true ∨ o' < m) → rn ρ o = rn ρ o' → o = o' := fun o o' g1 g2 e => by
  rcases g1 with g1 | g1 <;> rcases g2 with g2 | g2
  ·exact inj o o' g1 g2 e
  ·rw [hnew o' g2] at e
   exact absurd (e ▸ kin o g1) (fresh o' g2)
  ·rw [hnew o g1] at e
   exact absurd (e ▸ kin o' g2) (fresh o g1)
  rw [hnew o g1, hnew o' g2] at e; omega
 obtain ⟨V', hV'⟩ : ∃ V' : Nat → Option Value, V' = fun q => if h : ∃ o, ((Ql Hin o).isSome = true ∨ o < m) ∧ rn ρ o = q then c0'.V h.choose else c.V q := ⟨_, rfl⟩
 have hVq : ∀ o, ((Ql Hin o).isSome = true ∨ o < m) → V' (rn ρ o) = c0'.V o := fun o ho => by
  have hex : ∃ o', ((Ql Hin o').isSome = true ∨ o' < m) ∧ rn ρ o' = rn ρ o := ⟨o, ho, rfl⟩
  rw [hV']
  dsimp only
  rw [dif_pos hex]
  exact congrArg c0'.V (injD _ _ hex.choose_spec.1 ho hex.choose_spec.2)
 have hVn : ∀ q, (∀ o, ((Ql Hin o).isSome = true ∨ o < m) → rn ρ o ≠ q) → V' q = c.V q := fun q hq => by
  have hex : ¬ ∃ o', ((Ql Hin o').isSome = true ∨ o' < m) ∧ rn ρ o' = q := fun ⟨o, g1, g2⟩ => hq o g1 g2
  rw [hV']
  dsimp only
  rw [dif_neg hex]
 have part : ∀ q, (∃ o, ((Ql Hin o).isSome = true ∨ o < m) ∧ rn ρ o = q) ∨ (∀ o, ((Ql Hin o).isSome = true ∨ o < m) → rn ρ o ≠ q) := fun q => by
  by_cases h : ∃ o, ((Ql Hin o).isSome = true ∨ o < m) ∧ rn ρ o = q
  ·exact .inl h
  exact .inr (fun o g1 g2 => h ⟨o, g1, g2⟩)
 let K' : Nat → Prop := fun q => c.K q ∨ (st.nx ≤ q ∧ q < st.nx + m)
 have hKb : ∀ o, c0'.K o → K' (rn ρ o) := fun o hk => by
  rcases (go.K o).1 hk with h | h
  ·exact .inl h.2
  exact .inr (by rw [hnew o h]; omega)
 have hlec : c.le ⟨c0'.w, c0'.S, V', K'⟩ := ⟨fun b off hs => go.le.S b off hs, fun _ h => .inl h, fun q hk => by
  rcases part q with ⟨o, g1, rfl⟩ | hq
  ·rcases g1 with g1 | g1
   ·show QbR (c.V (rn ρ o)) (V' (rn ρ o))
    rw [hVq o (.inl g1), ← hV0i o g1]
    cases ho : Ql Hin o with
    | none => rw [ho] at g1; cases g1
    | some ob => exact go.le.V o (gin.live o ob ho).1
   rw [hnew o g1] at hk
   exact absurd hk (fresh o g1)
  exact .inl (hVn q hq)⟩
 have hsz := go.size
 have hDout : ∀ o ob, Ql Hout o = some ob → (Ql Hin o).isSome = true ∨ o < m := fun o ob h => dom o (by rw [h]; rfl)
 have oth : ∀ q u, (∀ o, ((Ql Hin o).isSome = true ∨ o < m) → rn ρ o ≠ q) → c.V q = some u → ∀ b, Xi u = some b → ∀ o v, V0 o = some v → Xi v ≠ some b := fun q u hq hu b hb o v hov e => by
  obtain ⟨k1, k2⟩ := hV0s o v hov
  exact hq o (.inl k2) (hr.apart _ _ v u b k1 hu e hb)
 have lv : ∀ q u, c.V q = some u → ∃ ob, Ql st.H q = some ob ∧ OR c u ob ∧ ∀ b, Xi u = some b → E.Wr b := fun q u hu => by
  cases hl : Ql st.H q with
  | none => rw [hr.dead q hl] at hu; cases hu
  | some ob =>
   obtain ⟨_, u', hu', hor, hwr⟩ := hr.live q ob hl
   rw [hu] at hu'; cases hu'
   exact ⟨ob, rfl, hor, hwr⟩
 have wrIn : ∀ o v b, V0 o = some v → Xi v = some b → E.Wr b ∧ b < c.w.heap.size := fun o v b hov hb => by
  obtain ⟨ob, _, hor, hwr⟩ := lv _ _ (hV0s o v hov).1
  exact ⟨hwr b hb, hor.lt hb⟩
 have bk : ∀ {u : Value} {x : AV}, VR c0' u x → Qh8 Hout x = true → VR ⟨c0'.w, c0'.S, V', K'⟩ u (Qc3 ρ x) := fun h hx =>
  VR.back1 (c0' := c0') (c' := ⟨c0'.w, c0'.S, V', K'⟩) (Hin := Hout) rfl rfl hKb (fun o v hs e => by rw [← hVq o (dom o hs)]; exact e) h hx
 refine ⟨v, ⟨c0'.w, c0'.S, V', K'⟩, rfl, rfl, ?_, VR.backV (c0' := c0') (c' := ⟨c0'.w, c0'.S, V', K'⟩) (Hin := Hout) rfl rfl hKb (fun o v hs e => by rw [← hVq o (dom o hs)]; exact e) hfr hrs⟩
 exact {
  defers := hr.defers, size := hr.size
  tmps := fun i => (hr.tmps i).mono hlec
  live := fun q ob hq => by
   rcases part q with ⟨o, g1, rfl⟩ | hnq
   ·have hq' := h1 o g1
    rw [show Ql H' (rn ρ o) = some ob from hq] at hq'
    cases ho : Ql Hout o with
    | none => rw [ho] at hq'; cases hq'
    | some ob0 =>
     rw [ho] at hq'
     have : ob = Qgi ρ ob0 := Option.some.inj hq'
     subst this
     obtain ⟨hk0, u, hu, hor, hbl⟩ := go.live o ob0 ho
     refine ⟨hKb o hk0, u, (hVq o g1).trans hu, ?_, fun b hb => ?_⟩
     ·have hio := hout o ob0 ho
      cases ob0 with
      | var t cs => cases hor with
       | var b ccs _ _ hh hl hp hS =>
        exact .var b ccs t _ hh (by simpa using hl) (fun i u x hi hj => by
         obtain ⟨x0, hx, rfl⟩ := QsH hj
         exact bk (hp i u x0 hi hx) (List.all_eq_true.1 hio _ (List.mem_of_getElem? hx))) hS
      | tok t k n => cases hor with | tok _ _ _ _ xs ho hS => exact .tok u t k n xs ho hS
      | arr t k es => cases hor with
       | arr _ _ _ _ xs ho hks hp hS =>
        exact .arr u t k _ xs (by rw [List.length_map]; exact ho) (fun e he => by
         obtain ⟨e0, h0, rfl⟩ := List.mem_map.1 he
         simpa using hks e0 h0) (fun i u x hi hj => by
         rw [QiH] at hj
         obtain ⟨x0, hx, rfl⟩ := QsH hj
         exact bk (hp i u x0 hi hx) (List.all_eq_true.1 hio _ (List.mem_of_getElem? hx))) hS
     rcases hbl b hb with ⟨o', v', g2, g3⟩ | g2
     ·exact (wrIn o' v' b g2 g3).1
     exact E.new b (Nat.le_trans hr.grown g2)
   have hq' : Ql st.H q = some ob := by rw [← h2 q hnq]; exact hq
   obtain ⟨hk, u, hu, hor, hwr⟩ := hr.live q ob hq'
   refine ⟨.inl hk, u, (hVn q hnq).trans hu, ?_, hwr⟩
   have hst : ∀ b, Xi u = some b → c0'.w.heap[b]? = c.w.heap[b]? := fun b hb => go.frame b (hor.lt hb) (fun o v hov => oth q u hnq hu b hb o v hov)
   have hSs : ∀ b, Xi u = some b → ∀ off, c0'.S b off → c.S b off := fun b hb off hs => by
    rcases go.Snew b off hs with g1 | ⟨o, v, g1, g2⟩ | g1
    ·exact g1
    ·exact absurd g2 (oth q u hnq hu b hb o v g1)
    have := hor.lt hb
    have g1 : c.w.heap.size ≤ b := g1
    omega
   cases hor with
   | var b ccs t cs hh hl hp hn => exact .var b ccs t cs ((hst b rfl).trans hh) hl (fun i u x h1 h2 => (hp i u x h1 h2).mono hlec) (fun off hs => hn off (hSs b rfl off hs))
   | tok _ t k n xs ho2 hn =>
    refine .tok u t k n xs ?_ (fun b hb off hle hs => hn b hb off hle (hSs b hb off hs))
    refine ⟨ho2.1, ?_⟩
    rcases ho2.2 with h1 | ⟨g, cap, cur, rfl, h1, h2, h3⟩
    ·exact .inl h1
    exact .inr ⟨g, cap, cur, rfl, h1, (hst g rfl).trans h2, h3⟩
   | arr _ t k es xs ho2 hk2 hp hn =>
    refine .arr u t k es xs ?_ hk2 (fun i u x h1 h2 => (hp i u x h1 h2).mono hlec) (fun b hb off hs => hn b hb off (hSs b hb off hs))
    refine ⟨ho2.1, ?_⟩
    rcases ho2.2 with h1 | ⟨g, cap, cur, rfl, h1, h2, h3⟩
    ·exact .inl h1
    exact .inr ⟨g, cap, cur, rfl, h1, (hst g rfl).trans h2, h3⟩
  dead := fun q hq => by
   rcases part q with ⟨o, g1, rfl⟩ | hnq
   ·have h3 := h1 o g1
    rw [show Ql H' (rn ρ o) = none from hq] at h3
    cases ho : Ql Hout o with
    | some ob0 => rw [ho] at h3; cases h3
    | none => exact (hVq o g1).trans (go.dead o ho)
   exact (hVn q hnq).trans (hr.dead q (by rw [← h2 q hnq]; exact hq))
  apart := fun q q' u u' b hu hu' hb1 hb2 => by
   have ofIn : ∀ o v, c0'.V o = some v → ∀ b, Xi v = some b → (∃ o' v', V0 o' = some v' ∧ Xi v' = some b) ∨ c.w.heap.size ≤ b := fun o v g2 b hb => by
    cases ho : Ql Hout o with
    | none => rw [go.dead o ho] at g2; cases g2
    | some ob0 =>
     obtain ⟨_, v2, g3, _, g4⟩ := go.live o ob0 ho
     rw [g2] at g3; cases g3
     exact g4 b hb
   have mix : ∀ o v q u b, c0'.V o = some v → (∀ o, ((Ql Hin o).isSome = true ∨ o < m) → rn ρ o ≠ q) → c.V q = some u → Xi v = some b → Xi u = some b → False := fun o v q u b g2 g3 g4 g5 g6 => by
    rcases ofIn o v g2 b g5 with ⟨o', v', k1, k2⟩ | k1
    ·exact oth q u g3 g4 b g6 o' v' k1 k2
    obtain ⟨ob, _, hor, _⟩ := lv q u g4
    have := hor.lt g6
    omega
   have hu : V' q = some u := hu
   have hu' : V' q' = some u' := hu'
   rcases part q with ⟨o, g1, rfl⟩ | hnq <;> rcases part q' with ⟨o', g2, rfl⟩ | hnq'
   ·rw [hVq o g1] at hu
    rw [hVq o' g2] at hu'
    rw [go.apart o o' u u' b hu hu' hb1 hb2]
   ·rw [hVq o g1] at hu
    rw [hVn q' hnq'] at hu'
    exact (mix o u q' u' b hu hnq' hu' hb1 hb2).elim
   ·rw [hVn q hnq] at hu
    rw [hVq o' g2] at hu'
    exact (mix o' u' q u b hu' hnq hu hb2 hb1).elim
   rw [hVn q hnq] at hu
   rw [hVn q' hnq'] at hu'
   exact hr.apart q q' u u' b hu hu' hb1 hb2
  ids := fun q hk => by
   rcases hk with hk | hk
   ·rcases hr.ids q hk with h | h
    ·exact .inl (by show q < st.nx + m; omega)
    exact .inr h
   exact .inl hk.2
  nxB := hmB, kbs := fun q h => .inl (hr.kbs q h)
  V0 := fun q hk => (hr.V0 q hk).trans (hlec.V q (hr.kbs q hk))
  Ssz := go.Ssz
  os := go.os.trans hr.os, tape := go.tape.trans hr.tape, output := go.output.trans hr.output, drawn := Nat.le_trans hr.drawn go.drawn
  grown := Nat.le_trans hr.grown hsz
  frame := fun b hb hn => by
   refine (go.frame b (Nat.lt_of_lt_of_le hb hr.grown) (fun o v hov e => hn (wrIn o v b hov e).1)).trans (hr.frame b hb hn)
  S0 := fun b off hs => ⟨(go.le.S _ _ (hr.S0 b off hs).1).1, ((go.le.S _ _ (hr.S0 b off hs).1).2).trans (hr.S0 b off hs).2⟩
  Snew := fun b off hs => by
   rcases go.Snew b off hs with g1 | ⟨o, v, g1, g2⟩ | g1
   ·exact hr.Snew b off g1
   ·exact .inr (wrIn o v b g1 g2).1
   exact .inr (E.new b (Nat.le_trans hr.grown g1)) }
end
def Qsq (nx : Nat) : Nat → List (Nat × Nat)
 | 0 => []
 | m + 1 => (m, nx + m) :: Qsq nx m
theorem Qi7 (nx : Nat) : ∀ m o, Ql (Qsq nx m) o = if o < m then some (nx + o) else none
 | 0, o => by simp [Qsq, Ql]
 | m + 1, o => by
  rw [Qsq, QM, Qi7 nx m o]
  by_cases h : o = m
  ·subst h; simp
  rw [if_neg h]
  by_cases h2 : o < m
  ·rw [if_pos h2, if_pos (by omega)]
  rw [if_neg h2, if_neg (by omega)]
theorem Qer {α : Type} : ∀ (l r : List (Nat × α)) (o : Nat), Ql (l ++ r) o = (Ql l o).or (Ql r o)
 | [], r, o => by simp [Ql]
 | (j, x) :: l, r, o => by
  rw [List.cons_append, QM, QM, Qer l r o]
  split <;> rfl
theorem Qfe {α : Type} : ∀ {l : List (Nat × α)} {o : Nat}, (∀ p ∈ l, p.1 ≠ o) → Ql l o = none
 | [], _, _ => rfl
 | (j, x) :: l, o, h => by
  rw [QM, if_neg (fun e => h (j, x) (.head _) e.symm)]
  exact Qfe fun p hp => h p (.tail _ hp)
theorem Qk9 {α : Type} : ∀ {l : List (Nat × α)} {p : Nat × α}, p ∈ l → (Ql l p.1).isSome = true
 | (j, x) :: l, p, h => by
  rw [QM]
  split
  ·rfl
  rename_i hne
  cases h with
  | head => exact absurd rfl hne
  | tail _ h => exact Qk9 h
theorem Qev {α : Type} {l : List (Nat × α)} {o : Nat} (h : (Ql l o).isSome = true) : ∃ p ∈ l, p.1 = o := by
 cases hx : Ql l o with
 | none => rw [hx] at h; cases h
 | some x => exact ⟨(o, x), Qbr hx, rfl⟩
def Qsw (ρ : List (Nat × Nat)) (H : List (Nat × QH)) : List (Nat × QH) → Prop
 | [] => True
 | (o, ob) :: r => Ql H (rn ρ o) = some (Qgi ρ ob) ∧ Nat.ble Ju o = true ∧ ob.cells.all Qge = true ∧ Qsw ρ H r
theorem QgM {ρ : List (Nat × Nat)} {H : List (Nat × QH)} : ∀ {Hin : List (Nat × QH)}, Qsw ρ H Hin → ∀ o ob, Ql Hin o = some ob → Ql H (rn ρ o) = some (Qgi ρ ob) ∧ Ju ≤ o ∧ ob.cells.all Qge = true
 | [], _, _, _, h => by cases h
 | (q, ob') :: r, ⟨h1, h2, h3, h4⟩, o, ob, h => by
  rw [QM] at h
  split at h
  ·rename_i e; cases h; subst e; exact ⟨h1, Nat.le_of_ble_eq_true h2, h3⟩
  exact QgM h4 o ob h
def Qss (Ho : List (Nat × QH)) : List (Nat × QH) → Prop
 | [] => True
 | (_, ob) :: r => ob.cells.all (Qh8 Ho) = true ∧ Qss Ho r
theorem Qg3 {Ho : List (Nat × QH)} : ∀ {l : List (Nat × QH)}, Qss Ho l → ∀ o ob, Ql l o = some ob → ob.cells.all (Qh8 Ho) = true
 | [], _, _, _, h => by cases h
 | (q, ob') :: r, ⟨h1, h2⟩, o, ob, h => by
  rw [QM] at h
  split at h
  ·cases h; exact h1
  exact Qg3 h2 o ob h
def Qvk (st : St) (m : Nat) : List (Nat × QH) → Prop
 | [] => True
 | (o, ob) :: r => Ql st.H o = some ob ∧ (Nat.blt o m || Nat.ble Ju o) = true ∧ WH m ob = true ∧ Qvk st m r
theorem Qju {st : St} {m : Nat} : ∀ {l : List (Nat × QH)}, Qvk st m l → ∀ o ob, Ql l o = some ob → Ql st.H o = some ob ∧ (Nat.blt o m || Nat.ble Ju o) = true ∧ WH m ob = true
 | [], _, _, _, h => by cases h
 | (q, ob') :: r, ⟨h1, h2, h3, h4⟩, o, ob, h => by
  rw [QM] at h
  split at h
  ·rename_i e; cases h; subst e; exact ⟨h1, h2, h3⟩
  exact Qju h4 o ob h
theorem WN {ts : List Nat} {st : St} {r res : AV} {Hout : List (Nat × QH)} {m : Nat} (h : (YK st ts).ntt = r) (hr : r = res) (hok : okId m res = true) (hn : Nat.ble st.nx m = true) (hm : Nat.ble m Ju = true) (hx : Qvk st m Hout) :
  (YK st ts).ntt = res ∧ okId m res = true ∧ Nat.ble st.nx m = true ∧ Nat.ble m Ju = true ∧ ∀ o ob, Ql Hout o = some ob → Ql st.H o = some ob ∧ (Nat.blt o m || Nat.ble Ju o) = true ∧ WH m ob = true :=
 ⟨by rw [h, hr], hok, hn, hm, Qju hx⟩
def xOk (ρ : List (Nat × Nat)) (ρ' : List (Nat × Nat)) (Hin Hout : List (Nat × QH)) (m nx : Nat) : Bool :=
 ρ.all (fun p => Nat.ble Ju p.1) && Nat.ble (nx + m) Ju && Hin.all (fun p => Hin.all fun q => !(Nat.beq (rn ρ' p.1) (rn ρ' q.1)) || Nat.beq p.1 q.1) && Hout.all (fun p => (Ql Hin p.1).isSome || Nat.blt p.1 m) && Hin.all (fun p => (Ql Hout p.1).isSome)
theorem QtS {ρ : List (Nat × Nat)} {x : AV} (h : x.fz1 = some x) : Qc3 ρ x = x := by
 cases x with
 | sl es tk => cases tk with
  | none => rfl
  | some o => simp [AV.fz1] at h
 | ptr o off => simp [AV.fz1] at h
 | own o n => simp [AV.fz1] at h
 | eptr o n off => simp [AV.fz1] at h
 | _ => rfl
theorem Qmr {ρ : List (Nat × Nat)} {es : List (List AV)} (h : ∀ e ∈ es, fzs e = some e) : (es.map fun e => e.map (Qc3 ρ)) = es := by
 have : ∀ e ∈ es, e.map (Qc3 ρ) = e := fun e he => by
  have h2 := (Y1 (h e he)).2
  refine List.ext_getElem? fun i => ?_
  rw [List.getElem?_map]
  cases hx : e[i]? with
  | none => rfl
  | some x => exact congrArg some (QtS (h2 i x x hx hx))
 rw [List.map_congr_left this, List.map_id']
theorem Qv2 {es : List (List AV)} (h : ∀ e ∈ es, fzs e = some e) : es.flatten.all Qge = true := by
 refine List.all_eq_true.2 fun x hx => ?_
 obtain ⟨e, he, hxe⟩ := List.mem_flatten.1 hx
 obtain ⟨i, hi⟩ := List.getElem?_of_mem hxe
 have := (Y1 (h e he)).2 i x x hi hi
 cases x with
 | sl es tk => cases tk with
  | none => rfl
  | some o => simp [AV.fz1] at this
 | ptr o off => simp [AV.fz1] at this
 | own o n => simp [AV.fz1] at this
 | eptr o n off => simp [AV.fz1] at this
 | agg => simp [AV.fz1] at this
 | tup => simp [AV.fz1] at this
 | fn => simp [AV.fz1] at this
 | _ => rfl
section
variable {P : Program} {E : J1} {Q : Exit → St → Prop} {ops : Array Oper} {o : Oper} {rest : List Oper} {t : List (Nat × AV)} {H : List (Nat × QH)} {nx N d : Nat} {w : Bool}
theorem YH (hN : E.N = N) {f : FuncId} {bs avs : List AV} {Hin Hout : List (Nat × QH)} {res res' : AV} {m : Nat} (ρ : List (Nat × Nat)) (hc : GX P f bs Hin res Hout m) [hf : Xe P f] (ho : Qbw ⟨t, H, nx⟩ o f avs) {ρ' : List (Nat × Nat)} (hρ : ρ ++ Qsq nx m = ρ') (hab : bs.map (Qhl ρ') = avs) (hbig : bs.all QnM = true)
  (hin : Qsw ρ' H Hin) (hk : xOk ρ ρ' Hin Hout m nx = true) (hout : Qss Hout Hout) (hrs : Qs2 Hout res = true) {Hn H' : List (Nat × QH)} (hHn : Hout.map (fun p => (rn ρ' p.1, Qgi ρ' p.2)) = Hn) (hH : Hn ++ H = H') (hre : Qhl ρ' res = res')
  (hg : Qm ops ⟨t, H, nx⟩ o = some w) (hw : w = true) (hd : o.dst = some d) (hdN : Nat.blt d N = true)
  (h : Qz P E ops rest Q ⟨(d, res') :: t, H', nx + m⟩) : Qz P E ops (o :: rest) Q ⟨t, H, nx⟩ := fun c a hr => by
 subst hw hH hre hHn
 simp only [xOk, Bool.and_eq_true] at hk
 obtain ⟨⟨⟨⟨k1, k2⟩, k3⟩, k4⟩, k5⟩ := hk
 have hmB : nx + m ≤ Ju := Nat.le_of_ble_eq_true k2
 have hnew : ∀ o, o < m → rn ρ' o = nx + o := fun o ho => by
  have h0 : Ql ρ o = none := Qfe fun p hp e => by
   have := Nat.le_of_ble_eq_true (List.all_eq_true.1 k1 p hp)
   omega
  rw [← hρ, rn, Qer, h0, Qi7, if_pos ho]
  rfl
 have hdi := QgM hin
 have inj : ∀ o o', (Ql Hin o).isSome = true → (Ql Hin o').isSome = true → rn ρ' o = rn ρ' o' → o = o' := fun o o' g1 g2 e => by
  obtain ⟨p, hp, rfl⟩ := Qev g1
  obtain ⟨q, hq, rfl⟩ := Qev g2
  have := List.all_eq_true.1 (List.all_eq_true.1 k3 p hp) q hq
  rw [e, Nat.beq_refl, Bool.not_true, Bool.false_or] at this
  exact Nat.eq_of_beq_eq_true this
 have dom : ∀ o, (Ql Hout o).isSome = true → (Ql Hin o).isSome = true ∨ o < m := fun o g => by
  obtain ⟨p, hp, rfl⟩ := Qev g
  rcases Bool.or_eq_true _ _ ▸ List.all_eq_true.1 k4 p hp with h | h
  ·exact .inl h
  exact .inr (Nat.le_of_ble_eq_true h)
 have dom2 : ∀ o, (Ql Hin o).isSome = true → (Ql Hout o).isSome = true := fun o g => by
  obtain ⟨p, hp, rfl⟩ := Qev g
  exact List.all_eq_true.1 k5 p hp
 have fresh : ∀ o, o < m → Ql H (nx + o) = none := fun o ho => by
  cases hx : Ql H (nx + o) with
  | none => rfl
  | some ob =>
   rcases hr.ids _ (hr.live _ ob hx).1 with h | h
   ·have h : nx + o < nx := h
    omega
   have := E.kb _ h; omega
 have kin : ∀ o, (Ql Hin o).isSome = true → rn ρ' o < nx ∨ Ju ≤ rn ρ' o := fun o g => by
  cases hx : Ql Hin o with
  | none => rw [hx] at g; cases g
  | some ob =>
   rcases hr.ids _ (hr.live _ _ (hdi o ob hx).1).1 with h | h
   ·exact .inl h
   exact .inr (E.kb _ h)
 have injD : ∀ o o', ((Ql Hin o).isSome = true ∨ o < m) → ((Ql Hin o').isSome = true ∨ o' < m) → rn ρ' o = rn ρ' o' → o = o' := fun o o' g1 g2 e => by
  rcases g1 with g1 | g1 <;> rcases g2 with g2 | g2
  ·exact inj o o' g1 g2 e
  ·have := kin o g1; rw [e, hnew o' g2] at this; omega
  ·have := kin o' g2; rw [← e, hnew o g1] at this; omega
  rw [hnew o g1, hnew o' g2] at e; omega
 have lk : ∀ (l : List (Nat × QH)), (∀ p ∈ l, (Ql Hin p.1).isSome = true ∨ p.1 < m) → ∀ o, ((Ql Hin o).isSome = true ∨ o < m) → Ql (l.map fun p => (rn ρ' p.1, Qgi ρ' p.2)) (rn ρ' o) = (Ql l o).map (Qgi ρ') := by
  intro l
  induction l with
  | nil => intro _ o _; rfl
  | cons p l ih =>
   intro hl o hD
   obtain ⟨j, x⟩ := p
   rw [List.map_cons, QM, QM]
   by_cases e : o = j
   ·subst e; rw [if_pos rfl, if_pos rfl]; rfl
   rw [if_neg e, if_neg (fun e2 => e (injD o j hD (hl (j, x) (.head _)) e2))]
   exact ih (fun p hp => hl p (.tail _ hp)) o hD
 have hDl : ∀ p ∈ Hout, (Ql Hin p.1).isSome = true ∨ p.1 < m := fun p hp => dom p.1 (Qk9 hp)
 refine wpList_step fun K hK => ?_
 rw [XK hg hr, if_pos rfl]
 obtain ⟨vs, hrun, hvl, hv⟩ := ho.run (P := P) hr
 unfold Oper.wp
 rw [hrun, Oper.upon_enter]
 subst hab
 refine (hr.xcall hc ρ' (Hout.map (fun p => (rn ρ' p.1, Qgi ρ' p.2)) ++ H) hmB hdi hnew inj dom (Qg3 hout) (fun o hD => ?_) (fun q hq => ?_) hrs (by simpa using hvl) hbig (fun i v x hi hj => hv i v _ hi (by rw [List.getElem?_map, hj]; rfl))).mono ?_
 ·rw [Qer, lk Hout hDl o hD]
  cases hx : Ql Hout o with
  | some ob => rfl
  | none =>
   rcases hD with h | h
   ·have := dom2 o h; rw [hx] at this; cases this
   show Ql H (rn ρ' o) = none
   rw [hnew o h]; exact fresh o h
 ·rw [Qer, Qfe (fun p hp e => ?_)]
  ·rfl
  obtain ⟨p0, hp0, rfl⟩ := List.mem_map.1 hp
  exact hq p0.1 (hDl p0 hp0) e
 rintro e w' ⟨v, c', rfl, rfl, hr', hvr⟩
 have hput := hr'.put (d := o.dst) (dlt hN hd hdN) hvr
 rw [hd] at hput
 refine hK _ _ (h c' _ ?_)
 rw [hd]
 exact hput
end
section
variable {P : Program} {E : J1} {Q : Exit → St → Prop} {ops : Array Oper} {o : Oper} {rest : List Oper} {t : List (Nat × AV)} {H : List (Nat × QH)} {nx N d : Nat} {w : Bool}
theorem QiN (hN : E.N = N) (hB : Nat.blt nx Ju = true) {tt : TypeId} {len : Nat} {parts : Array (Nat × Operand)} (ho : o.op = .buildSlice tt len parts) {e : TypeId} {n : Nat} [hT : JV P tt e n] {zs : List Value} [hZ : Q5 P e zs] {ps : List (Nat × List AV)} (hp : Qdb ⟨t, H, nx⟩ parts.toList = some ps)
  {flat : List AV} (hf : QcF ((List.range len).map fun i => (i * n, n)) ((List.replicate len zs).flatten.map .p) ps = some flat) (hn : zs.length = n) (h24 : len * n ≤ 16777216) (h25 : len ≤ 16777216) {es : List (List AV)} (hes : es.flatten = flat) (hel : es.length = len) (hek : ∀ x ∈ es, x.length = n)
  (hg : Qm ops ⟨t, H, nx⟩ o = some w) (hw : w = true) (hd : o.dst = some d) (hdN : Nat.blt d N = true)
  (h : Qz P E ops rest Q ⟨(d, .own nx len) :: t, (nx, .arr e n es) :: H, nx + 1⟩) : Qz P E ops (o :: rest) Q ⟨t, H, nx⟩ := by
 subst hw
 refine Qax (.own nx len) ⟨t, (nx, .arr e n es) :: H, nx + 1⟩ hg (dlt hN hd hdN) (fun c a hr => ?_) (by rw [hd]; exact h)
 obtain ⟨g1, g2⟩ := Qak hr (Qcp.refl _) (fun _ _ => rfl) hp
 obtain ⟨i, hi, hsz⟩ := Jc hT.size
 have hzz := hZ.h
 rw [hi] at hzz
 cases hz0 : i.zero with
 | none => simp [hz0] at hzz
 | some z =>
  have hzc : z.cells.toList = zs := by simpa [hz0] using hzz
  have hzn : z.cells.size = n := by rw [← Array.length_toList, hzc]; exact hn
  obtain ⟨cells0, hc0⟩ : ∃ cells0 : Array Value, cells0 = (Array.range (len * n)).map ((if len * n = 0 then #[] else z.cells)[· % (if len * n = 0 then #[] else z.cells : Array Value).size]!) := ⟨_, rfl⟩
  have hs0 : cells0.size = len * n := by rw [hc0]; simp
  have hg0 : ∀ j u, cells0[j]? = some u → j < len * n ∧ zs[j % n]? = some u := fun j u hj => by
   have hjl : j < len * n := by rw [← hs0]; exact (Array.getElem?_eq_some_iff.1 hj).1
   refine ⟨hjl, ?_⟩
   have hne : ¬ len * n = 0 := by omega
   have hn0 : 0 < n := Nat.pos_of_ne_zero (fun e => hne (by rw [e, Nat.mul_zero]))
   rw [hc0] at hj
   simp only [hne, if_false] at hj
   rw [Array.getElem?_map] at hj
   rw [show (Array.range (len * n))[j]? = some j by simp [hjl]] at hj
   simp only [Option.map_some, Option.some.injEq] at hj
   have hm : j % n < z.cells.size := by rw [hzn]; exact Nat.mod_lt _ hn0
   rw [hzn, getElem!_pos z.cells (j % n) hm] at hj
   rw [← hzc]
   simp [hm, hj]
  obtain ⟨cells', f1, f2, f3⟩ := Qe7 (c := c) (pl := (List.range len).map fun i => (i * n, n)) (place := fun j => some (j * n, n)) (fun j os h => by
    rw [List.getElem?_map] at h
    cases hq : (List.range len)[j]? with
    | none => rw [hq] at h; cases h
    | some q =>
     rw [hq] at h
     have : q = j := by have := (List.getElem?_eq_some_iff.1 hq).2; simpa using this.symm
     subst this
     exact h) _ ps cells0 _ flat g1 g2 (by rw [hs0]; simp [hn]) (fun j u y hj hk => by
    obtain ⟨h3, h4⟩ := hg0 j u hj
    rw [List.getElem?_map, Qhs, hn, if_pos h3, h4] at hk
    cases hk
    exact .fr _ _ (.p u)) hf
  have hfl : flat.length = len * n := by
   have key : ∀ (ps : List (Nat × List AV)) (cs cs' : List AV), QcF ((List.range len).map fun i => (i * n, n)) cs ps = some cs' → cs'.length = cs.length := by
    intro ps
    induction ps with
    | nil => intro cs cs' h; cases h; rfl
    | cons q ps ih =>
     obtain ⟨q1, q2⟩ := q
     intro cs cs' h
     simp only [QcF] at h
     split at h
     ·rename_i off size _
      cases hb : (q2.length == size && Nat.ble (off + q2.length) cs.length) with
      | false => rw [hb] at h; cases h
      | true =>
       rw [hb] at h
       simp only [cond_true] at h
       simp only [Bool.and_eq_true] at hb
       have hle := Nat.le_of_ble_eq_true hb.2
       rw [ih _ _ h]
       unfold YL; simp; omega
     cases h
   rw [key ps _ _ hf]; simp [hn]
  have hrun : (execOp a.eval o).run P c.w = .ok (.value (.slice (some ⟨c.w.heap.size, 0, none⟩) len len)) (c.w.alloc (.cells cells' e)) := by
   have hpt : (parts.map fun (i, x) => (i, a.eval x)).toList = parts.toList.map fun (i, x) => (i, a.eval x) := by simp
   have h24' : ¬ (len * i.size > 2 ^ 24) := by rw [hsz]; omega
   rw [hc0] at f1
   have f1' := f1
   rw [← hsz] at f1'
   have hs1 : (sizeOf e).run P c.w = .ok i.size c.w := by simp [sizeOf, typeInfo, hi]
   have hz1 : (zeroValue e).run P c.w = .ok z c.w := by simp [zeroValue, typeInfo, hi, hz0]
   by_cases h0 : len * i.size = 0
   ·simp only [if_pos h0] at f1'
    simp only [execOp, ho, Sem.run_bind, Instr.buildSlice, run_underlying (Q4 hT.h), Result.andThen_ok, hs1, h24', if_false, if_pos h0, Sem.run_pure, hpt, f1']
    simp [newRow]
   simp only [if_neg h0] at f1'
   simp only [execOp, ho, Sem.run_bind, Instr.buildSlice, run_underlying (Q4 hT.h), Result.andThen_ok, hs1, h24', if_false, if_neg h0, hz1, Sem.run_pure, hpt, f1']
   simp [newRow]
  have hxl : cells'.toList.length = len * n := by simp [f2, hfl]
  have hown : (c.w.alloc (.cells cells' e)).ownsRow 0 e n (.slice (some ⟨c.w.heap.size, 0, none⟩) len len) es.length cells'.toList := by
   rw [hel]
   exact ⟨hxl, .inr ⟨c.w.heap.size, len, cells', rfl, Nat.zero_le _, K4 _ _ _, Nat.le_refl _, by unfold maxLen; omega, by simpa using hxl, by rw [← hxl, List.take_length]⟩⟩
  obtain ⟨c', e1, e2, hle, e4, e5, hr'⟩ := hr.new (Nat.le_of_ble_eq_true hB) (Kx c.w (.cells cells' e)) (.slice (some ⟨c.w.heap.size, 0, none⟩) len len) (.arr e n es)
   (fun c' e1 e2 hle => .arr _ e n es cells'.toList (by rw [e1]; exact hown) hek (fun j u y hj hy => by
    rw [hes] at hy
    exact (f3 j u y (by simpa using hj) hy).mono hle) (fun b hb off hs => by
    rw [e2] at hs
    have : c.w.heap.size = b := by simpa [Xi] using hb
    subst this
    exact Nat.lt_irrefl _ (hr.Ssz _ _ hs))) (fun b hb => by
    have : c.w.heap.size = b := by simpa [Xi] using hb
    omega)
  refine ⟨_, c', by rw [e1]; exact hrun, hr', .own _ _ _ e4 (fun A n' cap hh => ?_)⟩
  rw [show c'.V nx = some _ from e5] at hh
  cases hh
  exact ⟨Nat.le_refl _, fun _ => rfl⟩
theorem Q1 {i : Nat} {T : St → Prop} (hN : E.N = N) (hB : Nat.blt nx Ju = true) (hi : ops[i]? = some o) {f : FuncId} {bs : List AV} {te : TypeId} {k : Nat} {es : List (List AV)} (hc : FO P f bs te k es) [hf : Xe P f] {az : List AV} (ho : Qbw ⟨t, H, nx⟩ o f az) (hb : fzl az = some bs)
  (hg : Qm ops ⟨t, H, nx⟩ o = some w) (hw : w = true) (hd : o.dst = some d) (hdN : Nat.blt d N = true)
  (h : T ⟨(d, .own nx es.length) :: t, (nx, .arr te k es) :: H, nx + 1⟩) : aNw P E ops i T ⟨t, H, nx⟩ := by
 subst hw
 refine ⟨o, ⟨t, (nx, .arr te k es) :: H, nx + 1⟩, .own nx es.length, hi, hg, dlt hN hd hdN, fun c a hr K Q hK => ?_, by rw [hd]; exact h⟩
 obtain ⟨vs, hrun, hvl, hv⟩ := ho.run (P := P) hr
 unfold Oper.wp
 rw [hrun, Oper.upon_enter]
 obtain ⟨h3, h4⟩ := Qb3 hb
 have hfrs : FRs c.w c.S vs bs := by
  refine ⟨by rw [hvl, h3], fun i v y hi hj => ?_⟩
  have hix : i < az.length := by have := (List.getElem?_eq_some_iff.1 hj).1; omega
  exact (hv i v _ hi (List.getElem?_eq_getElem hix)).fz (h4 i _ y (List.getElem?_eq_getElem hix) hj)
 refine (hc c.w c.S vs hr.Ssz hfrs).mono ?_
 rintro e w' ⟨v, S', xs, rfl, hbel, hS, hS', hown, hnew, hek, hx, hno⟩
 obtain ⟨c', e1, e2, hle, e4, e5, hr'⟩ := hr.newF (Nat.le_of_ble_eq_true hB) hbel v (.arr te k es) hS hS' (fun c' e1 e2 hle => .arr v te k es xs (by rw [e1]; exact hown) hek (fun i u x hi hx' => .fr _ _ (by rw [e1, e2]; exact hx i u x hi hx')) (fun b hb off hs => hno b hb off (by rw [e2] at hs; exact hs))) hnew
 obtain ⟨A0, cap0, hA0⟩ := YT hown
 have hvr : VR c' v (.own nx es.length) := .own _ _ _ e4 (fun A n' cap hh => by
  rw [show c'.V nx = some v from e5, hA0] at hh
  cases hh
  exact ⟨Nat.le_refl _, fun _ => hA0⟩)
 subst e1
 exact hK c' v hr' hvr
end
section
variable {P : Program} {E : J1} {st : St} {o : Oper} {c : Cx} {a : Act}
theorem QeP {v : Value} {zs : List Int} (h : VR c v (.agg (zs.map fun n => AV.p (.int .i64 n)))) : v = .agg (zs.map fun n => Value.int .i64 n).toArray := by
 have key : ∃ vs : List Value, v = .agg vs.toArray ∧ vs.length = zs.length ∧ ∀ (i : Nat) (v : Value) (x : AV), vs[i]? = some v → (zs.map fun n => AV.p (.int .i64 n))[i]? = some x → VR c v x := by
  cases h with
  | fr _ _ h => cases h with | agg vs _ hl h => exact ⟨vs, rfl, by simpa using hl, fun i v x h1 h2 => .fr _ _ (h i v x h1 h2)⟩
  | agg vs _ hl h => exact ⟨vs, rfl, by simpa using hl, h⟩
 obtain ⟨vs, rfl, hl, hp⟩ := key
 congr 2
 refine List.ext_getElem (by simpa using hl) fun i h1 h2 => ?_
 have h3 : i < zs.length := by omega
 have := hp i vs[i] (.p (.int .i64 zs[i])) (List.getElem?_eq_getElem h1) (by rw [List.getElem?_map, List.getElem?_eq_getElem h3]; rfl)
 rw [this.p_inv]
 simp
theorem QpU {e : TypeId} {k : IntKind} (h : Qdc P e = some k) {cs : Array Value} {i : Nat} {v : Value} (hv : cs[i]? = some v) (w : World) : (part e cs i).run P w = .ok v w := by
 have hu := KM h
 unfold part isAgg
 simp [run_underlying hu, hv]
theorem QeH {e : TypeId} (he : Qdc P e = some .i64) (zs : List Int) (w : World) : ∀ is : List Nat, (∀ i ∈ is, i < zs.length) → (Op.eqItems 9999 e 1 (zs.map fun n => Value.int .i64 n).toArray (zs.map fun n => Value.int .i64 n).toArray is).run P w = .ok true w
 | [], _ => by simp [Op.eqItems]
 | i :: is, h => by
  have hi := h i (.head _)
  have h1 : (zs.map fun n => Value.int .i64 n).toArray[i]? = some (.int .i64 zs[i]) := by simp [hi]
  have p1 := fun w => QpU (P := P) he h1 w
  have ih := QeH he zs w is fun j hj => h j (.tail _ hj)
  have e1 := fun w => run_equalIn_int (P := P) w 9998 e .i64 .i64 zs[i] zs[i] (KM he)
  simp only [Op.eqItems, Sem.run_bind, Nat.mul_one, p1, Result.andThen_ok, e1]
  simpa using ih
theorem Qur {op : BinOp} {tt ty : TypeId} {x y : Operand} (ho : o.op = .binOp op tt x y ty) (hop : op = .eql ∨ op = .neq) {l e : TypeId} [hT : Qmo P tt l e 1] (he : Qdc P e = some .i64) (hc : P.cellsOf e = 1) (hm : P.eqGuardType P.depth tt = false) (zs : List Int) (hl : zs.length = l) (hx : X0 st x = some (.agg (zs.map fun n => AV.p (.int .i64 n)))) (hy : X0 st y = some (.agg (zs.map fun n => AV.p (.int .i64 n)))) {b : Bool} (hb : (match op with | .eql => true | _ => false) = b) : PY P E o st (.p (.bool b)) := by
 subst hb
 have he2 := fun w => run_equalIn_array (P := P) (w := w) 9999 (zs.map fun n => Value.int .i64 n).toArray (zs.map fun n => Value.int .i64 n).toArray (Qcy hT.h) (Jc hT.size).choose_spec.1
 simp only [hc] at he2
 have he3 : ∀ w, (Op.equalIn 10000 tt (.agg (zs.map fun n => Value.int .i64 n).toArray) (.agg (zs.map fun n => Value.int .i64 n).toArray)).run P w = .ok true w := fun w => (he2 w).trans (QeH he zs w _ (fun j hj => by have := List.mem_range.1 hj; omega))
 rcases hop with rfl | rfl
 all_goals
  refine YZ fun st' h1 h2 c a hr => ?_
  have hvx := hr.ev x
  rw [h1 x (by simp [ho, Op.operands]), QT hx] at hvx
  have hvy := hr.ev y
  rw [h1 y (by simp [ho, Op.operands]), QT hy] at hvy
  refine ⟨_, ?_, .fr _ _ (.p _)⟩
  simp only [execOp, ho, QeP hvx, QeP hvy]
 ·have hg := run_eqGuard_agg (P := P) c.w .eql tt x y (zs.map fun n => Value.int .i64 n).toArray (zs.map fun n => Value.int .i64 n).toArray hm
  simp only [Sem.run_bind, hg, Result.andThen_ok, run_eql_struct, he3]
  simp
 have hg := run_eqGuard_agg (P := P) c.w .neq tt x y (zs.map fun n => Value.int .i64 n).toArray (zs.map fun n => Value.int .i64 n).toArray hm
 simp only [Sem.run_bind, hg, Result.andThen_ok, run_neq_struct, he3]
 simp
theorem Qd3 {zs : List Int} (w : World) : ∀ fs : List Field, (∀ f ∈ fs, (f.name == "_") = false ∧ Qdc P f.type = some .i64 ∧ f.offset < zs.length) → (Op.eqFields 9999 (zs.map fun n => Value.int .i64 n).toArray (zs.map fun n => Value.int .i64 n).toArray fs).run P w = .ok true w
 | [], _ => by simp [Op.eqFields]
 | f :: fs, h => by
  obtain ⟨n1, i1, o1⟩ := h f (.head _)
  have m1 : f.name ≠ "_" := by simpa using n1
  have h1 : (zs.map fun n => Value.int .i64 n).toArray[f.offset]? = some (.int .i64 zs[f.offset]) := by simp [o1]
  have p1 := fun w => Qb8 (P := P) i1 h1 w
  have ih := Qd3 w fs fun j hj => h j (.tail _ hj)
  have e1 := fun w => run_equalIn_int (P := P) w 9998 f.type .i64 .i64 zs[f.offset] zs[f.offset] (KM i1)
  simp only [Op.eqFields, if_pos m1, Sem.run_bind, p1, Result.andThen_ok, e1]
  simpa using ih
theorem Qs0 {tt ty : TypeId} {x y : Operand} (ho : o.op = .binOp .eql tt x y ty) (hu : P.underlying tt = some (.struct (P.fieldsOf tt))) (hp : P.stoodInHeld tt = false) (hm : P.eqGuardType P.depth tt = false) (zs : List Int) (hf : ((P.fieldsOf tt).toList.all fun f => !(f.name == "_") && (Qdc P f.type == some .i64) && Nat.blt f.offset zs.length) = true) (hx : X0 st x = some (.agg (zs.map fun n => AV.p (.int .i64 n)))) (hy : X0 st y = some (.agg (zs.map fun n => AV.p (.int .i64 n)))) : PY P E o st (.p (.bool true)) := by
 refine YZ fun st' h1 h2 c a hr => ?_
 have hvx := hr.ev x
 rw [h1 x (by simp [ho, Op.operands]), QT hx] at hvx
 have hvy := hr.ev y
 rw [h1 y (by simp [ho, Op.operands]), QT hy] at hvy
 refine ⟨_, ?_, .fr _ _ (.p _)⟩
 simp only [execOp, ho, QeP hvx, QeP hvy]
 have hg := run_eqGuard_agg (P := P) c.w .eql tt x y (zs.map fun n => Value.int .i64 n).toArray (zs.map fun n => Value.int .i64 n).toArray hm
 have he := run_eql_struct (P := P) c.w tt (zs.map fun n => Value.int .i64 n).toArray (zs.map fun n => Value.int .i64 n).toArray
 rw [run_equalIn_agg _ _ _ _ _ hu hp, Qd3 c.w _ (fun f hf' => by
  have := List.all_eq_true.1 hf f hf'
  simp only [Bool.and_eq_true, Bool.not_eq_true'] at this
  exact ⟨this.1.1, by simpa using this.1.2, Nat.le_of_ble_eq_true this.2⟩)] at he
 simp only [Sem.run_bind, hg, Result.andThen_ok, he]
 simp
end
section
variable {P : Program} {E : J1} {ops : Array Oper} {o : Oper} {w : Bool} {N d : Nat} {s : St}
theorem Qgr (hN : E.N = N) {tt : TypeId} {x ix : Operand} (ho : o.op = .indexAddr tt x ix) {e : TypeId} {n : Nat} [hT : JV P tt e n] {es : List (List AV)} {tk : Option Nat} (hx : X0 s x = some (.sl es tk)) {k : IntKind} {i : Int} (hi : X0 s ix = some (.p (.int k i))) (j : Nat) (hij : i = (j : Int)) (cs : List AV) (hj : es[j]? = some cs) (hn : cs.length = n)
  (hg : Qm ops s o = some w) (hw : w = true) (hd : o.dst = some d) (hdN : Nat.blt d N = true) : WI P E ops o (.el cs) s := Qhd hN hg hw hd hdN fun c a hr => by
 have hv := hr.ev x
 rw [QT hx] at hv
 have hvi := hr.ev ix
 rw [QT hi] at hvi
 have hvi := hvi.p_inv
 have hfr := hv.sl_inv
 have hjl : j < es.length := (List.getElem?_eq_some_iff.1 hj).1
 generalize hvx : a.eval x = vx at *
 cases hfr with
 | sl A m cc k' _ b off f hl hm hcc hA hk hcell h =>
  subst hl
  have hk' : k' = n := by rw [← hk j cs hj, hn]
  subst hk'
  obtain rfl := hA (by omega)
  refine ⟨.pointer (some ⟨b, off + j * k', none⟩), fun w => ?_, .fr _ _ (.el b (off + j * k') cs (fun q => f j q) (fun q y hq => ?_) (fun q y hq => h j cs q y hj hq))⟩
  ·subst hij
   simp [execOp, ho, Instr.indexAt, hvi, hvx, asIntOf, run_underlying (Q4 hT.h), hjl, XO hT.size, Addr.add_mk]
  exact hcell j cs q y hj hq
end
section
variable {P : Program} {E : J1} {st : St} {o : Oper}
theorem Qmz (op : BinOp) (t ty : TypeId) (x y : Operand) (ho : o.op = .binOp op t x y ty) {u u' v : Value} (hx : X0 st x = some (.p u)) (hy : X0 st y = some (.p u')) (hb : ∀ x y w, (do eqGuard op t x y u u'; binOp op t u u' : Sem Value).run P w = .ok v w) : PY P E o st (.p v) :=
 haveI : Qam P t op u u' v := ⟨hb⟩
 QhV ho hx hy
theorem QmE {tt ty : TypeId} {x y : Operand} (ho : o.op = .binOp .shl tt x y ty) {n : Nat} (hx : X0 st x = some (.p (.int .i64 1))) (hy : X0 st y = some (.p (.int .i64 (n : Int)))) (hn : n ≤ 32) : PY P E o st (.p (.int .i64 ((2 ^ n : Nat) : Int))) := by
 refine Qmz .shl tt ty x y ho hx hy fun x y w => ?_
 have h3 : (2 : Nat) ^ n ≤ 2 ^ 32 := Nat.pow_le_pow_right (by decide) hn
 have h5 : ((2 ^ n : Nat) : Int) ≤ 4294967296 := Int.ofNat_le.2 (Nat.le_trans h3 (by decide))
 have h6 : (0 : Int) ≤ ((2 ^ n : Nat) : Int) := Int.natCast_nonneg _
 have h4 : IntKind.i64.wrap ((2 : Int) ^ n) = (2 : Int) ^ n := by
  rw [show (2 : Int) ^ n = ((2 ^ n : Nat) : Int) by simp]
  exact IntWalk.i64_in _ (by omega)
 simp [eqGuard, binOp, h4]
theorem Qnf {tt ty : TypeId} {x y : Operand} (ho : o.op = .binOp .shr tt x y ty) {b n : Nat} (hx : X0 st x = some (.p (.int .i64 (b : Int)))) (hy : X0 st y = some (.p (.int .i64 (n : Int)))) (hn : n ≤ 64) : PY P E o st (.p (.int .i64 ((b / 2 ^ n : Nat) : Int))) := by
 refine Qmz .shr tt ty x y ho hx hy fun x y w => ?_
 have h1 : ¬ ((n : Int) < 0) := by omega
 have h2 : min n IntKind.i64.bits = n := by show min n 64 = n; omega
 have h4 : (b : Int).fdiv (2 ^ n) = ((b / 2 ^ n : Nat) : Int) := by
  rw [show (2 : Int) ^ n = ((2 ^ n : Nat) : Int) by simp]
  rw [Int.fdiv_eq_ediv_of_nonneg _ (Int.natCast_nonneg _)]; rfl
 simp only [eqGuard, binOp, Op.shift, if_neg h1, Int.toNat_natCast, h2, h4]
 rfl
theorem QmK {tt ty : TypeId} {x y : Operand} (ho : o.op = .binOp .and tt x y ty) {b : Nat} (hx : X0 st x = some (.p (.int .i64 (b : Int)))) (hy : X0 st y = some (.p (.int .i64 1))) (hb : b < 2 ^ 62) : PY P E o st (.p (.int .i64 ((b % 2 : Nat) : Int))) := by
 refine Qmz .and tt ty x y ho hx hy fun x y w => ?_
 have h1 : ((BitVec.ofInt 64 (b : Int) &&& BitVec.ofInt 64 1).toNat : Int) = ((b % 2 : Nat) : Int) := by
  have e1 : BitVec.ofInt 64 (b : Int) = BitVec.ofNat 64 b := BitVec.ofInt_natCast 64 b
  have e2 : BitVec.ofInt 64 1 = BitVec.ofNat 64 1 := rfl
  rw [e1, e2, BitVec.toNat_and, BitVec.toNat_ofNat, BitVec.toNat_ofNat, Nat.mod_eq_of_lt (by omega), Nat.mod_eq_of_lt (by decide), Nat.and_one_is_mod]
 have h2 : IntKind.i64.wrap ((BitVec.ofInt 64 (b : Int) &&& BitVec.ofInt 64 1).toNat : Int) = ((b % 2 : Nat) : Int) := by
  rw [h1]
  exact IntWalk.i64_in _ (by omega)
 have h3 : (Op.intBits .and .i64 (b : Int) 1 : Sem Value) = pure (.int .i64 ((b % 2 : Nat) : Int)) := congrArg (fun z => (pure (Value.int .i64 z) : Sem Value)) h2
 simp [eqGuard, binOp, h3]
end
section
variable {P : Program} {E : J1} {Q : Exit → St → Prop} {ops : Array Oper} {o : Oper} {rest : List Oper} {t : List (Nat × AV)} {H : List (Nat × QH)} {nx N d : Nat} {w : Bool} {c : Cx} {a : Act}
theorem Qpj (hr : JF E c a ⟨t, H, nx⟩) {q n : Nat} {te : TypeId} {es : List (List AV)} (hq : Ql H q = some (.arr te n es)) (p : Nat) (vs : List Value) (ys : List AV) (hvy : ∀ (i : Nat) (u : Value) (z : AV), vs[i]? = some u → ys[i]? = some z → VR c u z)
  (hp : p + vs.length ≤ es.length * n) (hpos : 0 < es.length) (es' : List (List AV)) (hl' : es'.length = es.length) (hk' : ∀ e ∈ es', e.length = n) (hfs : ∀ j, j < es.length * n → es'.flatten[j]? = if p ≤ j ∧ j < p + vs.length then ys[j - p]? else es.flatten[j]?) (h1c : ∀ v ∈ vs, v.oneCell' = true) :
  ∃ g cap, c.V q = some (.slice (some ⟨g, 0, none⟩) es.length cap) ∧ es.length ≤ cap ∧ (storeCells ⟨g, p, none⟩ vs).run P c.w = .ok () (c.w.setCells g p vs) ∧ ∃ c' : Cx, c'.w = c.w.setCells g p vs ∧ JF E c' a (St.set ⟨t, H, nx⟩ q (.arr te n es')) := by
 obtain ⟨hkq, v0, hv0, hor, _⟩ := hr.live q _ hq
 cases hor with
 | arr _ _ _ _ xs hown _ hxs hS =>
  rcases hown.2 with ⟨hnil, h0⟩ | ⟨g, cap, cur, hv, -, hgb, hnc, hcm, hcs, htk⟩
  ·omega
  subst hv
  have hcapn : es.length * n ≤ cap * n := Nat.mul_le_mul_right _ hnc
  obtain ⟨cur', h4, h5, h6⟩ := KU g te (0, 0) vs p c.w cur hgb
  obtain ⟨r1, r2, r3, r4, r5⟩ := KA g vs p c.w
  have hxl : xs.length = es.length * n := hown.1
  have hcur : ∀ i, i < es.length * n → cur[i]? = xs[i]? := fun i hi => by
   have := congrArg (·[i]?) htk
   simpa only [List.getElem?_take, if_pos hi, Array.getElem?_toList] using this
  obtain ⟨xs', hxs'⟩ : ∃ xs', xs' = xs.take p ++ vs ++ xs.drop (p + vs.length) := ⟨_, rfl⟩
  have hxg : ∀ i, xs'[i]? = if p ≤ i ∧ i < p + vs.length then vs[i - p]? else xs[i]? := fun i => by
   rw [hxs']
   by_cases ha : i < p
   ·rw [if_neg (by omega), List.append_assoc, List.getElem?_append_left (by simp; omega), List.getElem?_take, if_pos ha]
   by_cases hb : i < p + vs.length
   ·rw [if_pos (by omega), List.append_assoc, List.getElem?_append_right (by simp; omega), List.getElem?_append_left (by simp; omega)]
    congr 1
    simp; omega
   rw [if_neg (by omega), List.getElem?_append_right (by simp; omega), List.getElem?_drop]
   congr 1
   simp; omega
  have hxl' : xs'.length = es.length * n := by rw [hxs']; simp; omega
  obtain ⟨c', e1, -, hle', -, -, hr'⟩ := hr.upd hq (w' := c.w.setCells g p vs) (S' := c.S) hv0 (.arr te n es') (v' := .slice (some ⟨g, 0, none⟩) es.length cap) r1 r2 r3 ⟨by omega, by omega⟩
   (fun k hk hne => JD g _ _ _ k (fun e => hne (by rw [e]; rfl)))
   (fun b' off' hs => ⟨hs, by
    have hne : b' ≠ g := fun e => hS b' (by rw [e]; rfl) off' hs
    have := JD g vs p c.w b' hne
    simp only [World.cell?, this]⟩)
   (fun b' off' hs => .inl hs) (.inl rfl) (.refl _)
   (fun c' e1 e2 hle => .arr _ te n es' xs' (by
    rw [e1, hl']
    refine ⟨hxl', .inr ⟨g, cap, cur', rfl, Nat.zero_le _, h4, hnc, hcm, by rw [h5, hcs], ?_⟩⟩
    have := QgO (cur := cur') (l := xs') (by rw [h5, hcs, hxl']; omega) (fun i hi => by
     rw [hxl'] at hi
     rw [h6, hxg]
     by_cases hin : p ≤ i ∧ i < p + vs.length
     ·rw [if_pos ⟨hin.1, hin.2, by rw [hcs]; omega⟩, if_pos hin]
     rw [if_neg (by omega), if_neg hin, hcur i hi])
    rwa [hxl'] at this) hk' (fun i u z hi hz => by
     have hil : i < es.length * n := by
      have := (List.getElem?_eq_some_iff.1 hi).1
      rwa [hxl'] at this
     rw [hxg] at hi
     rw [hfs i hil] at hz
     by_cases hin : p ≤ i ∧ i < p + vs.length
     ·rw [if_pos hin] at hi hz
      exact (hvy _ u z hi hz).mono hle
     rw [if_neg hin] at hi hz
     exact (hxs i u z hi hz).mono hle) (fun b hb off hs => by rw [e2] at hs; exact hS b hb off hs))
  have hrun := run_storeCells_cells (P := P) g p vs 0 c.w
   (fun i hi => by
    rw [Ka hgb]
    have : p + i < cur.size := by rw [hcs]; omega
    simp [this])
   (fun j hj => by simp [World.frozen?, hgb]) h1c
  rw [Nat.add_zero] at hrun
  exact ⟨g, cap, hv0, hnc, hrun, c', e1, hr'⟩
theorem Qjk {k : Nat} : ∀ {es : List (List AV)}, (∀ e ∈ es, e.length = k) → ∀ j, (es.take j).flatten = es.flatten.take (j * k)
 | [], _, j => by simp
 | x :: es, hk, 0 => by simp
 | x :: es, hk, j + 1 => by
  have hx := hk x (by simp)
  rw [List.take_succ_cons, List.flatten_cons, List.flatten_cons, Qjk (fun e he => hk e (by simp [he])) j, show (j + 1) * k = x.length + j * k by rw [hx, Nat.add_mul]; omega, List.take_append, List.take_of_length_le (Nat.le_add_right _ _), Nat.add_sub_cancel_left]
theorem Qsb (hN : E.N = N) {o1 o2 : Oper} {tt : TypeId} {x lo : Operand} (ho1 : o1.op = .slice tt x (some lo) none none) {e : TypeId} {k : Nat} [hT : JV P tt e k] {zs : List Value} [hZ : Q5 P e zs] (hzk : zs.length = k) (y0 : List AV) (hyl : y0.length = zs.length) (hy0 : ∀ (c : Cx) (i : Nat) (u : Value) (y : AV), zs[i]? = some u → y0[i]? = some y → VR c u y) (h1z : zs.all Value.oneCell' = true)
  (ho2 : o2.op = .call { callee := .builtin .clear, args := #[.tmp d], argTypes := #[tt] }) {q n : Nat} (hx : X0 ⟨t, H, nx⟩ x = some (.own q n)) {i : Int} (hi : X0 ⟨t, H, nx⟩ lo = some (.p (.int .i64 i))) {te : TypeId} {es : List (List AV)} (hq : Ql H q = some (.arr te k es)) (hm : n = es.length) (hk : ∀ e ∈ es, e.length = k)
  (j : Nat) (hij : i = (j : Int)) (hj : j < n) (hg1 : Qm ops ⟨t, H, nx⟩ o1 = some true) (hd1 : o1.dst = some d) (hdN : Nat.blt d N = true) (hg2 : Qm ops ⟨(d, .bot) :: t, H, nx⟩ o2 = some true) (hd2 : o2.dst = none)
  (h : Qz P E ops rest Q ⟨(d, .bot) :: t, (q, .arr te k (es.take j ++ List.replicate (n - j) y0)) :: H, nx⟩) : Qz P E ops (o1 :: o2 :: rest) Q ⟨t, H, nx⟩ := fun c a hr => by
 subst hm hij hzk
 have hdN' := Nat.le_of_ble_eq_true hdN
 obtain ⟨iz, hiz, hsz⟩ := Jc hT.size
 have hzz := hZ.h
 rw [hiz] at hzz
 cases hz0 : iz.zero with
 | none => simp [hz0] at hzz
 | some z =>
  have hzc : z.cells.toList = zs := by simpa [hz0] using hzz
  have hzs : z.cells.size = zs.length := by rw [← hzc]; simp
  obtain ⟨vs, hvs⟩ : ∃ vs, vs = (Builtin.zeroCells z.cells (es.length - j)).toList := ⟨_, rfl⟩
  have hvl : vs.length = (es.length - j) * zs.length := by rw [hvs]; simp [Builtin.zeroCells, hzs]
  have hvg : ∀ (i : Nat) (u : Value), vs[i]? = some u → zs[i % zs.length]? = some u := fun i u hi => by
   subst hvs
   obtain ⟨hil, hiu⟩ := List.getElem?_eq_some_iff.1 hi
   rw [hvl] at hil
   have hpos : 0 < zs.length := by
    rcases Nat.eq_zero_or_pos zs.length with h0 | h0
    ·rw [h0] at hil; omega
    exact h0
   have hm2 : i % z.cells.size < z.cells.size := by rw [hzs]; exact Nat.mod_lt _ hpos
   rw [← hiu]
   simp only [Builtin.zeroCells, Array.getElem_toList, Array.getElem_map, Array.getElem_range]
   rw [getElem!_pos z.cells _ hm2, ← hzc, Array.length_toList, Array.getElem?_toList, Array.getElem?_eq_getElem hm2]
  have hmul : j * zs.length + (es.length - j) * zs.length = es.length * zs.length := by rw [← Nat.add_mul]; congr 1; omega
  have hflat : es.flatten.length = es.length * zs.length := QbE hk
  have htk : (es.take j).flatten = es.flatten.take (j * zs.length) := Qjk hk j
  have key := fun (a : Act) (t : List (Nat × AV)) (hr : JF E c a ⟨t, H, nx⟩) => Qpj (P := P) hr hq (j * zs.length) vs ((List.replicate (es.length - j) y0).flatten) (fun i u y hi hy => by
    have hil : i < (es.length - j) * y0.length := by
     have := (List.getElem?_eq_some_iff.1 hi).1
     rw [hyl, ← hvl]; exact this
    rw [QhI _ _ _ hil, hyl] at hy
    exact hy0 c _ u y (hvg i u hi) hy) (by rw [hvl, hmul]; exact Nat.le_refl _) (by omega) (es.take j ++ List.replicate (es.length - j) y0) (by simp; omega) (fun e he => by
    rcases List.mem_append.1 he with h | h
    ·exact hk e (List.mem_of_mem_take h)
    ·rw [List.eq_of_mem_replicate h, hyl]) (fun m hm => by
    rw [List.flatten_append, htk]
    by_cases h1 : m < j * zs.length
    ·rw [if_neg (by omega), List.getElem?_append_left (by rw [List.length_take, hflat]; omega), List.getElem?_take, if_pos h1]
    ·rw [if_pos ⟨by omega, by rw [hvl, hmul]; exact hm⟩, List.getElem?_append_right (by rw [List.length_take, hflat]; omega), List.length_take, hflat, Nat.min_eq_left (by omega)]) (fun v hv => by
    obtain ⟨i, hi⟩ := List.getElem?_of_mem hv
    exact List.all_eq_true.1 h1z v (List.mem_of_getElem? (hvg i v hi)))
  obtain ⟨g, cap, hV, hcap, -, -⟩ := key a t hr
  have hvx := hr.ev x
  rw [QT hx] at hvx
  have hvi := hr.ev lo
  rw [QT hi] at hvi
  have hvi := hvi.p_inv
  have hvp : a.eval x = .slice (some ⟨g, 0, none⟩) es.length cap := by
   generalize a.eval x = vx at hvx
   cases hvx with
   | fr _ _ h => cases h
   | own _ _ _ hK hV2 => exact (hV2 _ _ _ hV).2 rfl
  have hb : (Instr.sliceBounds true es.length cap (some (.int .i64 (j : Int))) none none).run P c.w = .ok (j, es.length, cap) c.w := by
   simp [Instr.sliceBounds, Instr.sliceBound, asIntOf]; omega
  have hrun1 : (execOp a.eval o1).run P c.w = .ok (.value (.slice (some ⟨g, j * zs.length, none⟩) (es.length - j) (cap - j))) c.w := by
   have hne : ¬ cap = j := by omega
   simp [execOp, ho1, Instr.sliceAt, Instr.slice, hvp, hvi, run_underlying (Q4 hT.h), hb, XO hT.size, hne, Addr.add_mk]
  have hr1 := hr.put (d := some d) (fun y hy => by cases hy; rw [hN]; exact hdN') (v := .slice (some ⟨g, j * zs.length, none⟩) (es.length - j) (cap - j)) (.fr _ _ (.bot _))
  refine wpList_step fun K hK => ?_
  rw [XK hg1 hr, if_pos rfl]
  unfold Oper.wp
  rw [hrun1, Oper.upon_value, hd1]
  refine hK _ _ ?_
  obtain ⟨g2, cap2, hV2, -, hst, c', e1, hr'⟩ := key _ _ hr1
  rw [hV] at hV2
  cases hV2
  refine wpList_step fun K hK => ?_
  rw [XK hg2 hr1, if_pos rfl]
  have hev : (a.put (some d) (.slice (some ⟨g, j * zs.length, none⟩) (es.length - j) (cap - j))).eval (.tmp d) = .slice (some ⟨g, j * zs.length, none⟩) (es.length - j) (cap - j) := by
   show ((a.tmps.setIfInBounds d _).getD d undef) = _
   rw [Qk3 _ _ _ _ (by rw [hr.size, hN]; exact hdN'), if_pos rfl]
  have hzv : ∀ w, (zeroValue e).run P w = .ok z w := fun w => by simp [zeroValue, typeInfo, hiz, hz0]
  obtain ⟨m, hm⟩ : ∃ m, es.length - j = m + 1 := ⟨es.length - j - 1, by omega⟩
  have hrun2 : (execOp (a.put (some d) (.slice (some ⟨g, j * zs.length, none⟩) (es.length - j) (cap - j))).eval o2).run P c.w = .ok (.value (.tuple #[])) c'.w := by
   rw [hvs] at hst
   rw [e1, hvs]
   rw [hm] at hev hst ⊢
   simp [execOp, ho2, resolve, invoke, builtin, hev, Builtin.clear_, run_underlying (Q4 hT.h), hzv, hst]
  unfold Oper.wp
  rw [hrun2, Oper.upon_value, hd2]
  exact hK _ _ (h c' _ hr')
end
section
variable {E : J1} {t : List (Nat × AV)} {H : List (Nat × QH)} {nx : Nat}
theorem QrB (q : Nat) {te : TypeId} {k : Nat} {es es' : List (List AV)} (hq : Ql H q = some (.arr te k es)) (hl : es'.length = es.length) (hk' : ∀ e ∈ es', e.length = k) (h : ∀ (i : Nat) (x y : AV), es.flatten[i]? = some x → es'.flatten[i]? = some y → ∀ (c : Cx) (v : Value), VR c v x → VR c v y) : WM E ⟨t, H, nx⟩ ⟨t, (q, .arr te k es') :: H, nx⟩ := fun c a hr => by
 have hlk : ∀ o, Ql ((q, QH.arr te k es') :: H) o = if o = q then some (QH.arr te k es') else Ql H o := fun o => QM _ _ _ _
 refine ⟨c, rfl, { hr with live := fun o ob ho => ?_, dead := fun o ho => ?_ }⟩
 ·replace ho : Ql ((q, QH.arr te k es') :: H) o = some ob := ho
  rw [hlk] at ho
  split at ho
  ·rename_i e
   subst e
   cases ho
   obtain ⟨g1, v, g2, g3, g4⟩ := hr.live _ _ hq
   refine ⟨g1, v, g2, ?_, g4⟩
   cases g3 with
   | arr _ _ _ _ xs hown hk hx hS =>
    refine .arr v te k es' xs (by rw [hl]; exact hown) hk' (fun i u y hi hy => ?_) hS
    have hxl : xs.length = es.length * k := hown.1
    have hil := (List.getElem?_eq_some_iff.1 hi).1
    have : i < es.flatten.length := by rw [QbE hk]; omega
    exact h i _ y (List.getElem?_eq_getElem this) hy c u (hx i u _ hi (List.getElem?_eq_getElem this))
  exact hr.live o ob ho
 replace ho : Ql ((q, QH.arr te k es') :: H) o = none := ho
 rw [hlk] at ho
 split at ho
 ·cases ho
 exact hr.dead o ho
def QoM : AV → AV → Bool
 | .p (.slice none 0 0), .sl [] none => true
 | .p (.int k n), .p (.int k' n') => k == k' && n == n'
 | _, _ => false
theorem QqK {x y : AV} (h : QoM x y = true) (c : Cx) (v : Value) (hv : VR c v x) : VR c v y := by
 unfold QoM at h
 split at h
 ·rw [hv.p_inv]; exact .fr _ _ (.nil _ _ _ _ (Nat.zero_le _))
 ·rw [Bool.and_eq_true, beq_iff_eq, beq_iff_eq] at h
  obtain ⟨rfl, rfl⟩ := h
  exact hv
 cases h
theorem Qi4 : ∀ {xs ys : List AV}, (xs.zip ys).all (fun p => QoM p.1 p.2) = true → ∀ (i : Nat) (x y : AV), xs[i]? = some x → ys[i]? = some y → ∀ (c : Cx) (v : Value), VR c v x → VR c v y
 | [], _, _, i, x, y, hx, _ => by simp at hx
 | _ :: _, [], _, i, x, y, _, hy => by simp at hy
 | a :: xs, b :: ys, h, 0, x, y, hx, hy => by
  simp at hx hy; subst hx hy
  simp only [List.zip_cons_cons, List.all_cons, Bool.and_eq_true] at h
  exact QqK h.1
 | a :: xs, b :: ys, h, i + 1, x, y, hx, hy => by
  simp only [List.zip_cons_cons, List.all_cons, Bool.and_eq_true] at h
  exact Qi4 h.2 i x y (by simpa using hx) (by simpa using hy)
theorem QpK (q : Nat) {te : TypeId} {k : Nat} {es es' : List (List AV)} (hq : Ql H q = some (.arr te k es)) (hl : es'.length = es.length) (hk' : ∀ e ∈ es', e.length = k) (h : (es.flatten.zip es'.flatten).all (fun p => QoM p.1 p.2) = true) : WM E ⟨t, H, nx⟩ ⟨t, (q, .arr te k es') :: H, nx⟩ := QrB q hq hl hk' (Qi4 h)
end
section
variable {P : Program} {E : J1} {ops : Array Oper} {md : Region.Mode}
def QkR (w0 : World) (S0 : Nat → Nat → Prop) (w : World) : Prop := ∀ b off, S0 b off → w.cell? ⟨b, off, none⟩ = w0.cell? ⟨b, off, none⟩
def WF (P : Program) (E : J1) (ops : Array Oper) (o : Oper) (x : AV) (s : St) : Prop := QiM E o ∧ ∀ c a, JF E c a s → ∃ v, YieldsIf P ops (QkR c.w c.S) o v a ∧ VR c v x
theorem WI.wf {o : Oper} {x : AV} {s : St} (h : WI P E ops o x s) : WF P E ops o x s := ⟨h.1, fun c a hr => by
 obtain ⟨v, hy, hv⟩ := h.2 c a hr
 exact ⟨v, hy.yieldsIf, hv⟩⟩
def AF (P : Program) (E : J1) (ops : Array Oper) (md : Region.Mode) (Q : Exit → St → Prop) : Nat → Array Bool → St → Prop
 | 0, listed, s => AU P E ops md Q 0 listed s
 | f + 1, listed, s => (∃ i oi x, ops[i]? = some oi ∧ (Region.ready md ops listed).contains i = true ∧ Region.free md ops listed i = true ∧ WF P E ops oi x s ∧ AF P E ops md Q f (listed.setIfInBounds i true) (s.put oi.dst x)) ∨ AU P E ops md Q (f + 1) listed s
theorem W5 {Q : Exit → St → Prop} (hs : Region.noSelect ops = true) (hQ : ∀ c s, Q (.panic c) s → False) : ∀ (f : Nat) (listed : Array Bool) (c : Cx) (a : Act) (s : St), JF E c a s → AU P E ops md Q f listed s → wpAnyH P md ops (QjB E Q) (QkR E.w0 E.S0) f listed a c.w
 | 0, _, c, _, s, hr, h => ⟨h.1, c, s, rfl, hr, h.2⟩
 | f + 1, listed, c, a, s, hr, h => by
  have sm : ∀ {c : Cx} {a : Act} {s : St}, JF E c a s → QkR E.w0 E.S0 c.w := fun hr b off h => (hr.S0 b off h).2
  rcases h with ⟨i, oi, x, hoi, hrd, hfr, ⟨hd, hwi⟩, hk⟩ | h
  ·obtain ⟨v, hy, hv⟩ := hwi c a hr
   exact wpAnyH_take hoi hs hfr hrd (fun c' a' w' ⟨c2, s2, _, _, hq⟩ => (hQ c' s2 hq).elim) hy.yieldsIf (sm hr) (W5 hs hQ f _ c _ _ (hr.put hd hv) hk)
  refine ⟨fun h0 => ⟨c, s, rfl, hr, h.1 h0⟩, fun i hi => ?_⟩
  rcases h.2 i hi with h1 | ⟨o, s', ho, hw, hd, hrun, hk⟩ | ⟨o, s', x, ho, hw, hd, hrun, hk⟩
  ·exact Qah hr (fun c' a' s' hr' h' => ⟨sm hr', W5 hs hQ f _ c' a' s' hr' h'⟩) h1
  ·unfold wpOp
   simp only [ho]
   rw [XK hw hr, if_pos rfl]
   obtain ⟨c', hrun', hr'⟩ := hrun c a hr
   refine .inl ?_
   unfold Oper.wp
   rw [hrun', Oper.upon_skip, hd]
   exact ⟨sm hr', W5 hs hQ f _ c' _ s' hr' hk⟩
  unfold wpOp
  simp only [ho]
  rw [XK hw hr, if_pos rfl]
  exact .inl (hrun c a hr _ _ fun c' v hr' hv => ⟨sm (hr'.put hd hv), W5 hs hQ f _ c' _ _ (hr'.put hd hv) hk⟩)
theorem QgL {Q : Exit → St → Prop} (hs : Region.noSelect ops = true) (hQ : ∀ c s, Q (.panic c) s → False) (c : Cx) (hw : c.w = E.w0) (hS : c.S = E.S0) : ∀ (f : Nat) (listed : Array Bool) (a : Act) (s : St), JF E c a s → AF P E ops md Q f listed s → wpAnyH P md ops (QjB E Q) (QkR E.w0 E.S0) f listed a c.w
 | 0, listed, a, s, hr, h => W5 hs hQ 0 listed c a s hr h
 | f + 1, listed, a, s, hr, h => by
  rcases h with ⟨i, oi, x, hoi, hrd, hfr, ⟨hd, hwi⟩, hk⟩ | h
  ·obtain ⟨v, hy, hv⟩ := hwi c a hr
   rw [hw, hS] at hy
   exact wpAnyH_take hoi hs hfr hrd (fun c' a' w' ⟨c2, s2, _, _, hq⟩ => (hQ c' s2 hq).elim) hy (fun b off _ => by rw [hw]) (QgL hs hQ c hw hS f _ _ _ (hr.put hd hv) hk)
  exact W5 hs hQ (f + 1) listed c a s hr h
def J1.at (E : J1) (c : Cx) (hg : E.w0.heap.size ≤ c.w.heap.size) : J1 := ⟨E.N, c.w, c.S, E.Wr, fun b h => E.new b (Nat.le_trans hg h), E.KB, E.kb, c.V⟩
theorem JF.rebase {c : Cx} {a : Act} {s : St} (hr : JF E c a s) : JF (E.at c hr.grown) c a s := {
 defers := hr.defers, size := hr.size, tmps := hr.tmps, live := hr.live, dead := hr.dead, apart := hr.apart, ids := hr.ids, nxB := hr.nxB, kbs := hr.kbs
 V0 := fun _ _ => QbR.refl _, Ssz := hr.Ssz, os := rfl, tape := rfl, output := rfl, drawn := Nat.le_refl _, grown := Nat.le_refl _
 frame := fun _ _ _ => rfl, S0 := fun _ _ h => ⟨h, rfl⟩, Snew := fun _ _ h => .inl h }
theorem JF.back {c c2 : Cx} {a a2 : Act} {s s2 : St} (hr : JF E c a s) (h : JF (E.at c hr.grown) c2 a2 s2) : JF E c2 a2 s2 := {
 defers := h.defers, size := h.size, tmps := h.tmps, live := h.live, dead := h.dead, apart := h.apart, ids := h.ids, nxB := h.nxB, kbs := h.kbs
 V0 := fun o ho => (hr.V0 o ho).trans (h.V0 o ho), Ssz := h.Ssz, os := h.os.trans hr.os, tape := h.tape.trans hr.tape, output := h.output.trans hr.output
 drawn := Nat.le_trans hr.drawn h.drawn, grown := Nat.le_trans hr.grown h.grown
 frame := fun b hb hw => (h.frame b (Nat.lt_of_lt_of_le hb hr.grown) hw).trans (hr.frame b hb hw)
 S0 := fun b off hs => by
  obtain ⟨h1, h2⟩ := hr.S0 b off hs
  obtain ⟨h3, h4⟩ := h.S0 b off h1
  exact ⟨h3, h4.trans h2⟩
 Snew := fun b off hs => by
  rcases h.Snew b off hs with h1 | h1
  ·exact hr.Snew b off h1
  exact .inr h1 }
theorem QdG {Q : Exit → St → Prop} {st : St} {id : Nat} {l : List Oper} {N : Nat} (hN : E.N = N) (n : Nat) (hn : l.toArray.size = n) (hm : P.follows .mixedOrders = true) (hs : Region.noSelect l.toArray = true) (hQ : ∀ c s, Q (.panic c) s → False) (h : ∀ E' : J1, E'.N = N → AF P E' l.toArray .any Q n (Array.replicate n false) st) : J5 P E (.region id l.toArray true) Q st := fun c a hr => by
 subst hn
 have hr1 := hr.drew
 have hh := QgL hs hQ _ rfl rfl _ _ _ _ hr1.rebase (h (E.at _ hr1.grown) hN)
 refine wp_mono (wp_region_held hm hh) ?_
 rintro e a' w' ⟨c2, s2, h1, h2, h3⟩
 exact ⟨c2, s2, h1, hr1.back h2, h3⟩
variable {o : Oper} {t : List (Nat × AV)} {H : List (Nat × QH)} {nx N d : Nat} {w : Bool}
theorem Jo {Q : Exit → St → Prop} {f : Nat} {listed : Array Bool} (i : Nat) (hi : ops[i]? = some o) (hr : (Region.ready md ops listed).contains i = true) (hf : Region.free md ops listed i = true) {x : AV} (hd : o.dst = some d) (hy : WF P E ops o x ⟨t, H, nx⟩)
  (h : AF P E ops md Q f (listed.setIfInBounds i true) ⟨(d, x) :: t, H, nx⟩) : AF P E ops md Q (f + 1) listed ⟨t, H, nx⟩ := .inl ⟨i, o, x, hi, hr, hf, hy, by rw [hd]; exact h⟩
theorem Qgq {Q : Exit → St → Prop} {f : Nat} {listed : Array Bool} {s : St} (h : AU P E ops md Q f listed s) : AF P E ops md Q f listed s := by
 cases f with
 | zero => exact h
 | succ f => exact .inr h
theorem Qbn (hN : E.N = N) {s : St} {tt : TypeId} {x : Operand} (ho : o.op = .load tt x) {n : Nat} {row : Bool} [hT : X8 P tt n row] {cs : List AV} (hx : X0 s x = some (.el cs)) {r : AV} (hl : WC row n cs = some r) (hn : Nat.blt 0 n = true) (hg : Qm ops s o = some w) (hw : w = true) (hd : o.dst = some d) (hdN : Nat.blt d N = true) : WF P E ops o r s := by
 subst hw
 refine ⟨dlt hN hd hdN, fun c a hr => ?_⟩
 have hn := Nat.le_of_ble_eq_true hn
 have hv := hr.ev x
 rw [QT hx] at hv
 generalize hvx : a.eval x = vx at hv
 have key : ∃ (b off : Nat) (f : Nat → Value), vx = .pointer (some ⟨b, off, none⟩) ∧ ∀ (i : Nat) (y : AV), cs[i]? = some y → (∀ w, QkR c.w c.S w → w.cell? ⟨b, off + i, none⟩ = some (f i)) ∧ VR c (f i) y := by
  cases hv with
  | fr _ _ h => cases h with
   | el b off _ f hcell h => exact ⟨b, off, f, rfl, fun i y hi => ⟨fun w hs => (hs b _ (hcell i y hi).1).trans (hcell i y hi).2, .fr _ _ (h i y hi)⟩⟩
 obtain ⟨b, off, f, hp, hat⟩ := key
 obtain ⟨i, hi, hsz⟩ := Jc hT.size
 obtain ⟨dd, hdd, hdr⟩ := Qci hT.row
 cases row with
 | false =>
  cases cs with
  | nil => cases hl
  | cons y ys =>
   cases hl
   obtain ⟨h1, h2⟩ := hat 0 _ rfl
   refine ⟨f 0, .inl ⟨by rw [XK hg hr], fun w hs => ?_⟩, h2⟩
   simp [execOp, ho, hvx, hp, Instr.loadAt, Instr.sureAddr, loadVar, QaG hT.row, show w.cell? ⟨b, off, none⟩ = some (f 0) from h1 w hs]
 | true =>
  simp only [WC] at hl
  cases hb : Nat.ble n cs.length with
  | false => rw [hb] at hl; cases hl
  | true =>
   rw [hb] at hl
   cases hl
   have hnl : n ≤ cs.length := Nat.le_of_ble_eq_true hb
   obtain ⟨us, hus⟩ : ∃ us, us = (List.range n).map f := ⟨_, rfl⟩
   have hul : us.length = n := by rw [hus]; simp
   have hug : ∀ (j : Nat) (v : Value), us[j]? = some v → j < n ∧ v = f j := fun j v hj => by
    rw [hus, List.getElem?_map] at hj
    have hjn : j < n := by
     rcases Nat.lt_or_ge j n with h | h
     ·exact h
     rw [List.getElem?_eq_none (by simpa using h)] at hj; cases hj
    rw [List.getElem?_range hjn] at hj
    cases hj
    exact ⟨hjn, rfl⟩
   refine ⟨.agg us.toArray, .inl ⟨by rw [XK hg hr], fun w hs => ?_⟩, .agg us (cs.take n) (by simp; omega) (fun j v y h1 h2 => ?_)⟩
   ·have := run_loadAt_mid (P := P) w b off tt us dd (fun j v hj => by
     obtain ⟨hjn, rfl⟩ := hug j v hj
     exact (hat j cs[j] (List.getElem?_eq_getElem (by omega))).1 w hs) hdd hdr (by rw [hi, Option.map_some, hsz, hul])
    simp [execOp, ho, hvx, hp, this]
   obtain ⟨hjn, rfl⟩ := hug j v h1
   rw [List.getElem?_take, if_pos hjn] at h2
   exact (hat j y h2).2
theorem XT {t : List (Nat × AV)} {H : List (Nat × QH)} {nx : Nat} (i q j p : Nat) {n m : Nat} {te te2 : TypeId} {k k2 : Nat} {es es2 : List (List AV)} (hi : Ql t i = some (.own q n)) (hq : Ql H q = some (.arr te k es)) (hj : Ql t j = some (.own p m)) (hp : Ql H p = some (.arr te2 k2 es2)) (hij : i ≠ j) (hqp : q ≠ p) (hn : n = es.length) (hk : es.all (okE k) = true) (hz : ∀ e ∈ es, fzs e = some e) (hm : m = es2.length) (hk2 : es2.all (okE k2) = true) (hz2 : ∀ e ∈ es2, fzs e = some e) {H' : List (Nat × QH)} (hH : YE p (YE q H) = H') :
  WM E ⟨t, H, nx⟩ ⟨(j, .sl es2 none) :: (i, .sl es none) :: t, H', nx⟩ :=
 WM.trans (QB i q hi hq hn hk hz rfl) (QB j p (by rw [QjK _ _ (Ne.symm hij)]; exact hj) (by rw [YU, if_neg (Ne.symm hqp)]; exact hp) hm hk2 hz2 hH)
end
section
variable {P : Program} {E : J1} {Q : Exit → St → Prop} {ops : Array Oper} {o : Oper} {rest : List Oper} {t : List (Nat × AV)} {H : List (Nat × QH)} {nx N d : Nat} {w : Bool}
theorem Qrc (hN : E.N = N) {f : FuncId} {bs avs : List AV} {ob ob1 : QH} {res res' : AV} (q : Nat) (hc : GX P f bs [(Ju, ob)] res [] 0) [hf : Xe P f] (ho : Qbw ⟨t, H, nx⟩ o f avs) (hab : bs.map (Qhl [(Ju, q)]) = avs) (hbig : bs.all QnM = true)
  (h1 : Qgi [(Ju, q)] ob = ob1) (hq : Ql H q = some ob1) (hb : ob.cells.all Qge = true) (hrs : Qs2 [] res = true) {H' : List (Nat × QH)} (hH : YE q H = H') (hre : Qhl [(Ju, q)] res = res') (hnx : Nat.ble nx Ju = true)
  (hg : Qm ops ⟨t, H, nx⟩ o = some w) (hw : w = true) (hd : o.dst = some d) (hdN : Nat.blt d N = true)
  (h : Qz P E ops rest Q ⟨(d, res') :: t, H', nx⟩) : Qz P E ops (o :: rest) Q ⟨t, H, nx⟩ := fun c a hr => by
 subst hw hH hre h1
 have hrn : rn [(Ju, q)] Ju = q := by simp [rn, Ql]
 have one : ∀ {o : Nat}, (Ql [(Ju, ob)] o).isSome = true → o = Ju := fun {o} g => by
  rw [QM] at g
  split at g
  ·assumption
  cases g
 refine wpList_step fun K hK => ?_
 rw [XK hg hr, if_pos rfl]
 obtain ⟨vs, hrun, hvl, hv⟩ := ho.run (P := P) hr
 unfold Oper.wp
 rw [hrun, Oper.upon_enter]
 subst hab
 refine (hr.xcall hc [(Ju, q)] (YE q H) (by rw [Nat.add_zero]; exact Nat.le_of_ble_eq_true hnx) (fun o z hz => ?_) (fun o ho => absurd ho (Nat.not_lt_zero o)) (fun o o' g1 g2 _ => by rw [one g1, one g2]) (fun o g => by cases g) (fun o z hz => by cases hz) (fun o hD => ?_) (fun q' hq' => ?_) hrs (by simpa using hvl) hbig (fun i v x hi hj => hv i v _ hi (by rw [List.getElem?_map, hj]; rfl))).mono ?_
 ·have e := one (o := o) (by rw [hz]; rfl)
  subst e
  rw [Qdl] at hz
  cases hz
  exact ⟨by rw [hrn]; exact hq, Nat.le_refl _, hb⟩
 ·rcases hD with g | g
  ·rw [one g, hrn, YU, if_pos rfl]; rfl
  exact absurd g (Nat.not_lt_zero o)
 ·have := hq' Ju (.inl (by rw [Qdl]; rfl))
  rw [hrn] at this
  rw [YU, if_neg (fun e => this e.symm)]
 rintro e w' ⟨v, c', rfl, rfl, hr', hvr⟩
 have hput := hr'.put (d := o.dst) (dlt hN hd hdN) hvr
 rw [hd] at hput
 refine hK _ _ (h c' _ ?_)
 rw [hd]
 exact hput
end
end Go.Proofs.YtaecccdkjmipeaaGreat
