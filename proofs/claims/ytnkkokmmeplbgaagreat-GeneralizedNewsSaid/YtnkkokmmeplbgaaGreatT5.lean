/-
  Calls of which only what they leave unturned is known (not t
-/
import Derived.Test.YtnkkokmmeplbgaaGreatA7
import Derived.Test.YtnkkokmmeplbgaaGreatA4
import Derived.Test.YtnkkokmmeplbgaaGreatA3
namespace Go.Proofs.YtnkkokmmeplbgaaGreat
open Go.RowKit
def QoL (rs : List RS) (res : AV) (Hout : List (Nat × Qi)) : Exit → St → Prop
 | .normal, st | .ret, st => (resY st rs).bind AV.fzt = some res ∧ ∀ o ob, Qd Hout o = some ob → Qd st.H o = some ob ∧ Qk ≤ o ∧ X5 0 ob = true
 | _, _ => False
theorem Yo {P : Program} {f : FuncId} {fn : Func} {code : Code} {args : List AV} {res : AV} {Hin Hout : List (Nat × Qi)} (rs : List RS) (hok : RS.okL P rs) (hf : P.funcs[f]? = some fn) (hb : fn.body = some code) (hres : fn.results = (rs.map RS.var).toArray) (N : Nat) (hN : fn.ntmps = N) (hle : args.length ≤ N)
  (h : ∀ E : Xy, E.N = N → JT P E code (QoL rs res Hout) ⟨Kc 0 args, Hin, 0⟩) : GC P f args Hin res Hout := by
 intro c0 vs hg hvl hv
 refine calls_of_wp hf hb ?_
 let E : Xy := ⟨N, c0.w, c0.S, fun b => c0.w.heap.size ≤ b ∨ ∃ o v, c0.V o = some v ∧ QR v = some b, fun _ h => .inl h, c0.K, hg.big, c0.V⟩
 have hr : XE E c0 { tmps := vs.toArray ++ Array.replicate (fn.ntmps - vs.toArray.size) undef, defers := [] } ⟨Kc 0 args, Hin, 0⟩ := {
  defers := rfl
  size := by show (vs.toArray ++ Array.replicate (fn.ntmps - vs.toArray.size) undef).size = N; simp; omega
  tmps := fun i => by
   show VR _ ((vs.toArray ++ Array.replicate (fn.ntmps - vs.toArray.size) undef).getD i undef) ((Qd (Kc 0 args) i).getD .bot)
   rw [Yu]
   simp only [Nat.zero_le, if_true, Nat.sub_zero]
   rcases Nat.lt_or_ge i args.length with hlt | hge
   ·have hlt' : i < vs.length := by omega
    have e : (vs.toArray ++ Array.replicate (fn.ntmps - vs.toArray.size) undef).getD i undef = vs[i] := by
     simp [Array.getElem?_append, hlt']
    rw [e, List.getElem?_eq_getElem hlt]
    exact hv i _ _ (List.getElem?_eq_getElem hlt') (List.getElem?_eq_getElem hlt)
   rw [List.getElem?_eq_none hge]
   exact .fr _ _ (.bot _)
  live := fun o ob h => by
   obtain ⟨h1, v, h2, h3⟩ := hg.live o ob h
   exact ⟨h1, v, h2, h3, fun b hb => .inr ⟨o, v, h2, hb⟩⟩
  dead := hg.dead
  apart := hg.apart
  ids := fun _ h => .inr h
  nxB := Nat.zero_le _
  kbs := fun _ h => h
  V0 := fun _ _ => .refl _
  Ssz := hg.Ssz
  os := rfl, tape := rfl, output := rfl, drawn := Nat.le_refl _, grown := Nat.le_refl _
  frame := fun _ _ _ => rfl
  S0 := fun _ _ h => ⟨h, rfl⟩
  Snew := fun _ _ h => .inl h }
 refine wp_mono (h E rfl _ _ hr) ?_
 rintro e a' w' ⟨c, st, rfl, hr', hq⟩
 have fin : ((resY st rs).bind AV.fzt = some res ∧ ∀ o ob, Qd Hout o = some ob → Qd st.H o = some ob ∧ Qk ≤ o ∧ X5 0 ob = true) →
   a'.defers = [] ∧ ∃ v, (results fn a'.tmps).run P c.w = .ok v c.w ∧ ∃ v' c', Ending.returned v = .returned v' ∧ c'.w = c.w ∧ Qoi Hout c0 c' ∧ FR c'.w c'.S v' res := by
  rintro ⟨hr2, hout⟩
  obtain ⟨V', hV'⟩ : ∃ V' : Nat → Option Value, V' = fun o => if (Qd Hout o).isSome then c.V o else none := ⟨_, rfl⟩
  have hVs : ∀ o v, V' o = some v → c.V o = some v ∧ (Qd Hout o).isSome = true := fun o v h => by
   rw [hV'] at h
   dsimp only at h
   split at h
   ·exact ⟨h, by assumption⟩
   cases h
  have hK : ∀ o, c.K o → Qk ≤ o → c0.K o := fun o hk ho => by
   rcases hr'.ids o hk with h1 | h1
   ·have := hr'.nxB; omega
   exact h1
  have hle : c0.le ⟨c.w, c.S, V', c0.K⟩ := ⟨fun b off hs => hr'.S0 b off hs, fun _ h => h, fun o hk => by
   refine (hr'.V0 o hk).trans ?_
   show Wb (c.V o) (V' o)
   rw [hV']
   dsimp only
   split
   ·exact .refl _
   exact .inr (.inl rfl)⟩
  cases hx : resY st rs with
  | none => rw [hx] at hr2; cases hr2
  | some x =>
  rw [hx] at hr2
  replace hr2 : x.fzt = some res := hr2
  obtain ⟨v, g1, g2⟩ := hr'.resY hok hres hx
  refine ⟨hr'.defers, v, g1, v, ⟨c.w, c.S, V', c0.K⟩, rfl, rfl, ?_, ?_⟩
  ·exact {
    os := hr'.os, tape := hr'.tape, output := hr'.output, drawn := hr'.drawn, size := hr'.grown
    frame := fun b hb hn => hr'.frame b hb (fun hw => by
     rcases hw with hw | ⟨o, v, h1, h2⟩
     ·have hw : c0.w.heap.size ≤ b := hw
      have hb : b < c0.w.heap.size := hb
      omega
     exact hn o v h1 h2)
    le := hle
    K := fun _ => Iff.rfl
    Snew := fun b off hs => by
     rcases hr'.Snew b off hs with h1 | h1 | h1
     ·exact .inl h1
     ·exact .inr (.inr h1)
     exact .inr (.inl h1)
    Ssz := hr'.Ssz
    live := fun o ob ho => by
     obtain ⟨h1, h2, h3⟩ := hout o ob ho
     obtain ⟨hk, v, hv, hor, hwr⟩ := hr'.live o ob h1
     refine ⟨v, by rw [hV']; simp [ho, hv], ?_, fun b hb => ?_⟩
     ·exact OR.okId (c := c) (c' := ⟨c.w, c.S, V', c0.K⟩) rfl rfl (fun o hk ho => hK o hk (by omega)) (fun o v h => (hVs o v h).1) hor h3
     rcases hwr b hb with h4 | h4
     ·exact .inr h4
     exact .inl h4
    dead := fun o ho => by show V' o = none; rw [hV']; simp [ho]
    apart := fun o o' v v' b h1 h2 h3 h4 => hr'.apart o o' v v' b (hVs o v h1).1 (hVs o' v' h2).1 h3 h4 }
  cases x with
  | tup xs =>
   simp only [AV.fzt] at hr2
   cases hz : fzl xs with
   | none => rw [hz] at hr2; cases hr2
   | some ys => rw [hz] at hr2; cases hr2; exact g2.tup_fz hz
  | _ => exact g2.fz hr2
 cases e with
 | normal => exact fin hq
 | ret => exact fin hq
 | _ => exact hq.elim
def FN (P : Program) (f : FuncId) (args : List AV) (tt : TypeId) (cs : List AV) (x : AV) : Prop :=
 ∀ (w : World) (S : Nat → Nat → Prop) (vs : List Value), (∀ b o, S b o → b < w.heap.size) → FRs w S vs args →
  Calls P f vs.toArray w fun e w' => ∃ b ccs u S', e = .returned (.tuple #[.pointer (some ⟨b, 0, none⟩), u]) ∧ Bel w w' ∧ (∀ b o, S b o → S' b o) ∧ (∀ b o, S' b o → S b o ∨ (w.heap.size ≤ b ∧ b < w'.heap.size)) ∧
   w'.heap[b]? = some (.cells ccs tt (0, 0)) ∧ ccs.size = cs.length ∧ w.heap.size ≤ b ∧ (∀ (i : Nat) (u : Value) (y : AV), ccs[i]? = some u → cs[i]? = some y → FR w' S' u y) ∧ (∀ off, ¬ S' b off) ∧ FR w' S' u x
def AV.fzk : AV → Option AV
 | .p v => some (.p v)
 | x => x.fz1
def QjZ : List AV → Option (List AV)
 | [] => some []
 | x :: xs => match x.fzk, QjZ xs with
  | some y, some ys => some (y :: ys)
  | _, _ => none
theorem VR.fzk {c : Cx} {v : Value} {x y : AV} (hv : VR c v x) (h : x.fzk = some y) : FR c.w c.S v y := by
 cases x with
 | p u =>
  have := hv.p_inv
  subst this
  cases h; exact .p _
 | _ => exact hv.fz1 h
theorem Qd0 : ∀ {xs ys : List AV}, QjZ xs = some ys → ys.length = xs.length ∧ ∀ (i : Nat) (x y : AV), xs[i]? = some x → ys[i]? = some y → x.fzk = some y
 | [], ys, h => by cases h; exact ⟨rfl, by simp⟩
 | x :: xs, ys, h => by
  unfold QjZ at h
  split at h
  ·rename_i y ys' h1 h2
   cases h
   obtain ⟨h3, h4⟩ := Qd0 h2
   refine ⟨by simp [h3], fun i a b ha hb => ?_⟩
   cases i with
   | zero => simp at ha hb; subst ha hb; exact h1
   | succ i => simp at ha hb; exact h4 i a b ha hb
  ·cases h
def retN (r s : Nat) (tt : TypeId) (cs : List AV) (x : AV) : Exit → St → Prop
 | .normal, st | .ret, st => ∃ q y c0, Qd st.t r = some (.ptr q 0) ∧ Qd st.H q = some (.var tt c0) ∧ QjZ c0 = some cs ∧ Qd st.t s = some y ∧ y.fz = some x
 | _, _ => False
section
variable {P : Program} {E : Xy} {Q : Exit → St → Prop} {ops : Array Oper} {o : Oper} {rest : List Oper} {t : List (Nat × AV)} {H : List (Nat × Qi)} {nx N d : Nat} {w : Bool}
theorem Qe6 (hN : E.N = N) (hB : Nat.blt nx Qk = true) {f : FuncId} {bs : List AV} {tt : TypeId} {cs : List AV} {x : AV} (hc : FN P f bs tt cs x) [hf : QZ P f] {az : List AV} (ho : K2 ⟨t, H, nx⟩ o f az) (hb : fzl az = some bs)
  (hg : Qh ops ⟨t, H, nx⟩ o = some w) (hw : w = true) (hd : o.dst = some d) (hdN : Nat.blt d N = true)
  (h : Ql P E ops rest Q ⟨(d, .tup [.ptr nx 0, x]) :: t, (nx, .var tt cs) :: H, nx + 1⟩) : Ql P E ops (o :: rest) Q ⟨t, H, nx⟩ := fun c a hr => by
 subst hw
 refine wpList_step fun K hK => ?_
 rw [XD hg hr, if_pos rfl]
 obtain ⟨vs, hrun, hvl, hv⟩ := ho.run (P := P) hr
 unfold Oper.wp
 rw [hrun, Oper.upon_enter]
 obtain ⟨h3, h4⟩ := Wa hb
 have hfrs : FRs c.w c.S vs bs := by
  refine ⟨by rw [hvl, h3], fun i v y hi hj => ?_⟩
  have hix : i < az.length := by have := (List.getElem?_eq_some_iff.1 hj).1; omega
  exact (hv i v _ hi (List.getElem?_eq_getElem hix)).fz (h4 i _ y (List.getElem?_eq_getElem hix) hj)
 refine (hc c.w c.S vs hr.Ssz hfrs).mono ?_
 rintro e w' ⟨b, ccs, u, S', rfl, hbel, hS, hS', hheap, hsz, hnew, hx, hno, hu⟩
 obtain ⟨c', e1, e2, hle, e4, e5, hr'⟩ := hr.newF (Nat.le_of_ble_eq_true hB) hbel (.pointer (some ⟨b, 0, none⟩)) (.var tt cs) hS hS' (fun c' e1 e2 hle => .var b ccs tt cs (by rw [e1]; exact hheap) hsz (fun i u x hi hx' => .fr _ _ (by rw [e1, e2]; exact hx i u x hi hx')) (fun off hs => hno off (by rw [e2] at hs; exact hs))) (fun b' hb' => by cases hb'; exact hnew)
 have hvr : VR c' (.tuple #[.pointer (some ⟨b, 0, none⟩), u]) (.tup [.ptr nx 0, x]) := by
  refine .tup [.pointer (some ⟨b, 0, none⟩), u] [.ptr nx 0, x] rfl fun i v y hi hj => ?_
  match i with
  | 0 =>
   simp at hi hj
   subst hi hj
   exact .ptr _ _ _ e4 (fun b' hh => by rw [show c'.V nx = _ from e5] at hh; cases hh; rfl)
  | 1 =>
   simp at hi hj
   subst hi hj
   exact .fr _ _ (by rw [e1, e2]; exact hu)
  | i + 2 => simp at hi
 have hput := hr'.put (d := o.dst) (x := .tup [.ptr nx 0, x]) (v := .tuple #[.pointer (some ⟨b, 0, none⟩), u]) (dlt hN hd hdN) hvr
 subst e1
 refine hK _ _ (h c' _ ?_)
 rw [hd] at hput ⊢
 exact hput
end
theorem Qjm {P : Program} {f : FuncId} {fn : Func} {code : Code} {args : List AV} {tt : TypeId} {cs : List AV} {x : AV} (r s : Nat) (hf : P.funcs[f]? = some fn) (hb : fn.body = some code) (hres : fn.results = ([r, s].map ResultVar.tmp).toArray) (N : Nat) (hN : fn.ntmps = N) (hle : args.length ≤ N)
  (h : ∀ E : Xy, E.N = N → JT P E code (retN r s tt cs x) ⟨Kc 0 args, [], 0⟩) : FN P f args tt cs x := by
 intro w S vs hS hv
 have hvl : vs.length = args.length := hv.1
 refine calls_of_wp hf hb ?_
 have hr : XE (Xy.at_ N w S) ⟨w, S, fun _ => none, fun _ => False⟩ { tmps := vs.toArray ++ Array.replicate (fn.ntmps - vs.toArray.size) undef, defers := [] } ⟨Kc 0 args, [], 0⟩ := {
  defers := rfl
  size := by show (vs.toArray ++ Array.replicate (fn.ntmps - vs.toArray.size) undef).size = N; simp; omega
  tmps := fun i => by
   show VR _ ((vs.toArray ++ Array.replicate (fn.ntmps - vs.toArray.size) undef).getD i undef) ((Qd (Kc 0 args) i).getD .bot)
   rw [Yu]
   simp only [Nat.zero_le, if_true, Nat.sub_zero]
   rcases Nat.lt_or_ge i args.length with hlt | hge
   ·have hlt' : i < vs.length := by omega
    have e : (vs.toArray ++ Array.replicate (fn.ntmps - vs.toArray.size) undef).getD i undef = vs[i] := by
     simp [Array.getElem?_append, hlt']
    rw [e, List.getElem?_eq_getElem hlt]
    exact .fr _ _ (hv.2 i _ _ (List.getElem?_eq_getElem hlt') (List.getElem?_eq_getElem hlt))
   rw [List.getElem?_eq_none hge]
   exact .fr _ _ (.bot _)
  live := fun o ob h => by cases h
  dead := fun _ _ => rfl
  apart := fun o o' v v' b h => by cases h
  ids := fun _ h => h.elim, nxB := Nat.zero_le _, kbs := fun _ h => h.elim, V0 := fun _ h => h.elim
  Ssz := hS
  os := rfl, tape := rfl, output := rfl, drawn := Nat.le_refl _, grown := Nat.le_refl _
  frame := fun _ _ _ => rfl
  S0 := fun _ _ h => ⟨h, rfl⟩
  Snew := fun _ _ h => .inl h }
 refine wp_mono (h (Xy.at_ N w S) rfl _ _ hr) ?_
 rintro e a' w' ⟨c, st, rfl, hr', hq⟩
 have fin : (∃ q y c0, Qd st.t r = some (.ptr q 0) ∧ Qd st.H q = some (.var tt c0) ∧ QjZ c0 = some cs ∧ Qd st.t s = some y ∧ y.fz = some x) →
   a'.defers = [] ∧ ∃ v, (results fn a'.tmps).run P c.w = .ok v c.w ∧ ∃ b ccs u S', Ending.returned v = .returned (.tuple #[.pointer (some ⟨b, 0, none⟩), u]) ∧ Bel w c.w ∧ (∀ b o, S b o → S' b o) ∧ (∀ b o, S' b o → S b o ∨ (w.heap.size ≤ b ∧ b < c.w.heap.size)) ∧
    c.w.heap[b]? = some (.cells ccs tt (0, 0)) ∧ ccs.size = cs.length ∧ w.heap.size ≤ b ∧ (∀ (i : Nat) (u : Value) (y : AV), ccs[i]? = some u → cs[i]? = some y → FR c.w S' u y) ∧ (∀ off, ¬ S' b off) ∧ FR c.w S' u x := by
  rintro ⟨q, y, c0, h1, h2, h3, h4, h5⟩
  obtain ⟨h3l, h3z⟩ := Qd0 h3
  have hv := hr'.tmps r
  rw [show st.get r = .ptr q 0 by simp [St.get, h1]] at hv
  have hu := hr'.tmps s
  rw [show st.get s = y by simp [St.get, h4]] at hu
  obtain ⟨hKq, vq, hVq, hor, hwr⟩ := hr'.live q _ h2
  cases hor with
  | var b ccs _ _ hb2 hl hc hSS =>
   have hvq : a'.tmps.getD r undef = .pointer (some ⟨b, 0, none⟩) := by
    generalize a'.tmps.getD r undef = v at hv
    cases hv with
    | fr _ _ h => cases h
    | ptr _ _ _ hK hV => exact hV b hVq
   refine ⟨hr'.defers, _, YB [r, s] hres a'.tmps c.w, b, ccs, a'.tmps.getD s undef, c.S, by rw [← hvq]; rfl, ⟨⟨hr'.os, hr'.tape, hr'.output, hr'.grown, fun b hb => hr'.frame b hb (Nat.not_le.2 hb)⟩, hr'.drawn⟩, fun b o h => (hr'.S0 b o h).1, fun b o h => ?_, hb2, hl.trans h3l.symm, hwr b rfl, fun i u z hi hz => ?_, hSS, hu.fz h5⟩
   ·rcases hr'.Snew b o h with h6 | h6
    ·exact .inl h6
    exact .inr ⟨h6, hr'.Ssz b o h⟩
   have hlt : i < c0.length := by have := (List.getElem?_eq_some_iff.1 hz).1; omega
   exact (hc i u _ hi (List.getElem?_eq_getElem hlt)).fzk (h3z i _ z (List.getElem?_eq_getElem hlt) hz)
 cases e with
 | normal => exact fin hq
 | ret => exact fin hq
 | _ => exact hq.elim
section
variable {P : Program} {E : Xy} {o : Oper} {st : St}
end
section
variable {P : Program} {E : Xy} {ops : Array Oper} {md : Region.Mode}
end
theorem Qlw {P : Program} {E : Xy} {st : St} {o : Oper} {t e : TypeId} {l n : Nat} (ho : o.op = .build t #[]) {zs : List Value} [hT : Qk4 P t l e n] [hZ : QL P t zs] : PY P E o st (.agg (zs.map .p)) := by
 refine JN fun st' h1 h2 c a hr => ?_
 have hz := hZ.h
 cases hi : P.info? t with
 | none => simp [hi] at hz
 | some i =>
  cases hz0 : i.zero with
  | none => simp [hi, hz0] at hz
  | some z =>
   have hzc : z.cells.toList = zs := by simpa [hi, hz0] using hz
   refine ⟨.agg z.cells, ?_, ?_⟩
   ·simp [execOp, ho, Sem.run_bind, Instr.build, zeroValue, typeInfo, run_program, Result.andThen_ok, hi, Sem.run_pure, hz0, run_underlying (QaO hT.h), Xn hT.size, Instr.fill]
   have := VR.agg (c := c) z.cells.toList (zs.map .p) (by simp [← hzc]) (fun j u y hj hk => by
    rw [← hzc, List.getElem?_map, hj] at hk
    cases hk
    exact .fr _ _ (.p u))
   simpa using this
end Go.Proofs.YtnkkokmmeplbgaaGreat
namespace Go.Proofs.YtnkkokmmeplbgaaGreat
open Go.RowKit
section
variable {c : Cx} {E : Xy} {a : Act} {st : St}
end
section
variable {P : Program} {E : Xy} {Q : Exit → St → Prop} {ops : Array Oper} {o : Oper} {rest : List Oper} {t : List (Nat × AV)} {H : List (Nat × Qi)} {nx N d : Nat} {w : Bool}
end
section
variable {P : Program} {E : Xy} {Q : Exit → St → Prop} {ops : Array Oper} {o : Oper} {rest : List Oper} {t : List (Nat × AV)} {H : List (Nat × Qi)} {nx N d : Nat} {w : Bool}
end
section
variable {P : Program} {E : Xy} {ops : Array Oper} {md : Region.Mode}
variable {o : Oper} {t : List (Nat × AV)} {H : List (Nat × Qi)} {nx N d : Nat} {w : Bool} {T : St → Prop} {i : Nat}
end
section
variable {P : Program} {E : Xy} {ops : Array Oper} {o : Oper} {t : List (Nat × AV)} {H : List (Nat × Qi)} {nx N d : Nat} {w : Bool} {T : St → Prop} {i : Nat}
variable {α : Type} {f : α → List AV} {l : List α} {n : Nat} {s : St}
end
def FCb (P : Program) (f : FuncId) (args : List AV) (res : AV) : Prop :=
 ∀ (w : World) (S : Nat → Nat → Prop) (vs : List Value), (∀ b o, S b o → b < w.heap.size) → FRs w S vs args →
  Calls P f vs.toArray w fun e w' => ∃ v S', e = .returned v ∧ Below w.heap.size w w' ∧ (∀ b o, S b o → S' b o) ∧
   (∀ b o, S' b o → S b o ∨ (w.heap.size ≤ b ∧ b < w'.heap.size)) ∧ FR w' S' v res
theorem FC.b {P : Program} {f : FuncId} {args : List AV} {res : AV} (h : FC P f args res) : FCb P f args res := fun w S vs hS hv =>
 (h w S vs hS hv).mono fun _ _ ⟨v, S', h1, h2, h3, h4, h5⟩ => ⟨v, S', h1, h2.toBelow, h3, h4, h5⟩
section
variable {c : Cx} {E : Xy} {a : Act} {st : St}
end
section
variable {P : Program} {E : Xy} {o : Oper} {st : St}
end
theorem Qgq {E : Xy} {t : List (Nat × AV)} {H : List (Nat × Qi)} {nx : Nat} (i : Nat) (h : Qd t i = some (.p (.slice none 0 0))) : KI E ⟨t, H, nx⟩ ⟨(i, .sl [] none) :: t, H, nx⟩ := fun c a hr => by
 refine ⟨c, rfl, { hr with live := hr.live, dead := hr.dead, tmps := fun j => ?_ }⟩
 have hj := hr.tmps j
 show VR c _ ((Qd ((i, AV.sl [] none) :: t) j).getD .bot)
 rw [Qp]
 split
 ·rename_i e
  subst e
  rw [show St.get ⟨t, H, nx⟩ j = .p (.slice none 0 0) by simp [St.get, h]] at hj
  rw [hj.p_inv]
  exact .fr _ _ (.nil _ _ _ _ (Nat.zero_le _))
 exact hj
section
variable {P : Program} {E : Xy} {ops : Array Oper} {md : Region.Mode} {Q : Exit → St → Prop} {f : Nat} {listed : Array Bool} {o : Oper} {t : List (Nat × AV)} {H : List (Nat × Qi)} {nx N d : Nat} {w : Bool} {x : Operand} {r : AV}
end
end Go.Proofs.YtnkkokmmeplbgaaGreat
