/-
  Methods whose results lie in cells; functions that return th
-/
import Derived.Test.YtnkkokmmeplbgaaGreatA7
import Derived.Test.YtnkkokmmeplbgaaGreatA4
namespace Go.Proofs.YtnkkokmmeplbgaaGreat
open Go.RowKit
def Qv2 (rs : List RS) (res : AV) (Hout : List (Nat × Qs)) : Exit → St → Prop
 | .normal, st | .ret, st => (resY st rs).bind AV.fzt = some res ∧ ∀ o ob, Qj Hout o = some ob → Qj st.H o = some ob ∧ Qe ≤ o ∧ JO 0 ob = true
 | _, _ => False
theorem YG {P : Program} {f : FuncId} {fn : Func} {code : Code} {args : List AV} {res : AV} {Hin Hout : List (Nat × Qs)} (rs : List RS) (hok : RS.okL P rs) (hf : P.funcs[f]? = some fn) (hb : fn.body = some code) (hres : fn.results = (rs.map RS.var).toArray) (N : Nat) (hN : fn.ntmps = N) (hle : args.length ≤ N)
  (h : ∀ E : Jp, E.N = N → Ym P E code (Qv2 rs res Hout) ⟨QaH 0 args, Hin, 0⟩) : GC P f args Hin res Hout := by
 intro c0 vs hg hvl hv;refine calls_of_wp hf hb ?_
 let E : Jp := ⟨N, c0.w, c0.S, fun b => c0.w.heap.size ≤ b ∨ ∃ o v, c0.V o = some v ∧ Xj v = some b, fun _ h => .inl h, c0.K, hg.big, c0.V⟩
 have hr : Js E c0 { tmps := vs.toArray ++ Array.replicate (fn.ntmps - vs.toArray.size) undef, defers := [] } ⟨QaH 0 args, Hin, 0⟩ := {
  defers := rfl
  size := by show (vs.toArray ++ Array.replicate (fn.ntmps - vs.toArray.size) undef).size = N; simp; omega
  tmps := fun i => by
   show VR _ ((vs.toArray ++ Array.replicate (fn.ntmps - vs.toArray.size) undef).getD i undef) ((Qj (QaH 0 args) i).getD .bot)
   rw [Wv]
   simp only [Nat.zero_le, if_true, Nat.sub_zero]
   rcases Nat.lt_or_ge i args.length with hlt | hge
   ·have hlt' : i < vs.length := by omega
    have e : (vs.toArray ++ Array.replicate (fn.ntmps - vs.toArray.size) undef).getD i undef = vs[i] := by
     simp [Array.getElem?_append, hlt']
    rw [e, List.getElem?_eq_getElem hlt];exact hv i _ _ (List.getElem?_eq_getElem hlt') (List.getElem?_eq_getElem hlt)
   rw [List.getElem?_eq_none hge];exact .fr _ _ (.bot _)
  live := fun o ob h => by
   obtain ⟨h1, v, h2, h3⟩ := hg.live o ob h;exact ⟨h1, v, h2, h3, fun b hb => .inr ⟨o, v, h2, hb⟩⟩
  dead := hg.dead
  apart := hg.apart
  ids := fun _ h => .inr h
  nxB := Nat.zero_le _
  kbs := fun _ h => h
  V0 := fun _ _ => .refl _
  Ssz := hg.Ssz
  os := rfl, tape := rfl, output := rfl, drawn := Nat.le_refl _, grown := Nat.le_refl _
  frame := fun _ _ _ => rfl
  S0 := fun _ _ h => ⟨h, rfl⟩
  Snew := fun _ _ h => .inl h }
 refine wp_mono (h E rfl _ _ hr) ?_;rintro e a' w' ⟨c, st, rfl, hr', hq⟩
 have fin : ((resY st rs).bind AV.fzt = some res ∧ ∀ o ob, Qj Hout o = some ob → Qj st.H o = some ob ∧ Qe ≤ o ∧ JO 0 ob = true) →
   a'.defers = [] ∧ ∃ v, (results fn a'.tmps).run P c.w = .ok v c.w ∧ ∃ v' c', Ending.returned v = .returned v' ∧ c'.w = c.w ∧ Qvq Hout c0 c' ∧ FR c'.w c'.S v' res := by
  rintro ⟨hr2, hout⟩
  obtain ⟨V', hV'⟩ : ∃ V' : Nat → Option Value, V' = fun o => if (Qj Hout o).isSome then c.V o else none := ⟨_, rfl⟩
  have hVs : ∀ o v, V' o = some v → c.V o = some v ∧ (Qj Hout o).isSome = true := fun o v h => by
   rw [hV'] at h;dsimp only at h
   split at h
   ·exact ⟨h, by assumption⟩
   cases h
  have hK : ∀ o, c.K o → Qe ≤ o → c0.K o := fun o hk ho => by
   rcases hr'.ids o hk with h1 | h1
   ·have := hr'.nxB; omega
   exact h1
  have hle : c0.le ⟨c.w, c.S, V', c0.K⟩ := ⟨fun b off hs => hr'.S0 b off hs, fun _ h => h, fun o hk => by
   refine (hr'.V0 o hk).trans ?_
   show Qbk (c.V o) (V' o)
   rw [hV'];dsimp only
   split
   ·exact .refl _
   exact .inr (.inl rfl)⟩
  cases hx : resY st rs with
  | none => rw [hx] at hr2; cases hr2
  | some x =>
  rw [hx] at hr2
  replace hr2 : x.fzt = some res := hr2
  obtain ⟨v, g1, g2⟩ := hr'.resY hok hres hx;refine ⟨hr'.defers, v, g1, v, ⟨c.w, c.S, V', c0.K⟩, rfl, rfl, ?_, ?_⟩
  ·exact {
    os := hr'.os, tape := hr'.tape, output := hr'.output, drawn := hr'.drawn, size := hr'.grown
    frame := fun b hb hn => hr'.frame b hb (fun hw => by
     rcases hw with hw | ⟨o, v, h1, h2⟩
     ·have hw : c0.w.heap.size ≤ b := hw
      have hb : b < c0.w.heap.size := hb
      omega
     exact hn o v h1 h2)
    le := hle
    K := fun _ => Iff.rfl
    Snew := fun b off hs => by
     rcases hr'.Snew b off hs with h1 | h1 | h1
     ·exact .inl h1
     ·exact .inr (.inr h1)
     exact .inr (.inl h1)
    Ssz := hr'.Ssz
    live := fun o ob ho => by
     obtain ⟨h1, h2, h3⟩ := hout o ob ho;obtain ⟨hk, v, hv, hor, hwr⟩ := hr'.live o ob h1;refine ⟨v, by rw [hV']; simp [ho, hv], ?_, fun b hb => ?_⟩
     ·exact OR.okId (c := c) (c' := ⟨c.w, c.S, V', c0.K⟩) rfl rfl (fun o hk ho => hK o hk (by omega)) (fun o v h => (hVs o v h).1) hor h3
     rcases hwr b hb with h4 | h4
     ·exact .inr h4
     exact .inl h4
    dead := fun o ho => by show V' o = none; rw [hV']; simp [ho]
    apart := fun o o' v v' b h1 h2 h3 h4 => hr'.apart o o' v v' b (hVs o v h1).1 (hVs o' v' h2).1 h3 h4 }
  cases x with
  | tup xs =>
   simp only [AV.fzt] at hr2
   cases hz : fzl xs with
   | none => rw [hz] at hr2; cases hr2
   | some ys => rw [hz] at hr2; cases hr2; exact g2.tup_fz hz
  | _ => exact g2.fz hr2
 cases e with
 | normal => exact fin hq
 | ret => exact fin hq
 | _ => exact hq.elim
def FN (P : Program) (f : FuncId) (args : List AV) (tt : TypeId) (cs : List AV) (x : AV) : Prop :=
 ∀ (w : World) (S : Nat → Nat → Prop) (vs : List Value), (∀ b o, S b o → b < w.heap.size) → FRs w S vs args →
  Calls P f vs.toArray w fun e w' => ∃ b ccs u S', e = .returned (.tuple #[.pointer (some ⟨b, 0, none⟩), u]) ∧ Bel w w' ∧ (∀ b o, S b o → S' b o) ∧ (∀ b o, S' b o → S b o ∨ (w.heap.size ≤ b ∧ b < w'.heap.size)) ∧
   w'.heap[b]? = some (.cells ccs tt (0, 0)) ∧ ccs.size = cs.length ∧ w.heap.size ≤ b ∧ (∀ (i : Nat) (u : Value) (y : AV), ccs[i]? = some u → cs[i]? = some y → FR w' S' u y) ∧ (∀ off, ¬ S' b off) ∧ FR w' S' u x
def AV.fzk : AV → Option AV
 | .p v => some (.p v)
 | x => x.fz1
def Qqe : List AV → Option (List AV)
 | [] => some []
 | x :: xs => match x.fzk, Qqe xs with
  | some y, some ys => some (y :: ys)
  | _, _ => none
theorem VR.fzk {c : Cx} {v : Value} {x y : AV} (hv : VR c v x) (h : x.fzk = some y) : FR c.w c.S v y := by
 cases x with
 | p u =>
  have := hv.p_inv
  subst this
  cases h; exact .p _
 | _ => exact hv.fz1 h
theorem Qh5 : ∀ {xs ys : List AV}, Qqe xs = some ys → ys.length = xs.length ∧ ∀ (i : Nat) (x y : AV), xs[i]? = some x → ys[i]? = some y → x.fzk = some y
 | [], ys, h => by cases h; exact ⟨rfl, by simp⟩
 | x :: xs, ys, h => by
  unfold Qqe at h
  split at h
  ·rename_i y ys' h1 h2
   cases h
   obtain ⟨h3, h4⟩ := Qh5 h2;refine ⟨by simp [h3], fun i a b ha hb => ?_⟩
   cases i with
   | zero => simp at ha hb; subst ha hb; exact h1
   | succ i => simp at ha hb; exact h4 i a b ha hb
  ·cases h
def retN (r s : Nat) (tt : TypeId) (cs : List AV) (x : AV) : Exit → St → Prop
 | .normal, st | .ret, st => ∃ q y c0, Qj st.t r = some (.ptr q 0) ∧ Qj st.H q = some (.var tt c0) ∧ Qqe c0 = some cs ∧ Qj st.t s = some y ∧ y.fz = some x
 | _, _ => False
section
variable {P : Program} {E : Jp} {Q : Exit → St → Prop} {ops : Array Oper} {o : Oper} {rest : List Oper} {t : List (Nat × AV)} {H : List (Nat × Qs)} {nx N d : Nat} {w : Bool}
theorem Qjk (hN : E.N = N) (hB : Nat.blt nx Qe = true) {f : FuncId} {bs : List AV} {tt : TypeId} {cs : List AV} {x : AV} (hc : FN P f bs tt cs x) [hf : Q8 P f] {az : List AV} (ho : QbB ⟨t, H, nx⟩ o f az) (hb : fzl az = some bs)
  (hg : Qr ops ⟨t, H, nx⟩ o = some w) (hw : w = true) (hd : o.dst = some d) (hdN : Nat.blt d N = true)
  (h : Q3 P E ops rest Q ⟨(d, .tup [.ptr nx 0, x]) :: t, (nx, .var tt cs) :: H, nx + 1⟩) : Q3 P E ops (o :: rest) Q ⟨t, H, nx⟩ := fun c a hr => by
 subst hw
 refine wpList_step fun K hK => ?_
 rw [XL hg hr, if_pos rfl];obtain ⟨vs, hrun, hvl, hv⟩ := ho.run (P := P) hr
 unfold Oper.wp
 rw [hrun, Oper.upon_enter];obtain ⟨h3, h4⟩ := QbH hb
 have hfrs : FRs c.w c.S vs bs := by
  refine ⟨by rw [hvl, h3], fun i v y hi hj => ?_⟩
  have hix : i < az.length := by have := (List.getElem?_eq_some_iff.1 hj).1; omega
  exact (hv i v _ hi (List.getElem?_eq_getElem hix)).fz (h4 i _ y (List.getElem?_eq_getElem hix) hj)
 refine (hc c.w c.S vs hr.Ssz hfrs).mono ?_;rintro e w' ⟨b, ccs, u, S', rfl, hbel, hS, hS', hheap, hsz, hnew, hx, hno, hu⟩;obtain ⟨c', e1, e2, hle, e4, e5, hr'⟩ := hr.newF (Nat.le_of_ble_eq_true hB) hbel (.pointer (some ⟨b, 0, none⟩)) (.var tt cs) hS hS' (fun c' e1 e2 hle => .var b ccs tt cs (by rw [e1]; exact hheap) hsz (fun i u x hi hx' => .fr _ _ (by rw [e1, e2]; exact hx i u x hi hx')) (fun off hs => hno off (by rw [e2] at hs; exact hs))) (fun b' hb' => by cases hb'; exact hnew)
 have hvr : VR c' (.tuple #[.pointer (some ⟨b, 0, none⟩), u]) (.tup [.ptr nx 0, x]) := by
  refine .tup [.pointer (some ⟨b, 0, none⟩), u] [.ptr nx 0, x] rfl fun i v y hi hj => ?_
  match i with
  | 0 =>
   simp at hi hj
   subst hi hj
   exact .ptr _ _ _ e4 (fun b' hh => by rw [show c'.V nx = _ from e5] at hh; cases hh; rfl)
  | 1 =>
   simp at hi hj
   subst hi hj
   exact .fr _ _ (by rw [e1, e2]; exact hu)
  | i + 2 => simp at hi
 have hput := hr'.put (d := o.dst) (x := .tup [.ptr nx 0, x]) (v := .tuple #[.pointer (some ⟨b, 0, none⟩), u]) (dlt hN hd hdN) hvr
 subst e1
 refine hK _ _ (h c' _ ?_)
 rw [hd] at hput ⊢
 exact hput
end
theorem Qpj {P : Program} {f : FuncId} {fn : Func} {code : Code} {args : List AV} {tt : TypeId} {cs : List AV} {x : AV} (r s : Nat) (hf : P.funcs[f]? = some fn) (hb : fn.body = some code) (hres : fn.results = ([r, s].map ResultVar.tmp).toArray) (N : Nat) (hN : fn.ntmps = N) (hle : args.length ≤ N)
  (h : ∀ E : Jp, E.N = N → Ym P E code (retN r s tt cs x) ⟨QaH 0 args, [], 0⟩) : FN P f args tt cs x := by
 intro w S vs hS hv
 have hvl : vs.length = args.length := hv.1
 refine calls_of_wp hf hb ?_
 have hr : Js (Jp.at_ N w S) ⟨w, S, fun _ => none, fun _ => False⟩ { tmps := vs.toArray ++ Array.replicate (fn.ntmps - vs.toArray.size) undef, defers := [] } ⟨QaH 0 args, [], 0⟩ := {
  defers := rfl
  size := by show (vs.toArray ++ Array.replicate (fn.ntmps - vs.toArray.size) undef).size = N; simp; omega
  tmps := fun i => by
   show VR _ ((vs.toArray ++ Array.replicate (fn.ntmps - vs.toArray.size) undef).getD i undef) ((Qj (QaH 0 args) i).getD .bot)
   rw [Wv]
   simp only [Nat.zero_le, if_true, Nat.sub_zero]
   rcases Nat.lt_or_ge i args.length with hlt | hge
   ·have hlt' : i < vs.length := by omega
    have e : (vs.toArray ++ Array.replicate (fn.ntmps - vs.toArray.size) undef).getD i undef = vs[i] := by
     simp [Array.getElem?_append, hlt']
    rw [e, List.getElem?_eq_getElem hlt];exact .fr _ _ (hv.2 i _ _ (List.getElem?_eq_getElem hlt') (List.getElem?_eq_getElem hlt))
   rw [List.getElem?_eq_none hge];exact .fr _ _ (.bot _)
  live := fun o ob h => by cases h
  dead := fun _ _ => rfl
  apart := fun o o' v v' b h => by cases h
  ids := fun _ h => h.elim, nxB := Nat.zero_le _, kbs := fun _ h => h.elim, V0 := fun _ h => h.elim
  Ssz := hS
  os := rfl, tape := rfl, output := rfl, drawn := Nat.le_refl _, grown := Nat.le_refl _
  frame := fun _ _ _ => rfl
  S0 := fun _ _ h => ⟨h, rfl⟩
  Snew := fun _ _ h => .inl h }
 refine wp_mono (h (Jp.at_ N w S) rfl _ _ hr) ?_;rintro e a' w' ⟨c, st, rfl, hr', hq⟩
 have fin : (∃ q y c0, Qj st.t r = some (.ptr q 0) ∧ Qj st.H q = some (.var tt c0) ∧ Qqe c0 = some cs ∧ Qj st.t s = some y ∧ y.fz = some x) →
   a'.defers = [] ∧ ∃ v, (results fn a'.tmps).run P c.w = .ok v c.w ∧ ∃ b ccs u S', Ending.returned v = .returned (.tuple #[.pointer (some ⟨b, 0, none⟩), u]) ∧ Bel w c.w ∧ (∀ b o, S b o → S' b o) ∧ (∀ b o, S' b o → S b o ∨ (w.heap.size ≤ b ∧ b < c.w.heap.size)) ∧
    c.w.heap[b]? = some (.cells ccs tt (0, 0)) ∧ ccs.size = cs.length ∧ w.heap.size ≤ b ∧ (∀ (i : Nat) (u : Value) (y : AV), ccs[i]? = some u → cs[i]? = some y → FR c.w S' u y) ∧ (∀ off, ¬ S' b off) ∧ FR c.w S' u x := by
  rintro ⟨q, y, c0, h1, h2, h3, h4, h5⟩;obtain ⟨h3l, h3z⟩ := Qh5 h3
  have hv := hr'.tmps r
  rw [show st.get r = .ptr q 0 by simp [St.get, h1]] at hv
  have hu := hr'.tmps s
  rw [show st.get s = y by simp [St.get, h4]] at hu;obtain ⟨hKq, vq, hVq, hor, hwr⟩ := hr'.live q _ h2
  cases hor with
  | var b ccs _ _ hb2 hl hc hSS =>
   have hvq : a'.tmps.getD r undef = .pointer (some ⟨b, 0, none⟩) := by
    generalize a'.tmps.getD r undef = v at hv
    cases hv with
    | fr _ _ h => cases h
    | ptr _ _ _ hK hV => exact hV b hVq
   refine ⟨hr'.defers, _, WJ [r, s] hres a'.tmps c.w, b, ccs, a'.tmps.getD s undef, c.S, by rw [← hvq]; rfl, ⟨⟨hr'.os, hr'.tape, hr'.output, hr'.grown, fun b hb => hr'.frame b hb (Nat.not_le.2 hb)⟩, hr'.drawn⟩, fun b o h => (hr'.S0 b o h).1, fun b o h => ?_, hb2, hl.trans h3l.symm, hwr b rfl, fun i u z hi hz => ?_, hSS, hu.fz h5⟩
   ·rcases hr'.Snew b o h with h6 | h6
    ·exact .inl h6
    exact .inr ⟨h6, hr'.Ssz b o h⟩
   have hlt : i < c0.length := by have := (List.getElem?_eq_some_iff.1 hz).1; omega
   exact (hc i u _ hi (List.getElem?_eq_getElem hlt)).fzk (h3z i _ z (List.getElem?_eq_getElem hlt) hz)
 cases e with
 | normal => exact fin hq
 | ret => exact fin hq
 | _ => exact hq.elim
section
variable {P : Program} {E : Jp} {o : Oper} {st : St}
end
section
variable {P : Program} {E : Jp} {ops : Array Oper} {md : Region.Mode}
def aNw (P : Program) (E : Jp) (ops : Array Oper) (i : Nat) (T : St → Prop) (s : St) : Prop :=
 ∃ o s' x, ops[i]? = some o ∧ Qr ops s o = some true ∧ Qh8 E o ∧ (∀ c a, Js E c a s → ∀ (K : Act → World → Prop) (Q : Exit → Act → World → Prop), (∀ c' v, Js E c' a s' → VR c' v x → K (a.put o.dst v) c'.w) → o.wp P a c.w K Q) ∧ T (s'.put o.dst x)
end
theorem Qr7 {P : Program} {E : Jp} {st : St} {o : Oper} {t e : TypeId} {l n : Nat} (ho : o.op = .build t #[]) {zs : List Value} [hT : Qrr P t l e n] [hZ : Xa P t zs] : PY P E o st (.agg (zs.map .p)) := by
 refine Y5 fun st' h1 h2 c a hr => ?_
 have hz := hZ.h
 cases hi : P.info? t with
 | none => simp [hi] at hz
 | some i =>
  cases hz0 : i.zero with
  | none => simp [hi, hz0] at hz
  | some z =>
   have hzc : z.cells.toList = zs := by simpa [hi, hz0] using hz
   refine ⟨.agg z.cells, ?_, ?_⟩
   ·simp [execOp, ho, Sem.run_bind, Instr.build, zeroValue, typeInfo, run_program, Result.andThen_ok, hi, Sem.run_pure, hz0, run_underlying (Qd1 hT.h), Je hT.size, Instr.fill]
   have := VR.agg (c := c) z.cells.toList (zs.map .p) (by simp [← hzc]) (fun j u y hj hk => by
    rw [← hzc, List.getElem?_map, hj] at hk
    cases hk
    exact .fr _ _ (.p u))
   simpa using this
end Go.Proofs.YtnkkokmmeplbgaaGreat
