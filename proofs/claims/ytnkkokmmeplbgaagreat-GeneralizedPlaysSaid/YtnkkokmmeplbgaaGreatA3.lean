/-
  More rules: nil checks, parts of slices that are maps.
-/
import Derived.Test.YtnkkokmmeplbgaaGreatA2
namespace Go.Proofs.YtnkkokmmeplbgaaGreat
open Go.RowKit
section
variable {P : Program} {E : Jp} {st : St} {o : Oper}
theorem Qur {x : Operand} (ho : o.op = .nilCheck x) {ax c : AV} {cs : List AV} (hx : Jj st x = some ax) (hc : st.at_ ax = some (c :: cs)) : PY P E o st ax := by
 refine Y5 fun st' h1 h2 cx a hr => ?_
 have hv := hr.ev x
 rw [h1 x (by simp [ho, Op.operands]), Q5 hx] at hv
 have hc' : st'.at_ ax = some (c :: cs) := by
  exact St.at_keep h2 hc
 obtain ⟨b, off, hat⟩ := hr.at_ hv hc';obtain ⟨hp, _⟩ := hat 0 c rfl;refine ⟨a.eval x, ?_, hv⟩
 simp [execOp, ho, hp]
variable {α : Type} {f : α → List AV} {l : List α} {n : Nat}
theorem Qgq (h : ∀ a, (f a).length = n) : ∀ e ∈ l.map f, e.length = n := fun e he => by
 obtain ⟨a, _, rfl⟩ := List.mem_map.1 he;exact h a
theorem QtT {tt : TypeId} {x y : Operand} (ho : o.op = .slice tt x none (some y) none) {e : TypeId} [hT : J8 P tt e n] {tk : Option Nat} (hx : Jj st x = some (.sl (l.map f) tk)) {k : IntKind} {i : Int} (hy : Jj st y = some (.p (.int k i)))
  (h : Nat) (hi : i = (h : Int)) (hh : h ≤ l.length) (hn : ∀ a, (f a).length = n) : PY P E o st (.sl ((l.take h).map f) none) := by
 have := Qko (P := P) (E := E) (st := st) tt x none (some y) ho (l.map f) tk (Q5 hx) 0 h (.inl ⟨rfl, rfl⟩) (.inr ⟨y, k, rfl, by rw [Q5 hy, hi]⟩) (Nat.zero_le _) (by simpa using hh) (Qgq hn)
 simpa [List.map_take] using this
theorem Kt {tt : TypeId} {x y : Operand} (ho : o.op = .slice tt x (some y) none none) {e : TypeId} [hT : J8 P tt e n] {tk : Option Nat} (hx : Jj st x = some (.sl (l.map f) tk)) {k : IntKind} {i : Int} (hy : Jj st y = some (.p (.int k i)))
  (h : Nat) (hi : i = (h : Int)) (hh : h ≤ l.length) (hn : ∀ a, (f a).length = n) : PY P E o st (.sl ((l.drop h).map f) none) := by
 have := Qko (P := P) (E := E) (st := st) tt x (some y) none ho (l.map f) tk (Q5 hx) h (l.map f).length (.inr ⟨y, k, rfl, by rw [Q5 hy, hi]⟩) (.inl ⟨rfl, rfl⟩) (by simpa using hh) (Nat.le_refl _) (Qgq hn)
 rw [List.take_length] at this
 simpa [List.map_drop] using this
theorem QcV {Q : Exit → St → Prop} {x y : Code} (st1 : St) (F : Prop) (h1 : Ym P E x (QeJ (fun s => F ∧ KE E s st1) Q) st) (h2 : F → Ym P E y Q st1) : Ym P E (.seq x y) Q st := by
 refine Qgi (h1.mono fun e s hq => ?_)
 cases e with
 | normal => exact Qx hq.2 (h2 hq.1)
 | _ => exact hq
variable {Q : Exit → St → Prop} {ops : Array Oper} {rest : List Oper} {t : List (Nat × AV)} {H : List (Nat × Qs)} {nx N d : Nat} {w : Bool}
theorem Qaz {α : Type} (q : Nat) (x : α) (o : Nat) : Qj [(q, x)] o = if o = q then some x else none := by rw [QA]; rfl
theorem QgE (hN : E.N = N) {g : FuncId} {bs as : List AV} {ob ob' ob1 ob2 : Qs} {res : AV} (q : Nat) (hc : GC P g bs [(Qe, ob)] res [(Qe, ob')]) [hf : Q8 P g] (ho : QbB ⟨t, H, nx⟩ o g as) (hab : bs.map (QcD [(Qe, q)]) = as) (hbig : bs.all QdJ = true)
  (h1 : Qfg [(Qe, q)] ob = ob1) (hq : Qj H q = some ob1) (h2 : okB ob = true) (h3 : Qga [(Qe, ob)] ob' = true) (h4 : Qfg [(Qe, q)] ob' = ob2)
  (hg : Qr ops ⟨t, H, nx⟩ o = some w) (hw : w = true) (hd : o.dst = some d) (hdN : Nat.blt d N = true)
  (h : Q3 P E ops rest Q ⟨(d, res) :: t, (q, ob2) :: H, nx⟩) : Q3 P E ops (o :: rest) Q ⟨t, H, nx⟩ := by
 have hrn : rn [(Qe, q)] Qe = q := by simp [rn, Qaz]
 have one : ∀ (z : Qs) (o : Nat), (Qj [(Qe, z)] o).isSome = true → o = Qe := fun z o h => by
  rw [Qaz] at h
  split at h
  ·assumption
  cases h
 refine QsJ hc [(Qe, q)] ((q, ob2) :: H) ho hab.symm hbig ⟨?_, rfl, h2, trivial⟩ (fun o o' g1 g2 _ => by rw [one _ o g1, one _ o' g2]) (fun o => by simp only [Qaz]; split <;> rfl) (fun o z h => ?_) (fun o z h => ?_) (fun p hp => ?_) hg hw (dlt hN hd hdN) ?_
 ·rw [hrn, h1]; exact hq
 ·rw [Qaz] at h
  split at h
  ·cases h; exact h3
  cases h
 ·rw [Qaz] at h
  split at h
  ·rename_i e; cases h; rw [e, hrn, h4, Qpd]
  cases h
 ·rw [QnE]
  intro e;exact hp Qe (by rw [Qaz, if_pos rfl]; rfl) (by rw [hrn, e])
 rw [hd]; exact h
theorem Qcd {ts : List Nat} {r res : AV} {ob ob' : Qs} (h : (Q7 st ts).fzt = some r) (hr : r = res) (ho : Qj st.H Qe = some ob') (he : ob' = ob) (hk : JO 0 ob = true) :
  (Q7 st ts).fzt = some res ∧ ∀ o ob2, Qj [(Qe, ob)] o = some ob2 → Qj st.H o = some ob2 ∧ Qe ≤ o ∧ JO 0 ob2 = true := by
 refine ⟨by rw [h, hr], fun o ob2 h2 => ?_⟩;rw [Qaz] at h2
 split at h2
 ·rename_i e
  cases h2
  subst he
  exact ⟨by rw [e]; exact ho, by rw [e]; exact Nat.le_refl _, hk⟩
 cases h2
end
section
variable {P : Program} {E : Jp} {st : St} {o : Oper}
theorem Qar {f : FuncId} {q : Operand} {cap : List AV} {xs : Array Operand} {ts : Array TypeId} {bs : List AV} {r : AV} (hc : FC P f bs r) (ho : o.op = .call { callee := .value q, args := xs, argTypes := ts }) [hf : Q8 P f] (hq : Jj st q = some (.fn f cap)) {as : List AV} (ha : evl st xs.toList = some as) (hb : fzl (as ++ cap) = some bs) : PY P E o st r := by
 intro st' h1 h2 c a hr K Q hK
 have hvq := hr.ev q
 rw [h1 q (by simp [ho, Op.operands, Call.operands]), Q5 hq] at hvq
 generalize hvx : a.eval q = vx at hvq
 have key : ∃ vs : List Value, vx = .func (.func f) #[] vs.toArray ∧ vs.length = cap.length ∧ ∀ (i : Nat) (v : Value) (x : AV), vs[i]? = some v → cap[i]? = some x → VR c v x := by
  cases hvq with
  | fr _ _ h => cases h with | fn _ vs _ hl h => exact ⟨vs, rfl, hl, fun i v x h1 h2 => .fr _ _ (h i v x h1 h2)⟩
  | fn _ vs _ hl h => exact ⟨vs, rfl, hl, h⟩
 obtain ⟨vs, rfl, hl, hp⟩ := key
 have he := Qcv ha
 have hev : xs.toList.map st'.ev = as := by
  rw [← he]
  refine List.map_congr_left fun y hy => h1 y ?_
  simp only [ho, Op.operands, Call.operands]
  simp [Array.mem_toList_iff.1 hy]
 have hla : as.length = xs.size := by rw [← hev]; simp
 obtain ⟨h3, h4⟩ := QbH hb
 have hall : ∀ (i : Nat) (v : Value) (x : AV), (xs.toList.map a.eval ++ vs)[i]? = some v → (as ++ cap)[i]? = some x → VR c v x := fun i v x hi hj => by
  rcases Nat.lt_or_ge i as.length with hlt | hge
  ·rw [List.getElem?_append_left hlt, ← hev, List.getElem?_map] at hj
   rw [List.getElem?_append_left (by simp; omega), List.getElem?_map] at hi
   cases hx : xs.toList[i]? with
   | none => rw [hx] at hi; cases hi
   | some y => rw [hx] at hi hj; cases hi; cases hj; exact hr.ev y
  rw [List.getElem?_append_right hge] at hj;rw [List.getElem?_append_right (by simp; omega)] at hi
  simp only [List.length_map, Array.length_toList] at hi
  rw [← hla] at hi;exact hp _ v x hi hj
 have hfrs : FRs c.w c.S (xs.toList.map a.eval ++ vs) bs := by
  refine ⟨by simp [h3, hla, hl], fun i v y hi hj => ?_⟩
  have hix : i < (as ++ cap).length := by have := (List.getElem?_eq_some_iff.1 hj).1; omega
  exact (hall i v _ hi (List.getElem?_eq_getElem hix)).fz (h4 i _ y (List.getElem?_eq_getElem hix) hj)
 have hcall := hc c.w c.S _ hr.Ssz hfrs
 have hrun : (execOp a.eval o).run P c.w = .ok (.enter f (xs.toList.map a.eval ++ vs).toArray) c.w := by
  have e2 : (xs.toList.map a.eval).toArray = xs.map a.eval := by apply Array.ext'; simp
  have e3 : (xs.toList.map a.eval ++ vs).toArray = xs.map a.eval ++ vs.toArray := by rw [← e2]; simp
  simp [execOp, ho, resolve, invoke, hvx, Deferred.ofValue, hf.h, e3]
 unfold Oper.wp
 rw [hrun, Oper.upon_enter];refine hcall.mono ?_;rintro e w' ⟨v, S', rfl, hw, hS, hS', hv⟩;obtain ⟨hle, hr'⟩ := hr.ext hw hS hS';exact hK ⟨w', S', c.V, c.K⟩ v hr' (.fr _ _ hv)
theorem QsH {f : FuncId} {vs : List Value} {r : Value} (h : ∀ w, Calls P f vs.toArray w fun e w' => e = .returned r ∧ w' = w) : FC P f (vs.map .p) (.p r) := by
 intro w S vs' hS hv
 have : vs' = vs := by
  refine List.ext_getElem? fun i => ?_
  obtain ⟨h1, h2⟩ := hv;rw [List.length_map] at h1
  rcases Nat.lt_or_ge i vs.length with hlt | hge
  ·have hi' : vs'[i]? = some vs'[i] := List.getElem?_eq_getElem (by omega)
   have hi : (vs.map AV.p)[i]? = some (.p vs[i]) := by rw [List.getElem?_map, List.getElem?_eq_getElem hlt]; rfl
   have := h2 i _ _ hi' hi
   rw [hi', List.getElem?_eq_getElem hlt]
   generalize vs'[i] = x at this
   generalize vs[i] = y at this
   cases this
   rfl
  rw [List.getElem?_eq_none hge, List.getElem?_eq_none (by omega)]
 subst this
 refine (h w).mono ?_;rintro e w' ⟨rfl, rfl⟩;exact ⟨r, S, rfl, Bel.refl _, fun _ _ h => h, fun _ _ h => .inl h, .p _⟩
end
inductive RS where
 | t (i : Nat)
 | c (i : Nat) (ty : TypeId) (n : Nat) (row : Bool)
def RS.var : RS → ResultVar
 | .t i => .tmp i
 | .c i ty _ _ => .cell i ty
def RS.okL (P : Program) : List RS → Prop
 | [] => True
 | .t _ :: r => RS.okL P r
 | .c _ ty n row :: r => (X1 P ty n row ∧ Nat.blt 0 n = true) ∧ RS.okL P r
def RS.rd (st : St) : RS → Option AV
 | .t i => some (st.get i)
 | .c i _ n row => (St.at_ st (st.get i)).bind (Wl row n)
def RS.rds (st : St) : List RS → Option (List AV)
 | [] => some []
 | r :: rs => match r.rd st, RS.rds st rs with
  | some x, some xs => some (x :: xs)
  | _, _ => none
def resY (st : St) : List RS → Option AV
 | [r] => r.rd st
 | rs => (RS.rds st rs).map .tup
def retR (rs : List RS) (res : AV) : Exit → St → Prop
 | .normal, st | .ret, st => (resY st rs).bind AV.fzt = some res
 | _, _ => False
section
variable {P : Program} {E : Jp} {c : Cx} {a : Act} {st : St}
def QfT (tmps : Array Value) : ResultVar → Sem Value
 | .tmp t => pure (tmps.getD t undef)
 | .cell a t => do loadVar t (← asAddr (tmps.getD a undef))
theorem Js.rd (hr : Js E c a st) {r : RS} (hok : RS.okL P [r]) {x : AV} (h : r.rd st = some x) : ∃ v, (QfT a.tmps r.var).run P c.w = .ok v c.w ∧ VR c v x := by
 cases r with
 | t i => cases h; exact ⟨_, rfl, hr.tmps i⟩
 | c i ty n row =>
   obtain ⟨⟨hT, hp⟩, _⟩ := hok
   have hsize := hT.size
   have hrow := hT.row
   have hn0 : 0 < n := Nat.le_of_ble_eq_true hp
   simp only [RS.rd] at h
   cases hc : St.at_ st (st.get i) with
   | none => rw [hc] at h; cases h
   | some cs =>
    rw [hc] at h
    have hl : Wl row n cs = some x := h
    obtain ⟨b, off, hat⟩ := hr.at_ (hr.tmps i) hc;obtain ⟨ii, hi, hsz⟩ := JL hsize;obtain ⟨d, hd, hdr⟩ := Qce hrow
    cases row with
    | false =>
     cases cs with
     | nil => cases hl
     | cons y ys =>
      cases hl
      obtain ⟨hp, u, hu, hvr⟩ := hat 0 _ rfl;refine ⟨u, ?_, hvr⟩
      simp only [RS.var, QfT]
      rw [hp]
      simp [asAddr, loadVar, Qaf hrow, show c.w.cell? ⟨b, off, none⟩ = some u from hu]
    | true =>
     simp only [Wl] at hl
     cases hb : Nat.ble n cs.length with
     | false => rw [hb] at hl; cases hl
     | true =>
      rw [hb] at hl
      cases hl
      have hnl : n ≤ cs.length := Nat.le_of_ble_eq_true hb
      obtain ⟨us, hul, hus⟩ := QbN (p := fun j u => c.w.cell? ⟨b, off + j, none⟩ = some u ∧ ∀ y, cs[j]? = some y → VR c u y) n (fun j hj => by
       obtain ⟨_, u, hu, hvr⟩ := hat j cs[j] (List.getElem?_eq_getElem (by omega))
       exact ⟨u, hu, fun y hy => by rw [List.getElem?_eq_getElem (by omega)] at hy; cases hy; exact hvr⟩)
      obtain ⟨hp, _⟩ := hat 0 cs[0] (List.getElem?_eq_getElem (by omega));refine ⟨.agg us.toArray, ?_, .agg us (cs.take n) (by simp; omega) (fun i v y h1 h2 => ?_)⟩
      ·simp only [RS.var, QfT]
       rw [hp]
       have := run_loadAt_mid c.w b off ty us d (fun j v hj => (hus j v hj).1) hd hdr (by rw [hi, Option.map_some, hsz, hul])
       simpa [Instr.loadAt, Instr.sureAddr, asAddr] using this
      rw [List.getElem?_take] at h2
      split at h2
      ·exact (hus i v h1).2 y h2
      cases h2
theorem QlH {r : RS} {rs : List RS} {xs : List AV} (h : RS.rds st (r :: rs) = some xs) : ∃ x xs', r.rd st = some x ∧ RS.rds st rs = some xs' ∧ xs = x :: xs' := by
 rw [RS.rds] at h
 cases h1 : r.rd st with
 | none => rw [h1] at h; cases h
 | some x =>
  cases h2 : RS.rds st rs with
  | none => rw [h1, h2] at h; cases h
  | some xs' => rw [h1, h2] at h; cases h; exact ⟨x, xs', rfl, rfl, rfl⟩
theorem Qnk : ∀ {rs : List RS} {xs : List AV}, RS.rds st rs = some xs → xs.length = rs.length
 | [], xs, h => by cases h; rfl
 | r :: rs, xs, h => by
  obtain ⟨x, xs', h1, h2, rfl⟩ := QlH h
  simp [Qnk h2]
theorem Qtq (g : ResultVar → Sem Value) (tmps : Array Value) (hg : ∀ r, g r = QfT tmps r) (l : List ResultVar) : l.toArray.mapM g = List.toArray <$> l.mapM (QfT tmps) := by
 rw [show g = QfT tmps from funext hg, List.mapM_toArray]
theorem QlJ {r : RS} {rs : List RS} (h : RS.okL P (r :: rs)) : RS.okL P [r] ∧ RS.okL P rs := by
 cases r with
 | t i => exact ⟨trivial, h⟩
 | c i ty n row => exact ⟨⟨h.1, trivial⟩, h.2⟩
theorem Js.rds (hr : Js E c a st) : ∀ {rs : List RS} (_ : RS.okL P rs) {xs : List AV}, RS.rds st rs = some xs → ∃ vs : List Value, ((rs.map RS.var).mapM (QfT a.tmps)).run P c.w = .ok vs c.w ∧ vs.length = xs.length ∧ ∀ (i : Nat) (v : Value) (x : AV), vs[i]? = some v → xs[i]? = some x → VR c v x
 | [], _, xs, h => by cases h; exact ⟨[], rfl, rfl, by simp⟩
 | r :: rs, hok, xs, h => by
  obtain ⟨x, xs', h1, h2, rfl⟩ := QlH h;obtain ⟨v, g1, g2⟩ := hr.rd (QlJ hok).1 h1;obtain ⟨vs, k1, k2, k3⟩ := hr.rds (QlJ hok).2 h2;refine ⟨v :: vs, ?_, by simp [k2], fun i u y hi hj => ?_⟩
  ·rw [List.map_cons, List.mapM_cons]
   simp only [Sem.run_bind, g1, Result.andThen_ok, k1, Sem.run_pure]
  ·cases i with
   | zero => simp at hi hj; subst hi hj; exact g2
   | succ i => simp at hi hj; exact k3 i u y hi hj
theorem Js.resY (hr : Js E c a st) {fn : Func} {rs : List RS} (hok : RS.okL P rs) (hf : fn.results = (rs.map RS.var).toArray) {x : AV} (h : resY st rs = some x) : ∃ v, (results fn a.tmps).run P c.w = .ok v c.w ∧ VR c v x := by
 have hm : ∀ (vs : List Value), ((rs.map RS.var).mapM (QfT a.tmps)).run P c.w = .ok vs c.w → (results fn a.tmps).run P c.w = .ok (if h : vs.toArray.size = 1 then vs.toArray[0] else .tuple vs.toArray) c.w := fun vs hv => by
  unfold results
  rw [hf, Qtq _ a.tmps (fun r => by cases r <;> rfl)]
  simp only [Sem.run_bind, Sem.run_map, hv, Result.andThen_ok, Sem.run_pure]
 match rs, hok, h, hm with
 | [r], hok1, h, hm =>
  obtain ⟨v, g1, g2⟩ := hr.rd hok1 h;refine ⟨v, ?_, g2⟩
  have := hm [v] (by simp [List.mapM_cons, g1])
  simpa using this
 | [], _, h, hm =>
  cases h
  have := hm [] rfl
  exact ⟨_, by simpa using this, .tup [] [] rfl (by simp)⟩
 | r1 :: r2 :: rs, hok, h, hm =>
  have h : (RS.rds st (r1 :: r2 :: rs)).map .tup = some x := h
  cases hx : RS.rds st (r1 :: r2 :: rs) with
  | none => rw [hx] at h; cases h
  | some xs =>
   rw [hx] at h; cases h
   obtain ⟨vs, k1, k2, k3⟩ := hr.rds hok hx
   have hl : ¬ vs.length = 1 := by
    have : xs.length = (r1 :: r2 :: rs).length := Qnk hx
    simp at this; omega
   refine ⟨.tuple vs.toArray, ?_, .tup vs xs k2 k3⟩
   have := hm vs k1
   simpa [hl] using this
end
theorem Ju {P : Program} {f : FuncId} {fn : Func} {code : Code} {args : List AV} {res : AV} (rs : List RS) (hok : RS.okL P rs) (hf : P.funcs[f]? = some fn) (hb : fn.body = some code) (hres : fn.results = (rs.map RS.var).toArray) (N : Nat) (hN : fn.ntmps = N) (hle : args.length ≤ N)
  (h : ∀ E : Jp, E.N = N → Ym P E code (retR rs res) ⟨QaH 0 args, [], 0⟩) : FC P f args res := by
 intro w S vs hS hv
 have hvl : vs.length = args.length := hv.1
 refine calls_of_wp hf hb ?_
 have hr : Js (Jp.at_ N w S) ⟨w, S, fun _ => none, fun _ => False⟩ { tmps := vs.toArray ++ Array.replicate (fn.ntmps - vs.toArray.size) undef, defers := [] } ⟨QaH 0 args, [], 0⟩ := {
  defers := rfl
  size := by show (vs.toArray ++ Array.replicate (fn.ntmps - vs.toArray.size) undef).size = N; simp; omega
  tmps := fun i => by
   show VR _ ((vs.toArray ++ Array.replicate (fn.ntmps - vs.toArray.size) undef).getD i undef) ((Qj (QaH 0 args) i).getD .bot)
   rw [Wv]
   simp only [Nat.zero_le, if_true, Nat.sub_zero]
   rcases Nat.lt_or_ge i args.length with hlt | hge
   ·have hlt' : i < vs.length := by omega
    have e : (vs.toArray ++ Array.replicate (fn.ntmps - vs.toArray.size) undef).getD i undef = vs[i] := by
     simp [Array.getElem?_append, hlt']
    rw [e, List.getElem?_eq_getElem hlt];exact .fr _ _ (hv.2 i _ _ (List.getElem?_eq_getElem hlt') (List.getElem?_eq_getElem hlt))
   rw [List.getElem?_eq_none hge];exact .fr _ _ (.bot _)
  live := fun o ob h => by cases h
  dead := fun _ _ => rfl
  apart := fun o o' v v' b h => by cases h
  ids := fun _ h => h.elim, nxB := Nat.zero_le _, kbs := fun _ h => h.elim, V0 := fun _ h => h.elim
  Ssz := hS
  os := rfl, tape := rfl, output := rfl, drawn := Nat.le_refl _, grown := Nat.le_refl _
  frame := fun _ _ _ => rfl
  S0 := fun _ _ h => ⟨h, rfl⟩
  Snew := fun _ _ h => .inl h }
 refine wp_mono (h (Jp.at_ N w S) rfl _ _ hr) ?_;rintro e a' w' ⟨c, st, rfl, hr', hq⟩
 have fin : ((resY st rs).bind AV.fzt = some res) →
   a'.defers = [] ∧ ∃ v, (results fn a'.tmps).run P c.w = .ok v c.w ∧ ∃ v' S', Ending.returned v = .returned v' ∧ Bel w c.w ∧ (∀ b o, S b o → S' b o) ∧ (∀ b o, S' b o → S b o ∨ (w.heap.size ≤ b ∧ b < c.w.heap.size)) ∧ FR c.w S' v' res := by
  intro hr2
  cases hx : resY st rs with
  | none => rw [hx] at hr2; cases hr2
  | some x =>
   rw [hx] at hr2
   replace hr2 : x.fzt = some res := hr2
   obtain ⟨v, g1, g2⟩ := hr'.resY hok hres hx;refine ⟨hr'.defers, v, g1, v, c.S, rfl, ⟨⟨hr'.os, hr'.tape, hr'.output, hr'.grown, fun b hb => hr'.frame b hb (Nat.not_le.2 hb)⟩, hr'.drawn⟩, fun b o h => (hr'.S0 b o h).1, fun b o h => ?_, ?_⟩
   ·rcases hr'.Snew b o h with h1 | h1
    ·exact .inl h1
    exact .inr ⟨h1, hr'.Ssz b o h⟩
   cases x with
   | tup xs =>
    simp only [AV.fzt] at hr2
    cases hz : fzl xs with
    | none => rw [hz] at hr2; cases hr2
    | some ys => rw [hz] at hr2; cases hr2; exact g2.tup_fz hz
   | _ => exact g2.fz hr2
 cases e with
 | normal => exact fin hq
 | ret => exact fin hq
 | _ => exact hq.elim
theorem Xm {st : St} {rs : List RS} {r res : AV} (h : (resY st rs).bind AV.fzt = some r) (hr : r = res) : (resY st rs).bind AV.fzt = some res := by rw [h, hr]
theorem Ql {P : Program} {E : Jp} {st : St} {o : Oper} {op : BinOp} {t ty : TypeId} {x y : Operand} (ho : o.op = .binOp op t x y ty) {u u' v : Value} (hx : Jj st x = some (.p u)) (hy : Jj st y = some (.p u')) [hb : QaC P t op u u' v] {b : Bool} (hv : v = .bool b) : PY P E o st (.p (.bool b)) := by
 subst hv; exact QiO ho hx hy
theorem cgL {es es' : List (List AV)} {tk : Option Nat} (h : es = es') : some (AV.sl es tk) = some (AV.sl es' tk) := by rw [h]
theorem cgT {te : TypeId} {k n n' : Nat} (h : n = n') : some (Qs.tok te k n) = some (Qs.tok te k n') := by rw [h]
theorem Qd9 {es es' : List (List AV)} {tk : Option Nat} (h : es = es') : AV.sl es tk = AV.sl es' tk := by rw [h]
theorem QP {α : Type} {f : α → List AV} {k : Nat} (h : ∀ a, okE k (f a) = true) (l : List α) : (l.map f).all (okE k) = true := by
 induction l with
 | nil => rfl
 | cons a l ih => rw [List.map_cons, List.all_cons, h, ih]; rfl
section
variable {E : Jp} {c : Cx} {a : Act} {st : St} {t : List (Nat × AV)} {H : List (Nat × Qs)} {nx : Nat}
theorem Js.nils (hr : Js E c a st) (hB : st.nx < Qe) (te : TypeId) (k : Nat) : ∃ c' : Cx, c'.w = c.w ∧ c.le c' ∧ VR c' (.slice none 0 0) (.sl [] (some st.nx)) ∧ Js E c' a { st.set st.nx (.tok te k 0) with nx := st.nx + 1 } := by
 obtain ⟨c', e1, e2, hle, e4, e5, hr'⟩ := hr.new hB (Bel.refl c.w) (.slice none 0 0) (.tok te k 0) (fun c' e1 e2 hle => .tok _ te k 0 [] (World.ownsRow_nil _ 0 te k) (fun b hb => by simp [Xj] at hb)) (fun b hb => by simp [Xj] at hb);refine ⟨c', e1, hle, .tok _ _ _ (.nil _ _ _ _ (Nat.zero_le _)) e4 (fun A2 n2 cap2 hh => ?_), hr'⟩;rw [e5] at hh
 have hh := Option.some.inj hh
 have hn2 : 0 = n2 := (Value.slice.inj hh).2.1
 exact ⟨Nat.zero_le _, fun _ => .inr ⟨hn2.symm, none, rfl⟩⟩
theorem Qk4 (hB : Nat.blt nx Qe = true) (i : Nat) (te : TypeId) (k : Nat) (h : Qj t i = some (.p (.slice none 0 0))) : KE E ⟨t, H, nx⟩ ⟨(i, .sl [] (some nx)) :: t, (nx, .tok te k 0) :: H, nx + 1⟩ := fun c a hr => by
 obtain ⟨c', e1, hle, hv, hr'⟩ := hr.nils (Nat.le_of_ble_eq_true hB) te k;refine ⟨c', e1, { hr' with tmps := fun j => ?_ }⟩
 have hj := hr'.tmps j
 show VR c' _ ((Qj ((i, AV.sl [] (some nx)) :: t) j).getD .bot)
 rw [QA]
 split
 ·rename_i e
  subst e
  have hj : VR c' _ ((Qj t j).getD .bot) := hj
  rw [h] at hj
  have := hj.p_inv
  rw [this];exact hv
 exact hj
theorem Yh (hB : Nat.blt nx Qe = true) (q i : Nat) (te : TypeId) (k : Nat) {tt : TypeId} {cs : List AV} (hq : Qj H q = some (.var tt cs)) (hn : Nat.beq q nx = false) (h : cs[i]? = some (.p (.slice none 0 0))) : KE E ⟨t, H, nx⟩ ⟨t, (q, .var tt (cs.set i (.sl [] (some nx)))) :: (nx, .tok te k 0) :: H, nx + 1⟩ := fun c a hr => by
 obtain ⟨c', e1, hle, hv, hr'⟩ := hr.nils (Nat.le_of_ble_eq_true hB) te k
 have hne : q ≠ nx := fun e => by subst e; simp at hn
 have hlk : ∀ o, Qj ((q, Qs.var tt (cs.set i (.sl [] (some nx)))) :: (nx, .tok te k 0) :: H) o = if o = q then some (Qs.var tt (cs.set i (.sl [] (some nx)))) else Qj ((nx, .tok te k 0) :: H) o := fun o => QA _ _ _ _
 have hqq : Qj ((nx, Qs.tok te k 0) :: H) q = some (.var tt cs) := by rw [QnE _ _ hne]; exact hq
 refine ⟨c', e1, { hr' with live := fun o ob ho => ?_, dead := fun o ho => ?_ }⟩
 ·replace ho : Qj ((q, Qs.var tt (cs.set i (.sl [] (some nx)))) :: (nx, .tok te k 0) :: H) o = some ob := ho
  rw [hlk] at ho
  split at ho
  ·rename_i e
   subst e
   cases ho
   obtain ⟨g1, v, g2, g3, g4⟩ := hr'.live _ _ hqq;refine ⟨g1, v, g2, ?_, g4⟩
   cases g3 with
   | var b ccs _ _ hb hl hc hS =>
    refine .var b ccs tt _ hb (by simp [hl]) (fun j u x hj hx => ?_) hS;rw [List.getElem?_set] at hx
    split at hx
    ·rename_i e
     subst e
     split at hx
     ·cases hx
      have := (hc _ u _ hj h).p_inv
      rw [this]; exact hv
     cases hx
    exact hc j u x hj hx
  exact hr'.live o ob ho
 replace ho : Qj ((q, Qs.var tt (cs.set i (.sl [] (some nx)))) :: (nx, .tok te k 0) :: H) o = none := ho
 rw [hlk] at ho
 split at ho
 ·cases ho
 exact hr'.dead o ho
end
def Yv (q : Nat) : List (Nat × Qs) → List (Nat × Qs)
 | [] => []
 | (j, x) :: r => bif q == j then Yv q r else (j, x) :: Yv q r
theorem Qak (q : Nat) : ∀ (H : List (Nat × Qs)) (o : Nat), Qj (Yv q H) o = if o = q then none else Qj H o
 | [], o => by simp [Yv, Qj]
 | (j, x) :: r, o => by
  unfold Yv
  by_cases hj : q = j
  ·subst hj
   simp only [BEq.rfl, cond_true]
   rw [Qak q r o, QA]
   by_cases ho : o = q
   ·simp [ho]
   simp [ho]
  ·have : (q == j) = false := by simpa using hj
   rw [this, cond_false, QA, QA, Qak q r o]
   by_cases ho : o = q
   ·subst ho; simp [hj]
   ·simp [ho]
section
variable {E : Jp} {c : Cx} {a : Act} {st : St}
theorem Js.freeze (hr : Js E c a st) {q : Nat} {tt : TypeId} {cs ys : List AV} (hq : Qj st.H q = some (.var tt cs)) (hz : fzs cs = some ys) :
  ∃ c' : Cx, c'.w = c.w ∧ Js E c' a ⟨st.t, Yv q st.H, st.nx⟩ ∧ ∀ v off, VR c v (.ptr q off) → VR c' v (.el (ys.drop off)) := by
 obtain ⟨hKq, vq, hVq, hor, hwr⟩ := hr.live q _ hq
 cases hor with
 | var b ccs _ _ hb hl hc hS =>
 obtain ⟨z1, z2⟩ := KH hz
 have hbl : b < c.w.heap.size := (Array.getElem?_eq_some_iff.1 hb).1
 obtain ⟨S', hS'⟩ : ∃ S' : Nat → Nat → Prop, S' = fun b' off => c.S b' off ∨ (b' = b ∧ off < cs.length) := ⟨_, rfl⟩
 obtain ⟨V', hV'⟩ : ∃ V' : Nat → Option Value, V' = fun o => if o = q then none else c.V o := ⟨_, rfl⟩
 have hVo : ∀ o, o ≠ q → V' o = c.V o := fun o ho => by rw [hV']; simp [ho]
 have hVn : V' q = none := by rw [hV']; simp
 have hle : c.le ⟨c.w, S', V', c.K⟩ := ⟨fun b' o hs => ⟨by rw [hS']; exact .inl hs, rfl⟩, fun _ h => h, fun o _ => by
  by_cases e : o = q
  ·subst e; exact .inr (.inl hVn)
  exact .inl (hVo o e)⟩
 have cell : ∀ (i : Nat) (u : Value), ccs[i]? = some u → c.w.cell? ⟨b, i, none⟩ = some u := fun i u hi => by
  simp [World.cell?, hb, hi]
 refine ⟨⟨c.w, S', V', c.K⟩, rfl, ?_, fun v off hv => ?_⟩
 ·exact {
   defers := hr.defers, size := hr.size, tmps := fun i => (hr.tmps i).mono hle
   live := fun o ob ho => by
    replace ho : Qj (Yv q st.H) o = some ob := ho
    rw [Qak] at ho
    by_cases e : o = q
    ·rw [if_pos e] at ho; cases ho
    rw [if_neg e] at ho;obtain ⟨hk, u, hu, hor', hwr'⟩ := hr.live o ob ho;refine ⟨hk, u, (hVo o e).trans hu, hor'.ext (Bel.refl _) hle (fun b' hb' off hs => ?_), hwr'⟩;rw [hS'] at hs
    rcases hs with hs | ⟨rfl, _⟩
    ·exact hs
    exact absurd (hr.apart o q u _ b' hu hVq hb' rfl) e
   dead := fun o ho => by
    replace ho : Qj (Yv q st.H) o = none := ho
    rw [Qak] at ho
    by_cases e : o = q
    ·subst e; exact hVn
    rw [if_neg e] at ho; exact (hVo o e).trans (hr.dead o ho)
   apart := fun o o' u u' b' hu hu' hb1 hb2 => by
    by_cases e : o = q
    ·subst e; replace hu : V' o = some u := hu; rw [hVn] at hu; cases hu
    by_cases e' : o' = q
    ·subst e'; replace hu' : V' o' = some u' := hu'; rw [hVn] at hu'; cases hu'
    exact hr.apart o o' u u' b' ((hVo o e).symm.trans hu) ((hVo o' e').symm.trans hu') hb1 hb2
   ids := hr.ids, nxB := hr.nxB, kbs := hr.kbs
   V0 := fun o hk => by
    show Qbk (E.V0 o) (V' o)
    by_cases e : o = q
    ·subst e; rw [hVn]; exact .inr (.inl rfl)
    rw [hVo o e]; exact hr.V0 o hk
   Ssz := fun b' off hs => by
    replace hs : S' b' off := hs
    rw [hS'] at hs
    rcases hs with hs | ⟨rfl, _⟩
    ·exact hr.Ssz b' off hs
    exact hbl
   os := hr.os, tape := hr.tape, output := hr.output, drawn := hr.drawn, grown := hr.grown, frame := hr.frame
   S0 := fun b' off hs => ⟨by show S' b' off; rw [hS']; exact .inl (hr.S0 b' off hs).1, (hr.S0 b' off hs).2⟩
   Snew := fun b' off hs => by
    replace hs : S' b' off := hs
    rw [hS'] at hs
    rcases hs with hs | ⟨rfl, _⟩
    ·exact hr.Snew b' off hs
    exact .inr (hwr b' rfl) }
 ·have hv : v = .pointer (some ⟨b, off, none⟩) := by
   cases hv with
   | fr _ _ h => cases h
   | ptr _ _ _ _ hV => exact hV b hVq
  subst hv
  refine .fr _ _ (.el b off (ys.drop off) (fun i => (ccs[off + i]?).getD undef) (fun i x hi => ?_) (fun i x hi => ?_))
  all_goals
   rw [List.getElem?_drop] at hi
   have hlt : off + i < cs.length := by have := (List.getElem?_eq_some_iff.1 hi).1; omega
   have hcc : ccs[off + i]? = some ccs[off + i] := Array.getElem?_eq_getElem (by omega)
  ·refine ⟨by show S' b (off + i); rw [hS']; exact .inr ⟨rfl, hlt⟩, ?_⟩
   show c.w.cell? ⟨b, off + i, none⟩ = _
   rw [cell _ _ hcc, hcc]; rfl
  ·rw [hcc]
   have := (hc _ _ _ hcc (List.getElem?_eq_getElem hlt)).fz1 (z2 _ _ x (List.getElem?_eq_getElem hlt) hi)
   exact this.mono hle.S
theorem J7 {P : Program} {o : Oper} {t : TypeId} {len : Nat} {parts : Array (Nat × Operand)} (ho : o.op = .buildSlice t len parts) {e : TypeId} {n : Nat} [hT : J8 P t e n] {zs : List Value} [hZ : Xa P e zs] {ps : List (Nat × List AV)} (hp : Qfl st parts.toList = some ps)
  {flat flat' : List AV} (hf : QfU ((List.range len).map fun i => (i * n, n)) ((List.replicate len zs).flatten.map .p) ps = some flat) (hz : fzs flat = some flat') (hn : zs.length = n) (h24 : len * n ≤ 16777216) (h25 : len ≤ 16777216) {es : List (List AV)} (he : JI n len flat' = es) : PY P E o st (.sl es none) := by
 subst he; exact QG ho hp hf hz hn h24 h25
theorem Qau {t : List (Nat × AV)} {H : List (Nat × Qs)} {nx : Nat} (i q : Nat) {off : Nat} {tt : TypeId} {cs ys : List AV} (hi : Qj t i = some (.ptr q off)) (hq : Qj H q = some (.var tt cs)) (hz : fzs cs = some ys) {H' : List (Nat × Qs)} (hH : Yv q H = H') :
  KE E ⟨t, H, nx⟩ ⟨(i, .el (ys.drop off)) :: t, H', nx⟩ := fun c a hr => by
 subst hH
 obtain ⟨c', e1, hr', hv⟩ := hr.freeze hq hz;refine ⟨c', e1, { hr' with tmps := fun j => ?_ }⟩
 show VR c' _ ((Qj ((i, AV.el (ys.drop off)) :: t) j).getD .bot)
 rw [QA]
 split
 ·rename_i e
  subst e
  refine hv _ _ ?_
  have := hr.tmps j
  rwa [show (⟨t, H, nx⟩ : St).get j = .ptr q off by simp [St.get, hi]] at this
 exact hr'.tmps j
end
theorem Qfk {k : Nat} : ∀ {es : List (List AV)}, (∀ e ∈ es, e.length = k) → es.flatten.length = es.length * k
 | [], _ => by simp
 | e :: es, h => by
  rw [List.flatten_cons, List.length_append, h e (by simp), Qfk (fun e he => h e (by simp [he])), List.length_cons, Nat.add_mul, Nat.one_mul, Nat.add_comm]
section
variable {P : Program} {E : Jp} {c : Cx} {a : Act} {st : St}
theorem Js.give (hr : Js E c a st) {q : Nat} {ob : Qs} (hq : Qj st.H q = some ob) {vq : Value} (hVq : c.V q = some vq) (C : Nat → Nat → Prop) (hC : ∀ b off, C b off → Xj vq = some b) :
  ∃ c' : Cx, c'.w = c.w ∧ (∀ b off, c'.S b off ↔ c.S b off ∨ C b off) ∧ c.le c' ∧ Js E c' a ⟨st.t, Yv q st.H, st.nx⟩ := by
 obtain ⟨hKq, vq', hVq', hor, hwr⟩ := hr.live q _ hq
 rw [hVq] at hVq'; cases hVq'
 obtain ⟨S', hS'⟩ : ∃ S' : Nat → Nat → Prop, S' = fun b' off => c.S b' off ∨ C b' off := ⟨_, rfl⟩
 obtain ⟨V', hV'⟩ : ∃ V' : Nat → Option Value, V' = fun o => if o = q then none else c.V o := ⟨_, rfl⟩
 have hVo : ∀ o, o ≠ q → V' o = c.V o := fun o ho => by rw [hV']; simp [ho]
 have hVn : V' q = none := by rw [hV']; simp
 have hle : c.le ⟨c.w, S', V', c.K⟩ := ⟨fun b' o hs => ⟨by rw [hS']; exact .inl hs, rfl⟩, fun _ h => h, fun o _ => by
  by_cases e : o = q
  ·subst e; exact .inr (.inl hVn)
  exact .inl (hVo o e)⟩
 refine ⟨⟨c.w, S', V', c.K⟩, rfl, fun b off => by show S' b off ↔ _; rw [hS'], hle, ?_⟩
 exact {
   defers := hr.defers, size := hr.size, tmps := fun i => (hr.tmps i).mono hle
   live := fun o ob ho => by
    replace ho : Qj (Yv q st.H) o = some ob := ho
    rw [Qak] at ho
    by_cases e : o = q
    ·rw [if_pos e] at ho; cases ho
    rw [if_neg e] at ho;obtain ⟨hk, u, hu, hor', hwr'⟩ := hr.live o ob ho;refine ⟨hk, u, (hVo o e).trans hu, hor'.ext (Bel.refl _) hle (fun b' hb' off hs => ?_), hwr'⟩;rw [hS'] at hs
    rcases hs with hs | hs
    ·exact hs
    exact absurd (hr.apart o q u _ b' hu hVq hb' (hC b' off hs)) e
   dead := fun o ho => by
    replace ho : Qj (Yv q st.H) o = none := ho
    rw [Qak] at ho
    by_cases e : o = q
    ·subst e; exact hVn
    rw [if_neg e] at ho; exact (hVo o e).trans (hr.dead o ho)
   apart := fun o o' u u' b' hu hu' hb1 hb2 => by
    by_cases e : o = q
    ·subst e; replace hu : V' o = some u := hu; rw [hVn] at hu; cases hu
    by_cases e' : o' = q
    ·subst e'; replace hu' : V' o' = some u' := hu'; rw [hVn] at hu'; cases hu'
    exact hr.apart o o' u u' b' ((hVo o e).symm.trans hu) ((hVo o' e').symm.trans hu') hb1 hb2
   ids := hr.ids, nxB := hr.nxB, kbs := hr.kbs
   V0 := fun o hk => by
    show Qbk (E.V0 o) (V' o)
    by_cases e : o = q
    ·subst e; rw [hVn]; exact .inr (.inl rfl)
    rw [hVo o e]; exact hr.V0 o hk
   Ssz := fun b' off hs => by
    replace hs : S' b' off := hs
    rw [hS'] at hs
    rcases hs with hs | hs
    ·exact hr.Ssz b' off hs
    exact hor.lt (hC b' off hs)
   os := hr.os, tape := hr.tape, output := hr.output, drawn := hr.drawn, grown := hr.grown, frame := hr.frame
   S0 := fun b' off hs => ⟨by show S' b' off; rw [hS']; exact .inl (hr.S0 b' off hs).1, (hr.S0 b' off hs).2⟩
   Snew := fun b' off hs => by
    replace hs : S' b' off := hs
    rw [hS'] at hs
    rcases hs with hs | hs
    ·exact hr.Snew b' off hs
    ·exact .inr (hwr b' (hC b' off hs)) }
theorem Xl {t : List (Nat × AV)} {H : List (Nat × Qs)} {nx : Nat} (i q : Nat) {n : Nat} {te : TypeId} {k : Nat} {es : List (List AV)} (hi : Qj t i = some (.own q n)) (hq : Qj H q = some (.arr te k es)) (hn : n = es.length) (hk : es.all (okE k) = true) (hz : ∀ e ∈ es, fzs e = some e) {H' : List (Nat × Qs)} (hH : Yv q H = H') :
  KE E ⟨t, H, nx⟩ ⟨(i, .sl es none) :: t, H', nx⟩ := fun c a hr => by
 subst hH hn
 obtain ⟨hKq, vq, hVq, hor, hwr⟩ := hr.live q _ hq;obtain ⟨c', e1, hS', hle, hr'⟩ := hr.give hq hVq (fun b off => Xj vq = some b ∧ off < es.length * k) (fun b off h => h.1);refine ⟨c', e1, { hr' with tmps := fun j => ?_ }⟩
 show VR c' _ ((Qj ((i, AV.sl es none) :: t) j).getD .bot)
 rw [QA]
 split
 ·rename_i e
  subst e
  have hv := hr.tmps j
  rw [show (⟨t, H, nx⟩ : St).get j = .own q es.length by simp [St.get, hi]] at hv
  cases hor with
  | arr _ _ _ _ xs hown hek hx hSq =>
   obtain ⟨A0, cap0, hA0⟩ := KR hown
   have hvq : a.tmps.getD j undef = vq := by
    generalize a.tmps.getD j undef = v at hv
    cases hv with
    | fr _ _ h => cases h
    | own _ _ _ hK hV => rw [(hV A0 _ cap0 (by rw [hVq, hA0])).2 rfl, hA0]
   rw [hvq];refine .fr _ _ (FR.of_own (xs := xs) (n := es.length) (te := te) (k := k) (by rw [e1]; exact hown) rfl hk (fun b hb off hoff => (hS' b off).2 (.inr ⟨hb, hoff⟩)) (fun i u y hi hy => ?_))
   have hfz : ∀ x ∈ es.flatten, x.fz1 = some x := fun x hx => by
    obtain ⟨e, he, hxe⟩ := List.mem_flatten.1 hx;obtain ⟨m, hm⟩ := List.getElem?_of_mem hxe;exact (KH (hz e he)).2 m x x hm hm
   exact ((hx i u y hi hy).fz1 (hfz y (List.mem_of_getElem? hy))).mono hle.S
 ·exact hr'.tmps j
theorem Wd {t : List (Nat × AV)} {H : List (Nat × Qs)} {nx : Nat} (hB : Nat.blt nx Qe = true) (i : Nat) (te : TypeId) (k : Nat) (h : Qj t i = some (.p (.slice none 0 0))) : KE E ⟨t, H, nx⟩ ⟨(i, .own nx 0) :: t, (nx, .arr te k []) :: H, nx + 1⟩ := fun c a hr => by
 obtain ⟨c', e1, e2, hle, e4, e5, hr'⟩ := hr.new (Nat.le_of_ble_eq_true hB) (Bel.refl c.w) (.slice none 0 0) (.arr te k []) (fun c' e1 e2 hle => .arr _ te k [] [] (World.ownsRow_nil _ 0 te k) (by simp) (by simp) (fun b hb => by simp [Xj] at hb)) (fun b hb => by simp [Xj] at hb);refine ⟨c', e1, { hr' with tmps := fun j => ?_ }⟩
 have hj := hr'.tmps j
 show VR c' _ ((Qj ((i, AV.own nx 0) :: t) j).getD .bot)
 rw [QA]
 split
 ·rename_i e
  subst e
  have hj : VR c' _ ((Qj t j).getD .bot) := hj
  rw [h] at hj
  have hp : a.tmps.getD j undef = .slice none 0 0 := hj.p_inv
  rw [hp];refine .own _ _ _ e4 (fun A n' cap hh => ?_);rw [show c'.V nx = some (.slice none 0 0) from e5] at hh
  cases hh
  exact ⟨Nat.le_refl _, fun _ => rfl⟩
 ·exact hj
theorem Js.append_own (hr : Js E c a st) {q : Nat} {t te : TypeId} {k bytes : Nat} [hT : QbA P t te k bytes] (ty : TypeId) {es es' : List (List AV)} (hq : Qj st.H q = some (.arr te k es)) {v sv : Value} (hv : VR c v (.own q es.length)) (hs : FR c.w c.S sv (.sl es' none))
  (hk' : es'.all (okE k) = true) (hb : (es.length + es'.length) * bytes ≤ 140737488355328) (h63 : es.length + es'.length ≤ 9223372036854775807) :
  ∃ (v' : Value) (c' : Cx), (Builtin.append_ #[t, t] ty #[v, sv]).run P c.w = .ok v' c'.w ∧ Js E c' a (st.set q (.arr te k (es ++ es'))) ∧ VR c' v' (.own q (es.length + es'.length)) := by
 obtain ⟨hkq, v0, hv0, hor, hwr⟩ := hr.live q _ hq;obtain ⟨A, cc, rfl, news, hn1, hn2, hn3, hn4⟩ := hs.news hk'
 cases hor with
 | arr _ _ _ _ xs hown hek hxs hS =>
  obtain ⟨A0, cap0, hA0⟩ := KR hown
  have hvv : v = v0 := by
   cases hv with
   | fr _ _ h => cases h
   | own _ _ _ hK hV => rw [(hV A0 _ cap0 (by rw [hv0, hA0])).2 rfl, hA0]
  subst hvv
  have hE' : ∀ e ∈ es', e.length = k := fun e he => by
   have := List.all_eq_true.1 hk' e he
   simp only [okE, Bool.and_eq_true, beq_iff_eq] at this
   exact this.1
  obtain ⟨v', w', r1, r2, r3, r4, r5, r6, r7, ⟨A', cap', r8⟩, r9⟩ := Qbd (P := P) c.w (t := t) ty hown hn1 hn2 hn4 hb h63
  have hlt : ∀ b, Xj v' = some b → b < w'.heap.size := fun b hb => Wi r2 hb
  obtain ⟨c', e1, e2, hle, e4, e5, hr'⟩ := hr.upd hq (w' := w') (S' := c.S) hv0 (.arr te k (es ++ es')) (v' := v') r3 r4 r5 r6
   (fun b hb hne => by
    rcases r7 with ⟨_, e2⟩ | ⟨_, e2⟩
    ·exact e2 b hb hne
    exact e2 b hb)
   (fun b off hs => ⟨hs, by
    have hbl := hr.Ssz b off hs
    rcases r7 with ⟨_, e2⟩ | ⟨_, e2⟩
    ·exact World.cell?_of_block (a := ⟨b, off, none⟩) (e2 b hbl (fun e => hS b e off hs))
    exact World.cell?_of_block (a := ⟨b, off, none⟩) (e2 b hbl)⟩)
   (fun b off hs => .inl hs)
   (by
    rcases r7 with ⟨e1, _⟩ | ⟨e1, _⟩
    ·exact .inl e1
    exact .inr (fun b hb => by rw [e1] at hb; cases hb; exact Nat.le_refl _))
   (by
    rcases Nat.eq_zero_or_pos es'.length with h0 | h0
    ·rw [r9 h0]; exact .refl _
    exact .inr (.inr ⟨A0, es.length, cap0, A', _, cap', by rw [hA0], by rw [r8], by omega⟩))
   (fun c' e1 e2 hle => .arr v' te k (es ++ es') (xs ++ news) (by rw [e1, List.length_append]; exact r2) (fun e he => by
     rcases List.mem_append.1 he with he | he
     ·exact hek e he
     exact hE' e he)
    (fun i u x hi hx => by
     have hfl := Qfk hek
     rw [List.flatten_append] at hx
     rcases Nat.lt_or_ge i xs.length with h | h
     ·rw [List.getElem?_append_left h] at hi
      rw [List.getElem?_append_left (by rw [hfl, ← hown.1]; exact h)] at hx;exact (hxs i u x hi hx).mono hle
     rw [List.getElem?_append_right h] at hi;rw [List.getElem?_append_right (by rw [hfl, ← hown.1]; exact h), hfl, ← hown.1] at hx
     exact .fr _ _ ((hn3 _ u x hi hx).mono hle.S))
    (fun b hb off hs => by
     rw [e2] at hs
     rcases r7 with ⟨f1, _⟩ | ⟨f1, _⟩
     ·exact hS b (f1 ▸ hb) off hs
     rw [f1] at hb; cases hb
     exact Nat.lt_irrefl _ (hr.Ssz _ _ hs)))
  refine ⟨v', c', by rw [e1]; exact r1, hr', .own _ _ _ e4 (fun A2 n2 cap2 hh => ?_)⟩;rw [e5] at hh
  have hh : v' = .slice A2 n2 cap2 := Option.some.inj hh
  rw [r8] at hh
  have hn2 : es.length + es'.length = n2 := (Value.slice.inj hh).2.1
  exact ⟨by omega, fun _ => by rw [r8, hh]⟩
variable {Q : Exit → St → Prop} {ops : Array Oper} {o : Oper} {rest : List Oper} {t : List (Nat × AV)} {H : List (Nat × Qs)} {nx N d : Nat} {w : Bool}
theorem QS (hN : E.N = N) {sx x : Operand} {tt : TypeId} (ho : o.op = .call { callee := .builtin .append, args := #[sx, x], argTypes := #[tt, tt] }) {te : TypeId} {k bytes : Nat} [hT : QbA P tt te k bytes]
  {es : List (List AV)} {q n : Nat} (hs : Jj ⟨t, H, nx⟩ sx = some (.own q n)) (hq : Qj H q = some (.arr te k es)) (hn : n = es.length) {ax : AV} (hx : Jj ⟨t, H, nx⟩ x = some ax) {es' : List (List AV)} (hax : Qrt ax = some es')
  (hk' : es'.all (okE k) = true) (hb : (es.length + es'.length) * bytes ≤ 140737488355328 ∧ es.length + es'.length ≤ 9223372036854775807) (hg : Qr ops ⟨t, H, nx⟩ o = some w) (hw : w = true) (hd : o.dst = some d) (hdN : Nat.blt d N = true)
  (h : Q3 P E ops rest Q ⟨(d, .own q (n + es'.length)) :: t, (q, .arr te k (es ++ es')) :: H, nx⟩) : Q3 P E ops (o :: rest) Q ⟨t, H, nx⟩ := by
 subst hw hn
 refine Qbu (.own q (es.length + es'.length)) (St.set ⟨t, H, nx⟩ q (.arr te k (es ++ es'))) hg (dlt hN hd hdN) (fun c a hr => ?_) (by rw [hd]; exact h)
 have hvs := hr.ev sx
 rw [Q5 hs] at hvs
 have hvx := hr.ev x
 rw [Q5 hx] at hvx;obtain ⟨v', c', h1, h2, h3⟩ := hr.append_own (P := P) (t := tt) o.type hq hvs (Ql8 hvx hax) hk' hb.1 hb.2;exact ⟨v', c', by simp [execOp, ho, resolve, invoke, builtin, h1], h2, h3⟩
end
section
variable {P : Program} {E : Jp} {Q : Exit → St → Prop} {ops : Array Oper} {o : Oper} {rest : List Oper} {t : List (Nat × AV)} {H : List (Nat × Qs)} {nx N d : Nat} {st : St} {K : St → Prop} {w : Bool} {x : Operand} {r : AV}
theorem zD {id : Nat} {l : List Oper} (n : Nat) (h : JR P E l.toArray (Q3 P E l.toArray (l.drop n) Q) (l.take n) st) (hm : P.follows .mixedOrders = true := by kernel_rfl) (hB : Region.lexTailB .any l.toArray n = true := by kernel_rfl) : Ym P E (.region id l.toArray true) Q st := Qpy n hm hB h
theorem X5 {k : IntKind} {a b : Int} (h : a = b := by dsimp only; omega) : some (AV.p (.int k a)) = some (AV.p (.int k b)) := Y6 h
theorem zN {y : Code} (h : Ym P E y Q st) : Q3 P E ops [] (QeJ (Ym P E y Q) Q) st := Qb h
theorem zG {id : Nat} {l : List Oper} {y : Code} (h : Q3 P E l.toArray l (QeJ (Ym P E y Q) Q) st) : Ym P E (.seq (.region id l.toArray false) y) Q st := Qgi (Qhw h)
theorem zM {x : Operand} {r : AV} (h : Q3 P E ops rest Q ⟨(d, r) :: t, H, nx⟩) (ho : o.op = .move x := by rfl) (hN : E.N = N := by assumption) (hx : Jj ⟨t, H, nx⟩ x = some r := by rfl) (hg : Qr ops ⟨t, H, nx⟩ o = some true := by rfl) (hd : o.dst = some d := by rfl) (hdN : Nat.blt d N = true := by rfl) : Q3 P E ops (o :: rest) Q ⟨t, H, nx⟩ := Qb8 hN (Qfv ho hx) hg rfl hd hdN h
theorem zS {x : Operand} {r : AV} (h : Q3 P E ops rest Q ⟨(d, r) :: t, H, nx⟩) (ho : o.op = .assign x := by rfl) (hN : E.N = N := by assumption) (hx : Jj ⟨t, H, nx⟩ x = some r := by rfl) (hg : Qr ops ⟨t, H, nx⟩ o = some true := by rfl) (hd : o.dst = some d := by rfl) (hdN : Nat.blt d N = true := by rfl) : Q3 P E ops (o :: rest) Q ⟨t, H, nx⟩ := Qb8 hN (JC ho hx) hg rfl hd hdN h
theorem zP {x : AV} (hy : PY P E o ⟨t, H, nx⟩ x) (h : Q3 P E ops rest Q ⟨(d, x) :: t, H, nx⟩) (hN : E.N = N := by assumption) (hg : Qr ops ⟨t, H, nx⟩ o = some true := by rfl) (hd : o.dst = some d := by rfl) (hdN : Nat.blt d N = true := by rfl) : Q3 P E ops (o :: rest) Q ⟨t, H, nx⟩ := Qb8 hN hy hg rfl hd hdN h
theorem zm {x : Operand} {r : AV} (h : JR P E ops K rest ⟨(d, r) :: t, H, nx⟩) (ho : o.op = .move x := by rfl) (hN : E.N = N := by assumption) (hx : Jj ⟨t, H, nx⟩ x = some r := by rfl) (hg : Qr ops ⟨t, H, nx⟩ o = some true := by rfl) (hd : o.dst = some d := by rfl) (hdN : Nat.blt d N = true := by rfl) : JR P E ops K (o :: rest) ⟨t, H, nx⟩ := Qbl hN (Qfv ho hx) hg rfl hd hdN h
theorem zp {x : AV} (hy : PY P E o ⟨t, H, nx⟩ x) (h : JR P E ops K rest ⟨(d, x) :: t, H, nx⟩) (hN : E.N = N := by assumption) (hg : Qr ops ⟨t, H, nx⟩ o = some true := by rfl) (hd : o.dst = some d := by rfl) (hdN : Nat.blt d N = true := by rfl) : JR P E ops K (o :: rest) ⟨t, H, nx⟩ := Qbl hN hy hg rfl hd hdN h
theorem zR {ts : List Nat} {r res : AV} {st : St} (hr : r = res) (hQ : Q .ret st = ((Q7 st ts).fzt = some res) := by rfl) (h : (Q7 st ts).fzt = some r := by rfl) : Ym P E .ret Q st := Qg (by rw [hQ, h, hr])
theorem zQ {ts : List Nat} {r res : AV} {st : St} (hr : r = res) (hQ : Q .ret st = ((Q7 st ts).fzt = some res) := by rfl) (h : (Q7 st ts).fzt = some r := by rfl) : Q3 P E ops [] (QeJ (Ym P E .ret Q) Q) st := Qb (Qg (by rw [hQ, h, hr]))
theorem zL {tt : TypeId} {x : Operand} {n : Nat} {row : Bool} {ax : AV} {cs : List AV} {r : AV} (h : Q3 P E ops rest Q ⟨(d, r) :: t, H, nx⟩) (ho : o.op = .load tt x := by rfl) (hN : E.N = N := by assumption) (hT : X1 P tt n row := by infer_instance) (hx : Jj ⟨t, H, nx⟩ x = some ax := by rfl) (hc : St.at_ ⟨t, H, nx⟩ ax = some cs := by rfl) (hl : Wl row n cs = some r := by rfl) (hn : Nat.blt 0 n = true := by rfl) (hg : Qr ops ⟨t, H, nx⟩ o = some true := by rfl) (hd : o.dst = some d := by rfl) (hdN : Nat.blt d N = true := by rfl) : Q3 P E ops (o :: rest) Q ⟨t, H, nx⟩ := Qb8 hN (QbE ho hx hc hl hn) hg rfl hd hdN h
theorem zl {tt : TypeId} {x : Operand} {n : Nat} {row : Bool} {ax : AV} {cs : List AV} {r : AV} (h : JR P E ops K rest ⟨(d, r) :: t, H, nx⟩) (ho : o.op = .load tt x := by rfl) (hN : E.N = N := by assumption) (hT : X1 P tt n row := by infer_instance) (hx : Jj ⟨t, H, nx⟩ x = some ax := by rfl) (hc : St.at_ ⟨t, H, nx⟩ ax = some cs := by rfl) (hl : Wl row n cs = some r := by rfl) (hn : Nat.blt 0 n = true := by rfl) (hg : Qr ops ⟨t, H, nx⟩ o = some true := by rfl) (hd : o.dst = some d := by rfl) (hdN : Nat.blt d N = true := by rfl) : JR P E ops K (o :: rest) ⟨t, H, nx⟩ := Qbl hN (QbE ho hx hc hl hn) hg rfl hd hdN h
theorem zE {x : AV} (h : Q3 P E ops rest Q ⟨(d, x) :: t, H, nx⟩) (hN : E.N = N := by assumption) (hy : PY P E o ⟨t, H, nx⟩ x := by first | exact Qqh rfl rfl | exact Qfr rfl rfl | exact QjF rfl rfl) (hg : Qr ops ⟨t, H, nx⟩ o = some true := by rfl) (hd : o.dst = some d := by rfl) (hdN : Nat.blt d N = true := by rfl) : Q3 P E ops (o :: rest) Q ⟨t, H, nx⟩ := Qb8 hN hy hg rfl hd hdN h
theorem zB {op : BinOp} {tt ty : TypeId} {x y : Operand} {u u' v : Value} (h : Q3 P E ops rest Q ⟨(d, .p v) :: t, H, nx⟩) (ho : o.op = .binOp op tt x y ty := by rfl) (hN : E.N = N := by assumption) (hx : Jj ⟨t, H, nx⟩ x = some (.p u) := by rfl) (hy : Jj ⟨t, H, nx⟩ y = some (.p u') := by rfl) (hb : QaC P tt op u u' v := by infer_instance) (hg : Qr ops ⟨t, H, nx⟩ o = some true := by rfl) (hd : o.dst = some d := by rfl) (hdN : Nat.blt d N = true := by rfl) : Q3 P E ops (o :: rest) Q ⟨t, H, nx⟩ := Qb8 hN (QiO ho hx hy) hg rfl hd hdN h
theorem zC {tt : TypeId} {x y : Operand} {n : Nat} {row : Bool} {q off : Nat} {t' : TypeId} {cs : List AV} {ay : AV} {ys cs' : List AV} (h : Q3 P E ops rest Q ⟨t, (q, .var t' cs') :: H, nx⟩) (ho : o.op = .store tt x y := by rfl) (hT : X1 P tt n row := by infer_instance) (hx : Jj ⟨t, H, nx⟩ x = some (.ptr q off) := by rfl) (hq : Qj H q = some (.var t' cs) := by rfl) (hy : Jj ⟨t, H, nx⟩ y = some ay := by rfl) (hc : St.cells1 ⟨t, H, nx⟩ ay = some ys := by rfl) (hn : ys.length = n := by rfl) (hle : off + ys.length ≤ cs.length := by exact Nat.le_of_ble_eq_true rfl) (hg : Qr ops ⟨t, H, nx⟩ o = some true := by rfl) (hd : o.dst = none := by rfl) (hs : Yx cs off ys = cs' := by rfl) : Q3 P E ops (o :: rest) Q ⟨t, H, nx⟩ := Qcp ho hx hq hy hc hn hle hg rfl hd hs h
theorem zX {tt : TypeId} {x : Operand} {ax : AV} {cs : List AV} (h : Q3 P E ops rest Q ⟨(d, .ptr nx 0) :: t, (nx, .var tt cs) :: H, nx + 1⟩) (hN : E.N = N := by assumption) (hB : Nat.blt nx Qe = true := by rfl) (ho : o.op = .box tt x := by rfl) (hx : Jj ⟨t, H, nx⟩ x = some ax := by rfl) (hc : St.cells1 ⟨t, H, nx⟩ ax = some cs := by rfl) (hg : Qr ops ⟨t, H, nx⟩ o = some true := by rfl) (hd : o.dst = some d := by rfl) (hdN : Nat.blt d N = true := by rfl) : Q3 P E ops (o :: rest) Q ⟨t, H, nx⟩ := Qv6 hN hB ho hx hc hg rfl hd hdN h
theorem zO {tt : TypeId} {zs : List Value} (h : Q3 P E ops rest Q ⟨(d, .ptr nx 0) :: t, (nx, .var tt (zs.map .p)) :: H, nx + 1⟩) (hN : E.N = N := by assumption) (hB : Nat.blt nx Qe = true := by rfl) (ho : o.op = .alloc tt := by rfl) (hz : Xa P tt zs := by infer_instance) (hg : Qr ops ⟨t, H, nx⟩ o = some true := by rfl) (hd : o.dst = some d := by rfl) (hdN : Nat.blt d N = true := by rfl) : Q3 P E ops (o :: rest) Q ⟨t, H, nx⟩ := Qts hN hB ho hg rfl hd hdN h
theorem zT {y : Code} (h : Ym P E y Q ⟨(d, r) :: t, H, nx⟩) (ho : o.op = .assign x := by rfl) (hN : E.N = N := by assumption) (hx : Jj ⟨t, H, nx⟩ x = some r := by rfl) (hg : Qr ops ⟨t, H, nx⟩ o = some true := by rfl) (hd : o.dst = some d := by rfl) (hdN : Nat.blt d N = true := by rfl) : Q3 P E ops [o] (QeJ (Ym P E y Q) Q) ⟨t, H, nx⟩ := zS (zN h) ho hN hx hg hd hdN
theorem zW {y : Code} (h : Ym P E y Q st) : Ym P E .skip (QeJ (Ym P E y Q) Q) st := QO h
theorem uP {v : AV} (hw : w = true) (hy : PY P E o ⟨t, H, nx⟩ v) (h : Q3 P E ops rest Q ⟨(d, v) :: t, H, nx⟩) (hN : E.N = N := by assumption) (hg : Qr ops ⟨t, H, nx⟩ o = some w := by rfl) (hd : o.dst = some d := by rfl) (hdN : Nat.blt d N = true := by rfl) : Q3 P E ops (o :: rest) Q ⟨t, H, nx⟩ := Qb8 hN hy hg hw hd hdN h
theorem vP {v : AV} (hw : w = true) (hy : PY P E o ⟨t, H, nx⟩ v) (h : JR P E ops K rest ⟨(d, v) :: t, H, nx⟩) (hN : E.N = N := by assumption) (hg : Qr ops ⟨t, H, nx⟩ o = some w := by rfl) (hd : o.dst = some d := by rfl) (hdN : Nat.blt d N = true := by rfl) : JR P E ops K (o :: rest) ⟨t, H, nx⟩ := Qbl hN hy hg hw hd hdN h
theorem zq {thn els : Code} {b : Bool} (h1 : b = true → Ym P E thn Q st) (h2 : b = false → Ym P E els Q st) (hc : Jj st x = some (.p (.bool b)) := by rfl) : Ym P E (.cond x thn els) Q st := Qvj hc h1 h2
theorem zc (i : Nat) {b : Bool} (h1 : b = true → Q3 P E ops rest Q ⟨t, H, nx⟩) (h2 : b = false → Q3 P E ops rest Q ⟨t, H, nx⟩) (hl : Qj t i = some (.p (.bool b)) := by rfl) : Q3 P E ops rest Q ⟨t, H, nx⟩ := QuM i hl h1 h2
theorem zd (i : Nat) {b : Bool} (h1 : b = true → JR P E ops K rest ⟨t, H, nx⟩) (h2 : b = false → JR P E ops K rest ⟨t, H, nx⟩) (hl : Qj t i = some (.p (.bool b)) := by rfl) : JR P E ops K rest ⟨t, H, nx⟩ := QuK i hl h1 h2
theorem Jq {α : Type} {code : Code} (i : Nat) {f : α → List AV} {l : List α} {tk : Option Nat} (h : Qj st.t i = some (.sl (l.map f) tk)) (hk : l.length ≤ 2 ^ 63 - 1 → Ym P E code Q st) : Ym P E code Q st := QvM i h fun hl => hk (by rw [List.length_map] at hl; exact hl)
end
section
variable {α β : Type} {a a' b b' c c' d d' e e' f f' : α} {m m' n n' o o' p p' q q' r r' : β} {P : Prop}
theorem XE (h : P) (h1 : a = a' := by rfl) (k1 : m = m' := by rfl) : a = a' ∧ m = m' ∧ P := ⟨h1, k1, h⟩
theorem Yf (h : P) (h1 : a = a' := by rfl) (k1 : m = m' := by rfl) (h2 : b = b' := by rfl) (k2 : n = n' := by rfl) : a = a' ∧ m = m' ∧ b = b' ∧ n = n' ∧ P := ⟨h1, k1, h2, k2, h⟩
theorem JZ (h : P) (h1 : a = a' := by rfl) (k1 : m = m' := by rfl) (h2 : b = b' := by rfl) (k2 : n = n' := by rfl) (h3 : c = c' := by rfl) (k3 : o = o' := by rfl) : a = a' ∧ m = m' ∧ b = b' ∧ n = n' ∧ c = c' ∧ o = o' ∧ P := ⟨h1, k1, h2, k2, h3, k3, h⟩
theorem YO (h : P) (h1 : a = a' := by rfl) (k1 : m = m' := by rfl) (h2 : b = b' := by rfl) (k2 : n = n' := by rfl) (h3 : c = c' := by rfl) (k3 : o = o' := by rfl) (h4 : d = d' := by rfl) (k4 : p = p' := by rfl) : a = a' ∧ m = m' ∧ b = b' ∧ n = n' ∧ c = c' ∧ o = o' ∧ d = d' ∧ p = p' ∧ P := ⟨h1, k1, h2, k2, h3, k3, h4, k4, h⟩
end
section
variable {P : Program} {E : Jp} {Q : Exit → St → Prop} {ops : Array Oper} {o : Oper} {rest : List Oper} {t : List (Nat × AV)} {H : List (Nat × Qs)} {nx N d : Nat} {K : St → Prop} {w : Bool}
theorem kM {x : Operand} {r : AV} (h : Q3 P E ops rest Q ⟨(d, r) :: t, H, nx⟩) (ho : o.op = .move x := by rfl) (hN : E.N = N := by assumption) (hx_ : Jj ⟨t, H, nx⟩ x = some r := by rfl) (hg : Qr ops ⟨t, H, nx⟩ o = some w := by rfl) (hw : w = true := by first | rfl | exact XO ‹_› | exact X0 ‹_› | exact XO (m0 ‹_›) | exact X0 (m1 ‹_›) | exact XO (n0 ‹_›) | exact X0 (n1 ‹_›)) (hd : o.dst = some d := by rfl) (hdN : Nat.blt d N = true := by rfl) : Q3 P E ops (o :: rest) Q ⟨t, H, nx⟩ := Qb8 hN (Qfv ho hx_) hg hw hd hdN h
theorem kS {x : Operand} {r : AV} (h : Q3 P E ops rest Q ⟨(d, r) :: t, H, nx⟩) (ho : o.op = .assign x := by rfl) (hN : E.N = N := by assumption) (hx_ : Jj ⟨t, H, nx⟩ x = some r := by rfl) (hg : Qr ops ⟨t, H, nx⟩ o = some w := by rfl) (hw : w = true := by first | rfl | exact XO ‹_› | exact X0 ‹_› | exact XO (m0 ‹_›) | exact X0 (m1 ‹_›) | exact XO (n0 ‹_›) | exact X0 (n1 ‹_›)) (hd : o.dst = some d := by rfl) (hdN : Nat.blt d N = true := by rfl) : Q3 P E ops (o :: rest) Q ⟨t, H, nx⟩ := Qb8 hN (JC ho hx_) hg hw hd hdN h
theorem kL {tt n : Nat} {row : Bool} {x : Operand} {ax r : AV} {cs : List AV} (h : Q3 P E ops rest Q ⟨(d, r) :: t, H, nx⟩) (ho : o.op = .load tt x := by rfl) (hN : E.N = N := by assumption) (hT : X1 P tt n row := by infer_instance) (hx_ : Jj ⟨t, H, nx⟩ x = some ax := by rfl) (hc : St.at_ ⟨t, H, nx⟩ ax = some cs := by rfl) (hl : Wl row n cs = some r := by rfl) (hn : Nat.blt 0 n = true := by rfl) (hg : Qr ops ⟨t, H, nx⟩ o = some w := by rfl) (hw : w = true := by first | rfl | exact XO ‹_› | exact X0 ‹_› | exact XO (m0 ‹_›) | exact X0 (m1 ‹_›) | exact XO (n0 ‹_›) | exact X0 (n1 ‹_›)) (hd : o.dst = some d := by rfl) (hdN : Nat.blt d N = true := by rfl) : Q3 P E ops (o :: rest) Q ⟨t, H, nx⟩ := Qb8 hN (QbE ho hx_ hc hl hn) hg hw hd hdN h
theorem kF {s f off n : Nat} {row : Bool} {x : Operand} {ax c r : AV} {cs : List AV} (h : Q3 P E ops rest Q ⟨(d, r) :: t, H, nx⟩) (ho : o.op = .fieldAddr s x f := by rfl) (hN : E.N = N := by assumption) (hT : QU P s f off n row := by infer_instance) (hx_ : Jj ⟨t, H, nx⟩ x = some ax := by rfl) (hc : St.at_ ⟨t, H, nx⟩ ax = some (c :: cs) := by rfl) (hm : moved off ax = some r := by rfl) (hg : Qr ops ⟨t, H, nx⟩ o = some w := by rfl) (hw : w = true := by first | rfl | exact XO ‹_› | exact X0 ‹_› | exact XO (m0 ‹_›) | exact X0 (m1 ‹_›) | exact XO (n0 ‹_›) | exact X0 (n1 ‹_›)) (hd : o.dst = some d := by rfl) (hdN : Nat.blt d N = true := by rfl) : Q3 P E ops (o :: rest) Q ⟨t, H, nx⟩ := Qb8 hN (QfL ho hx_ hc hm) hg hw hd hdN h
theorem kB {op : BinOp} {tt ty : TypeId} {x y : Operand} {u u' v : Value} (h : Q3 P E ops rest Q ⟨(d, .p v) :: t, H, nx⟩) (ho : o.op = .binOp op tt x y ty := by rfl) (hN : E.N = N := by assumption) (hx_ : Jj ⟨t, H, nx⟩ x = some (.p u) := by rfl) (hy_ : Jj ⟨t, H, nx⟩ y = some (.p u') := by rfl) (hb : QaC P tt op u u' v := by infer_instance) (hg : Qr ops ⟨t, H, nx⟩ o = some w := by rfl) (hw : w = true := by first | rfl | exact XO ‹_› | exact X0 ‹_› | exact XO (m0 ‹_›) | exact X0 (m1 ‹_›) | exact XO (n0 ‹_›) | exact X0 (n1 ‹_›)) (hd : o.dst = some d := by rfl) (hdN : Nat.blt d N = true := by rfl) : Q3 P E ops (o :: rest) Q ⟨t, H, nx⟩ := Qb8 hN (QiO ho hx_ hy_) hg hw hd hdN h
theorem kA {tt ty : TypeId} {x y : Operand} {a b : Int} (h : Q3 P E ops rest Q ⟨(d, .p (.int .i64 (a + b))) :: t, H, nx⟩) (ho : o.op = .binOp .add tt x y ty := by rfl) (hN : E.N = N := by assumption) (hx_ : Jj ⟨t, H, nx⟩ x = some (.p (.int .i64 a)) := by rfl) (hy_ : Jj ⟨t, H, nx⟩ y = some (.p (.int .i64 b)) := by rfl) (hr : -9223372036854775808 ≤ a + b ∧ a + b ≤ 9223372036854775807 := by omega) (hg : Qr ops ⟨t, H, nx⟩ o = some w := by rfl) (hw : w = true := by first | rfl | exact XO ‹_› | exact X0 ‹_› | exact XO (m0 ‹_›) | exact X0 (m1 ‹_›) | exact XO (n0 ‹_›) | exact X0 (n1 ‹_›)) (hd : o.dst = some d := by rfl) (hdN : Nat.blt d N = true := by rfl) : Q3 P E ops (o :: rest) Q ⟨t, H, nx⟩ := Qb8 hN (Kr ho hx_ hy_ hr) hg hw hd hdN h
theorem kX {x : Operand} {i : Nat} {xs : List AV} {r : AV} (h : Q3 P E ops rest Q ⟨(d, r) :: t, H, nx⟩) (ho : o.op = .extract x i := by rfl) (hN : E.N = N := by assumption) (hx_ : Jj ⟨t, H, nx⟩ x = some (.tup xs) := by rfl) (hi : xs[i]? = some r := by rfl) (hg : Qr ops ⟨t, H, nx⟩ o = some w := by rfl) (hw : w = true := by first | rfl | exact XO ‹_› | exact X0 ‹_› | exact XO (m0 ‹_›) | exact X0 (m1 ‹_›) | exact XO (n0 ‹_›) | exact X0 (n1 ‹_›)) (hd : o.dst = some d := by rfl) (hdN : Nat.blt d N = true := by rfl) : Q3 P E ops (o :: rest) Q ⟨t, H, nx⟩ := Qb8 hN (QiT ho hx_ hi) hg hw hd hdN h
theorem kN {tt : TypeId} {x : Operand} {b : Bool} (h : Q3 P E ops rest Q ⟨(d, .p (.bool (!b))) :: t, H, nx⟩) (ho : o.op = .unOp .not tt x := by rfl) (hN : E.N = N := by assumption) (hx_ : Jj ⟨t, H, nx⟩ x = some (.p (.bool b)) := by rfl) (hg : Qr ops ⟨t, H, nx⟩ o = some w := by rfl) (hw : w = true := by first | rfl | exact XO ‹_› | exact X0 ‹_› | exact XO (m0 ‹_›) | exact X0 (m1 ‹_›) | exact XO (n0 ‹_›) | exact X0 (n1 ‹_›)) (hd : o.dst = some d := by rfl) (hdN : Nat.blt d N = true := by rfl) : Q3 P E ops (o :: rest) Q ⟨t, H, nx⟩ := Qb8 hN (Qt8 ho hx_) hg hw hd hdN h
theorem k0 {q x y : Operand} {b : Bool} {r : AV} (h : Q3 P E ops rest Q ⟨(d, r) :: t, H, nx⟩) (ho : o.op = .pick q x y := by rfl) (hN : E.N = N := by assumption) (hq_ : Jj ⟨t, H, nx⟩ q = some (.p (.bool b)) := by rfl) (hb : b = false := by first | rfl | assumption | exact m1 ‹_› | exact n1 ‹_›) (hy_ : Jj ⟨t, H, nx⟩ y = some r := by rfl) (hg : Qr ops ⟨t, H, nx⟩ o = some w := by rfl) (hw : w = true := by first | rfl | exact XO ‹_› | exact X0 ‹_› | exact XO (m0 ‹_›) | exact X0 (m1 ‹_›) | exact XO (n0 ‹_›) | exact X0 (n1 ‹_›)) (hd : o.dst = some d := by rfl) (hdN : Nat.blt d N = true := by rfl) : Q3 P E ops (o :: rest) Q ⟨t, H, nx⟩ := Qb8 hN (Xx ho hq_ hb hy_) hg hw hd hdN h
theorem k1 {q x y : Operand} {b : Bool} {r : AV} (h : Q3 P E ops rest Q ⟨(d, r) :: t, H, nx⟩) (ho : o.op = .pick q x y := by rfl) (hN : E.N = N := by assumption) (hq_ : Jj ⟨t, H, nx⟩ q = some (.p (.bool b)) := by rfl) (hb : b = true := by first | rfl | assumption | exact m0 ‹_› | exact n0 ‹_›) (hx_ : Jj ⟨t, H, nx⟩ x = some r := by rfl) (hg : Qr ops ⟨t, H, nx⟩ o = some w := by rfl) (hw : w = true := by first | rfl | exact XO ‹_› | exact X0 ‹_› | exact XO (m0 ‹_›) | exact X0 (m1 ‹_›) | exact XO (n0 ‹_›) | exact X0 (n1 ‹_›)) (hd : o.dst = some d := by rfl) (hdN : Nat.blt d N = true := by rfl) : Q3 P E ops (o :: rest) Q ⟨t, H, nx⟩ := Qb8 hN (XF ho hq_ hb hx_) hg hw hd hdN h
theorem kE {r : AV} (h : Q3 P E ops rest Q ⟨(d, r) :: t, H, nx⟩) (hN : E.N = N := by assumption) (hy : PY P E o ⟨t, H, nx⟩ r := by first | exact Qqh rfl rfl | exact Qfr rfl rfl | exact QjF rfl rfl) (hg : Qr ops ⟨t, H, nx⟩ o = some w := by rfl) (hw : w = true := by first | rfl | exact XO ‹_› | exact X0 ‹_› | exact XO (m0 ‹_›) | exact X0 (m1 ‹_›) | exact XO (n0 ‹_›) | exact X0 (n1 ‹_›)) (hd : o.dst = some d := by rfl) (hdN : Nat.blt d N = true := by rfl) : Q3 P E ops (o :: rest) Q ⟨t, H, nx⟩ := Qb8 hN hy hg hw hd hdN h
theorem kK (h : Q3 P E ops rest Q ⟨(d, .p undef) :: t, H, nx⟩) (hN : E.N = N := by assumption) (hg : Qr ops ⟨t, H, nx⟩ o = some w := by rfl) (hw : w = false := by first | rfl | exact w01 ‹_› | exact w10 ‹_› | exact w01 (m1 ‹_›) | exact w10 (m0 ‹_›) | exact w01 (n1 ‹_›) | exact w10 (n0 ‹_›)) (hd : o.dst = some d := by rfl) (hdN : Nat.blt d N = true := by rfl) : Q3 P E ops (o :: rest) Q ⟨t, H, nx⟩ := QuV hN hg hw hd hdN h
theorem jM {x : Operand} {r : AV} (h : JR P E ops K rest ⟨(d, r) :: t, H, nx⟩) (ho : o.op = .move x := by rfl) (hN : E.N = N := by assumption) (hx_ : Jj ⟨t, H, nx⟩ x = some r := by rfl) (hg : Qr ops ⟨t, H, nx⟩ o = some w := by rfl) (hw : w = true := by first | rfl | exact XO ‹_› | exact X0 ‹_› | exact XO (m0 ‹_›) | exact X0 (m1 ‹_›) | exact XO (n0 ‹_›) | exact X0 (n1 ‹_›)) (hd : o.dst = some d := by rfl) (hdN : Nat.blt d N = true := by rfl) : JR P E ops K (o :: rest) ⟨t, H, nx⟩ := Qbl hN (Qfv ho hx_) hg hw hd hdN h
theorem jL {tt n : Nat} {row : Bool} {x : Operand} {ax r : AV} {cs : List AV} (h : JR P E ops K rest ⟨(d, r) :: t, H, nx⟩) (ho : o.op = .load tt x := by rfl) (hN : E.N = N := by assumption) (hT : X1 P tt n row := by infer_instance) (hx_ : Jj ⟨t, H, nx⟩ x = some ax := by rfl) (hc : St.at_ ⟨t, H, nx⟩ ax = some cs := by rfl) (hl : Wl row n cs = some r := by rfl) (hn : Nat.blt 0 n = true := by rfl) (hg : Qr ops ⟨t, H, nx⟩ o = some w := by rfl) (hw : w = true := by first | rfl | exact XO ‹_› | exact X0 ‹_› | exact XO (m0 ‹_›) | exact X0 (m1 ‹_›) | exact XO (n0 ‹_›) | exact X0 (n1 ‹_›)) (hd : o.dst = some d := by rfl) (hdN : Nat.blt d N = true := by rfl) : JR P E ops K (o :: rest) ⟨t, H, nx⟩ := Qbl hN (QbE ho hx_ hc hl hn) hg hw hd hdN h
theorem jF {s f off n : Nat} {row : Bool} {x : Operand} {ax c r : AV} {cs : List AV} (h : JR P E ops K rest ⟨(d, r) :: t, H, nx⟩) (ho : o.op = .fieldAddr s x f := by rfl) (hN : E.N = N := by assumption) (hT : QU P s f off n row := by infer_instance) (hx_ : Jj ⟨t, H, nx⟩ x = some ax := by rfl) (hc : St.at_ ⟨t, H, nx⟩ ax = some (c :: cs) := by rfl) (hm : moved off ax = some r := by rfl) (hg : Qr ops ⟨t, H, nx⟩ o = some w := by rfl) (hw : w = true := by first | rfl | exact XO ‹_› | exact X0 ‹_› | exact XO (m0 ‹_›) | exact X0 (m1 ‹_›) | exact XO (n0 ‹_›) | exact X0 (n1 ‹_›)) (hd : o.dst = some d := by rfl) (hdN : Nat.blt d N = true := by rfl) : JR P E ops K (o :: rest) ⟨t, H, nx⟩ := Qbl hN (QfL ho hx_ hc hm) hg hw hd hdN h
theorem jB {op : BinOp} {tt ty : TypeId} {x y : Operand} {u u' v : Value} (h : JR P E ops K rest ⟨(d, .p v) :: t, H, nx⟩) (ho : o.op = .binOp op tt x y ty := by rfl) (hN : E.N = N := by assumption) (hx_ : Jj ⟨t, H, nx⟩ x = some (.p u) := by rfl) (hy_ : Jj ⟨t, H, nx⟩ y = some (.p u') := by rfl) (hb : QaC P tt op u u' v := by infer_instance) (hg : Qr ops ⟨t, H, nx⟩ o = some w := by rfl) (hw : w = true := by first | rfl | exact XO ‹_› | exact X0 ‹_› | exact XO (m0 ‹_›) | exact X0 (m1 ‹_›) | exact XO (n0 ‹_›) | exact X0 (n1 ‹_›)) (hd : o.dst = some d := by rfl) (hdN : Nat.blt d N = true := by rfl) : JR P E ops K (o :: rest) ⟨t, H, nx⟩ := Qbl hN (QiO ho hx_ hy_) hg hw hd hdN h
theorem jA {tt ty : TypeId} {x y : Operand} {a b : Int} (h : JR P E ops K rest ⟨(d, .p (.int .i64 (a + b))) :: t, H, nx⟩) (ho : o.op = .binOp .add tt x y ty := by rfl) (hN : E.N = N := by assumption) (hx_ : Jj ⟨t, H, nx⟩ x = some (.p (.int .i64 a)) := by rfl) (hy_ : Jj ⟨t, H, nx⟩ y = some (.p (.int .i64 b)) := by rfl) (hr : -9223372036854775808 ≤ a + b ∧ a + b ≤ 9223372036854775807 := by omega) (hg : Qr ops ⟨t, H, nx⟩ o = some w := by rfl) (hw : w = true := by first | rfl | exact XO ‹_› | exact X0 ‹_› | exact XO (m0 ‹_›) | exact X0 (m1 ‹_›) | exact XO (n0 ‹_›) | exact X0 (n1 ‹_›)) (hd : o.dst = some d := by rfl) (hdN : Nat.blt d N = true := by rfl) : JR P E ops K (o :: rest) ⟨t, H, nx⟩ := Qbl hN (Kr ho hx_ hy_ hr) hg hw hd hdN h
theorem jX {x : Operand} {i : Nat} {xs : List AV} {r : AV} (h : JR P E ops K rest ⟨(d, r) :: t, H, nx⟩) (ho : o.op = .extract x i := by rfl) (hN : E.N = N := by assumption) (hx_ : Jj ⟨t, H, nx⟩ x = some (.tup xs) := by rfl) (hi : xs[i]? = some r := by rfl) (hg : Qr ops ⟨t, H, nx⟩ o = some w := by rfl) (hw : w = true := by first | rfl | exact XO ‹_› | exact X0 ‹_› | exact XO (m0 ‹_›) | exact X0 (m1 ‹_›) | exact XO (n0 ‹_›) | exact X0 (n1 ‹_›)) (hd : o.dst = some d := by rfl) (hdN : Nat.blt d N = true := by rfl) : JR P E ops K (o :: rest) ⟨t, H, nx⟩ := Qbl hN (QiT ho hx_ hi) hg hw hd hdN h
theorem jN {tt : TypeId} {x : Operand} {b : Bool} (h : JR P E ops K rest ⟨(d, .p (.bool (!b))) :: t, H, nx⟩) (ho : o.op = .unOp .not tt x := by rfl) (hN : E.N = N := by assumption) (hx_ : Jj ⟨t, H, nx⟩ x = some (.p (.bool b)) := by rfl) (hg : Qr ops ⟨t, H, nx⟩ o = some w := by rfl) (hw : w = true := by first | rfl | exact XO ‹_› | exact X0 ‹_› | exact XO (m0 ‹_›) | exact X0 (m1 ‹_›) | exact XO (n0 ‹_›) | exact X0 (n1 ‹_›)) (hd : o.dst = some d := by rfl) (hdN : Nat.blt d N = true := by rfl) : JR P E ops K (o :: rest) ⟨t, H, nx⟩ := Qbl hN (Qt8 ho hx_) hg hw hd hdN h
theorem j0 {q x y : Operand} {b : Bool} {r : AV} (h : JR P E ops K rest ⟨(d, r) :: t, H, nx⟩) (ho : o.op = .pick q x y := by rfl) (hN : E.N = N := by assumption) (hq_ : Jj ⟨t, H, nx⟩ q = some (.p (.bool b)) := by rfl) (hb : b = false := by first | rfl | assumption | exact m1 ‹_› | exact n1 ‹_›) (hy_ : Jj ⟨t, H, nx⟩ y = some r := by rfl) (hg : Qr ops ⟨t, H, nx⟩ o = some w := by rfl) (hw : w = true := by first | rfl | exact XO ‹_› | exact X0 ‹_› | exact XO (m0 ‹_›) | exact X0 (m1 ‹_›) | exact XO (n0 ‹_›) | exact X0 (n1 ‹_›)) (hd : o.dst = some d := by rfl) (hdN : Nat.blt d N = true := by rfl) : JR P E ops K (o :: rest) ⟨t, H, nx⟩ := Qbl hN (Xx ho hq_ hb hy_) hg hw hd hdN h
theorem j1 {q x y : Operand} {b : Bool} {r : AV} (h : JR P E ops K rest ⟨(d, r) :: t, H, nx⟩) (ho : o.op = .pick q x y := by rfl) (hN : E.N = N := by assumption) (hq_ : Jj ⟨t, H, nx⟩ q = some (.p (.bool b)) := by rfl) (hb : b = true := by first | rfl | assumption | exact m0 ‹_› | exact n0 ‹_›) (hx_ : Jj ⟨t, H, nx⟩ x = some r := by rfl) (hg : Qr ops ⟨t, H, nx⟩ o = some w := by rfl) (hw : w = true := by first | rfl | exact XO ‹_› | exact X0 ‹_› | exact XO (m0 ‹_›) | exact X0 (m1 ‹_›) | exact XO (n0 ‹_›) | exact X0 (n1 ‹_›)) (hd : o.dst = some d := by rfl) (hdN : Nat.blt d N = true := by rfl) : JR P E ops K (o :: rest) ⟨t, H, nx⟩ := Qbl hN (XF ho hq_ hb hx_) hg hw hd hdN h
theorem jE {r : AV} (h : JR P E ops K rest ⟨(d, r) :: t, H, nx⟩) (hN : E.N = N := by assumption) (hy : PY P E o ⟨t, H, nx⟩ r := by first | exact Qqh rfl rfl | exact Qfr rfl rfl | exact QjF rfl rfl) (hg : Qr ops ⟨t, H, nx⟩ o = some w := by rfl) (hw : w = true := by first | rfl | exact XO ‹_› | exact X0 ‹_› | exact XO (m0 ‹_›) | exact X0 (m1 ‹_›) | exact XO (n0 ‹_›) | exact X0 (n1 ‹_›)) (hd : o.dst = some d := by rfl) (hdN : Nat.blt d N = true := by rfl) : JR P E ops K (o :: rest) ⟨t, H, nx⟩ := Qbl hN hy hg hw hd hdN h
theorem jK (h : JR P E ops K rest ⟨(d, .p undef) :: t, H, nx⟩) (hN : E.N = N := by assumption) (hg : Qr ops ⟨t, H, nx⟩ o = some w := by rfl) (hw : w = false := by first | rfl | exact w01 ‹_› | exact w10 ‹_› | exact w01 (m1 ‹_›) | exact w10 (m0 ‹_›) | exact w01 (n1 ‹_›) | exact w10 (n0 ‹_›)) (hd : o.dst = some d := by rfl) (hdN : Nat.blt d N = true := by rfl) : JR P E ops K (o :: rest) ⟨t, H, nx⟩ := Qvb hN hg hw hd hdN h
theorem kI {x : Operand} {ax c : AV} {cs : List AV} (h : Q3 P E ops rest Q ⟨(d, ax) :: t, H, nx⟩) (ho : o.op = .nilCheck x := by rfl) (hN : E.N = N := by assumption) (hx_ : Jj ⟨t, H, nx⟩ x = some ax := by rfl) (hc : St.at_ ⟨t, H, nx⟩ ax = some (c :: cs) := by rfl) (hg : Qr ops ⟨t, H, nx⟩ o = some w := by rfl) (hw : w = true := by first | rfl | exact XO ‹_› | exact X0 ‹_› | exact XO (m0 ‹_›) | exact X0 (m1 ‹_›) | exact XO (n0 ‹_›) | exact X0 (n1 ‹_›)) (hd : o.dst = some d := by rfl) (hdN : Nat.blt d N = true := by rfl) : Q3 P E ops (o :: rest) Q ⟨t, H, nx⟩ := Qb8 hN (Qur ho hx_ hc) hg hw hd hdN h
theorem jI {x : Operand} {ax c : AV} {cs : List AV} (h : JR P E ops K rest ⟨(d, ax) :: t, H, nx⟩) (ho : o.op = .nilCheck x := by rfl) (hN : E.N = N := by assumption) (hx_ : Jj ⟨t, H, nx⟩ x = some ax := by rfl) (hc : St.at_ ⟨t, H, nx⟩ ax = some (c :: cs) := by rfl) (hg : Qr ops ⟨t, H, nx⟩ o = some w := by rfl) (hw : w = true := by first | rfl | exact XO ‹_› | exact X0 ‹_› | exact XO (m0 ‹_›) | exact X0 (m1 ‹_›) | exact XO (n0 ‹_›) | exact X0 (n1 ‹_›)) (hd : o.dst = some d := by rfl) (hdN : Nat.blt d N = true := by rfl) : JR P E ops K (o :: rest) ⟨t, H, nx⟩ := Qbl hN (Qur ho hx_ hc) hg hw hd hdN h
theorem kT {st : St} {x : Operand} {thn els : Code} {b : Bool} (h : Ym P E thn Q st) (hc : Jj st x = some (.p (.bool b)) := by rfl) (hb : b = true := by first | rfl | assumption | exact m0 ‹_› | exact n0 ‹_›) : Ym P E (.cond x thn els) Q st := QuP hc hb h
theorem kU {st : St} {x : Operand} {thn els : Code} {b : Bool} (h : Ym P E els Q st) (hc : Jj st x = some (.p (.bool b)) := by rfl) (hb : b = false := by first | rfl | assumption | exact m1 ‹_› | exact n1 ‹_›) : Ym P E (.cond x thn els) Q st := Qse hc hb h
end
structure Bx (q : Prop) : Prop where
 out : q
theorem JB {p q : Prop} (k : q) (h : Bx q → p := by intro hq; (first | refine Qgi ?_ | refine Qhw ?_ | refine kM ?_ | refine kS ?_ | refine zN ?_ | refine jM ?_ | refine kA ?_ | refine kB ?_ | refine kL ?_ | refine jL ?_ | refine kF ?_ | refine jF ?_ | refine kI ?_ | refine jI ?_ | refine k0 ?_ | refine k1 ?_ | refine kK ?_ | refine jK ?_ | refine jA ?_ | refine jB ?_ | refine kT ?_ | refine kU ?_ | refine zC ?_ | refine Qpm ?_ | refine zW ?_ | refine kX ?_ | refine kN ?_ | refine jX ?_ | refine jN ?_ | refine j0 ?_ | refine j1 ?_ | refine zP (Kf rfl rfl rfl) ?_ | refine zO ?_ | refine zX ?_ | refine kE ?_ | refine jE ?_ | (refine Qb ?_; change Ym _ _ _ _  _) | (refine QO ?_; change Ym _ _ _ _  _) | (refine WR ?_; change Ym _ _ _ _  _) | (refine Qo7 ?_; change Ym _ _ _ _  _)); exact hq.out) : p := h ⟨k⟩
theorem QH {p q : Prop} (k : q) (h : Bx q → p := by intro hq; (iterate 2 (refine JB ?_)); exact hq.out) : p := h ⟨k⟩
theorem QD {p q : Prop} (k : q) (h : Bx q → p := by intro hq; (iterate 3 (refine JB ?_)); exact hq.out) : p := h ⟨k⟩
theorem QC {p q : Prop} (k : q) (h : Bx q → p := by intro hq; (iterate 4 (refine JB ?_)); exact hq.out) : p := h ⟨k⟩
theorem Qy {p q : Prop} (k : q) (h : Bx q → p := by intro hq; (iterate 5 (refine JB ?_)); exact hq.out) : p := h ⟨k⟩
theorem Xk {p q : Prop} (k : q) (h : Bx q → p := by intro hq; (iterate 6 (refine JB ?_)); exact hq.out) : p := h ⟨k⟩
theorem Xg {p q : Prop} (k : q) (h : Bx q → p := by intro hq; (iterate 7 (refine JB ?_)); exact hq.out) : p := h ⟨k⟩
theorem Xo {p q : Prop} (k : q) (h : Bx q → p := by intro hq; (iterate 8 (refine JB ?_)); exact hq.out) : p := h ⟨k⟩
theorem X3 {p q : Prop} (k : q) (h : Bx q → p := by intro hq; (iterate 9 (refine JB ?_)); exact hq.out) : p := h ⟨k⟩
theorem Xs {p q : Prop} (k : q) (h : Bx q → p := by intro hq; (iterate 10 (refine JB ?_)); exact hq.out) : p := h ⟨k⟩
theorem Xn {p q : Prop} (k : q) (h : Bx q → p := by intro hq; (iterate 11 (refine JB ?_)); exact hq.out) : p := h ⟨k⟩
theorem Jx {p q : Prop} (k : q) (h : Bx q → p := by intro hq; (iterate 12 (refine JB ?_)); exact hq.out) : p := h ⟨k⟩
theorem WV {p q : Prop} (k : q) (h : Bx q → p := by intro hq; (iterate 13 (refine JB ?_)); exact hq.out) : p := h ⟨k⟩
theorem YI {p q : Prop} (k : q) (h : Bx q → p := by intro hq; (iterate 14 (refine JB ?_)); exact hq.out) : p := h ⟨k⟩
theorem QdK {p q : Prop} (k : q) (h : Bx q → p := by intro hq; (iterate 15 (refine JB ?_)); exact hq.out) : p := h ⟨k⟩
theorem QaL {p q : Prop} (k : q) (h : Bx q → p := by intro hq; (iterate 16 (refine JB ?_)); exact hq.out) : p := h ⟨k⟩
theorem Qd8 {p q : Prop} (k : q) (h : Bx q → p := by intro hq; (iterate 17 (refine JB ?_)); exact hq.out) : p := h ⟨k⟩
theorem Wn {p q : Prop} (k : q) (h : Bx q → p := by intro hq; (iterate 18 (refine JB ?_)); exact hq.out) : p := h ⟨k⟩
theorem Qes {p q : Prop} (k : q) (h : Bx q → p := by intro hq; (iterate 19 (refine JB ?_)); exact hq.out) : p := h ⟨k⟩
theorem Qdb {p q : Prop} (k : q) (h : Bx q → p := by intro hq; (iterate 20 (refine JB ?_)); exact hq.out) : p := h ⟨k⟩
theorem QjC {p q : Prop} (k : q) (h : Bx q → p := by intro hq; (iterate 21 (refine JB ?_)); exact hq.out) : p := h ⟨k⟩
theorem Qof {p q : Prop} (k : q) (h : Bx q → p := by intro hq; (iterate 22 (refine JB ?_)); exact hq.out) : p := h ⟨k⟩
theorem QrA {p q : Prop} (k : q) (h : Bx q → p := by intro hq; (iterate 23 (refine JB ?_)); exact hq.out) : p := h ⟨k⟩
theorem QaZ {p q : Prop} (k : q) (h : Bx q → p := by intro hq; (iterate 24 (refine JB ?_)); exact hq.out) : p := h ⟨k⟩
end Go.Proofs.YtnkkokmmeplbgaaGreat
