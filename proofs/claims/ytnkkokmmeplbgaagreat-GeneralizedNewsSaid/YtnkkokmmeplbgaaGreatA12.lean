/-
  Methods that only read the objects handed in (any number of 
-/
import Derived.Test.YtnkkokmmeplbgaaGreatA3
import Derived.Test.YtnkkokmmeplbgaaGreatA10
import Derived.Test.YtnkkokmmeplbgaaGreatA4
namespace Go.Proofs.YtnkkokmmeplbgaaGreat
open Go.RowKit
def gIn (ρ : List (Nat × Nat)) (H Hin : List (Nat × Qi)) : List (Nat × Qi) → Prop
 | [] => True
 | (o, ob) :: r => Qd H (rn ρ o) = some (QbB ρ ob) ∧ ((QbB ρ ob).fix && Nat.ble Qk o) = true ∧ okB ob = true ∧ QgE Hin ob = true ∧ gIn ρ H Hin r
theorem Qga {ρ : List (Nat × Nat)} {H Hin : List (Nat × Qi)} : ∀ {l : List (Nat × Qi)}, gIn ρ H Hin l → ∀ o ob, Qd l o = some ob → Qd H (rn ρ o) = some (QbB ρ ob) ∧ (QbB ρ ob).fix = true ∧ Qk ≤ o ∧ okB ob = true ∧ QgE Hin ob = true
 | [], _, _, _, h => by cases h
 | (q, ob') :: r, ⟨h1, h2, h3, h4, h5⟩, o, ob, h => by
  rw [Qp] at h
  rw [Bool.and_eq_true] at h2
  split at h
  ·rename_i e; cases h; subst e; exact ⟨h1, h2.1, Nat.le_of_ble_eq_true h2.2, h3, h4⟩
  exact Qga h5 o ob h
def Qkp (ρ : List (Nat × Nat)) (Hin : List (Nat × Qi)) : Bool := Hin.all fun p => Hin.all fun q => !(Nat.beq (rn ρ p.1) (rn ρ q.1)) || Nat.beq p.1 q.1
section
variable {P : Program} {E : Xy} {o : Oper} {st : St}
theorem Qha {g : FuncId} {bs zs : List AV} {Hin : List (Nat × Qi)} {res : AV} (ρ : List (Nat × Nat)) (hc : GC P g bs Hin res Hin) (hab : bs.map (Qbi ρ) = zs) (hbig : bs.all QaA = true) {st' : St} (k2 : Ww st.H st'.H)
  (hin : gIn ρ st.H Hin Hin) (hap : Qkp ρ Hin = true) {c : Cx} {a : Act} (hr : XE E c a st') {vs : List Value} (hl : vs.length = zs.length) (hv : ∀ (i : Nat) (v : Value) (x : AV), vs[i]? = some v → zs[i]? = some x → VR c v x) :
  Calls P g vs.toArray c.w fun e w' => ∃ v c', e = .returned v ∧ c'.w = w' ∧ XE E c' a st' ∧ FR c'.w c'.S v res := by
 have hs := Qga hin
 have inj : ∀ o o', (Qd Hin o).isSome = true → (Qd Hin o').isSome = true → rn ρ o = rn ρ o' → o = o' := fun o o' g1 g2 e => by
  obtain ⟨x, hx⟩ := Option.isSome_iff_exists.1 g1
  obtain ⟨y, hy⟩ := Option.isSome_iff_exists.1 g2
  have := List.all_eq_true.1 (List.all_eq_true.1 hap _ (JO hx)) _ (JO hy)
  simp only [e, Nat.beq_refl, Bool.not_true, Bool.false_or] at this
  exact Nat.eq_of_beq_eq_true this
 refine hr.gcall hc ρ st'.H (fun o z h => ?_) inj (fun o => rfl) (fun o z h => (hs o z h).2.2.2.2) (fun o z h => ?_) (fun _ _ => rfl) (by rw [hl, ← hab, List.length_map]) hbig (fun i v x hi hj => hv i v _ hi (by rw [← hab, List.getElem?_map, hj]; rfl))
 ·obtain ⟨h1, h2, h3, h4, -⟩ := hs o z h
  exact ⟨k2 _ _ h1 h2, h3, h4⟩
 obtain ⟨h1, h2, -⟩ := hs o z h
 exact k2 _ _ h1 h2
theorem Jb {g : FuncId} {bs zs : List AV} {Hin : List (Nat × Qi)} {res : AV} (ρ : List (Nat × Nat)) (hc : GC P g bs Hin res Hin) {xs : Array Operand} {ts : Array TypeId} (ho : o.op = .call { callee := .value (.func g), args := xs, argTypes := ts }) [hf : QZ P g] (ha : evl st xs.toList = some zs) (hab : bs.map (Qbi ρ) = zs) (hbig : bs.all QaA = true)
  (hin : gIn ρ st.H Hin Hin) (hap : Qkp ρ Hin = true) : PY P E o st res := by
 intro st' k1 k2 c a hr K Q hK
 have he := WH ha
 have hev : xs.toList.map st'.ev = zs := by
  rw [← he]
  refine List.map_congr_left fun y hy => k1 y ?_
  simp only [ho, Op.operands, Call.operands]
  simp [Array.mem_toList_iff.1 hy]
 have hl : zs.length = xs.size := by rw [← hev]; simp
 have hrun : (execOp a.eval o).run P c.w = .ok (.enter g (xs.toList.map a.eval).toArray) c.w := by
  have e1 : a.eval (.func g) = .func (.func g) #[] #[] := rfl
  have e2 : (xs.toList.map a.eval).toArray = xs.map a.eval := by apply Array.ext'; simp
  simp [execOp, ho, resolve, invoke, e1, Deferred.ofValue, hf.h, e2]
 unfold Oper.wp
 rw [hrun, Oper.upon_enter]
 refine (Qha ρ hc hab hbig k2 hin hap hr (vs := xs.toList.map a.eval) (by rw [hl]; simp) (fun i v x hi hj => ?_)).mono ?_
 ·rw [List.getElem?_map] at hi
  cases hx : xs.toList[i]? with
  | none => rw [hx] at hi; cases hi
  | some y =>
   rw [hx] at hi; cases hi
   have : zs[i]? = some (st'.ev y) := by rw [← hev, List.getElem?_map, hx]; rfl
   rw [hj] at this
   rw [Option.some.inj this]
   exact hr.ev y
 rintro e w' ⟨v, c', rfl, rfl, hr', hfr⟩
 exact hK c' v hr' (.fr _ _ hfr)
theorem Qlx {tt : TypeId} {x ix : Operand} (ho : o.op = .index tt x ix) {len : Nat} {e : TypeId} {n : Nat} [hT : Qk4 P tt len e n] {n' : Nat} [hV : Xi P e n' false] {cs : List AV} (hx : XC st x = some (.agg cs)) {k : IntKind} {i : Int} (hi : XC st ix = some (.p (.int k i)))
  (j : Nat) (hij : i = (j : Int)) (hj : j < len) (hn : n = 1) {r : AV} (hc : cs[j]? = some r) : PY P E o st r := by
 refine JN fun st' h1 h2 c a hr => ?_
 have hv := hr.ev x
 rw [h1 x (by simp [ho, Op.operands]), QS hx] at hv
 have hvi := hr.ev ix
 rw [h1 ix (by simp [ho, Op.operands]), QS hi] at hvi
 have hvi := hvi.p_inv
 generalize hvx : a.eval x = vx at *
 have key : ∃ vs : List Value, vx = .agg vs.toArray ∧ vs.length = cs.length ∧ ∀ (i : Nat) (v : Value) (x : AV), vs[i]? = some v → cs[i]? = some x → VR c v x := by
  cases hv with
  | fr _ _ h => cases h with | agg vs _ hl h => exact ⟨vs, rfl, hl, fun i v x h1 h2 => .fr _ _ (h i v x h1 h2)⟩
  | agg vs _ hl h => exact ⟨vs, rfl, hl, h⟩
 obtain ⟨vs, rfl, hl, hpw⟩ := key
 subst hij hn
 have hov : j < vs.length := by have := (List.getElem?_eq_some_iff.1 hc).1; omega
 refine ⟨vs[j], ?_, hpw j _ _ (List.getElem?_eq_getElem hov) hc⟩
 simp [execOp, ho, Instr.index, hvi, hvx, asIntOf, run_underlying (QaO hT.h), hj, Xn hT.size, Go.part, Kv hV.row, hov]
def Qlm (P : Program) (t : TypeId) : Bool := match P.underlying t with | some (.pointer _) => true | _ => false
theorem Qhr {t : TypeId} (h : Qlm P t = true) : ∃ e, P.underlying t = some (.pointer e) := by
 unfold Qlm at h
 split at h
 ·exact ⟨_, ‹_›⟩
 cases h
theorem Qda {t e : TypeId} (hp : P.underlying t = some (.pointer e)) (a : Option Addr) (w : World) : (Op.equal t (.pointer a) (.pointer none)).run P w = .ok a.isNone w := by
 have h : ∀ d : Nat, (Op.equalIn (d + 1) t (.pointer a) (.pointer none)).run P w = .ok a.isNone w := fun d => by
  cases a <;> simp [Op.equalIn, run_underlying hp]
 exact h 9999
theorem Qca {op : BinOp} {tt ty : TypeId} {x y : Operand} (ho : o.op = .binOp op tt x y ty) (hp : Qlm P tt = true) {z : AV} {b : Bool} (hx : XC st x = some z) (hy : XC st y = some (.p (.pointer none)))
  (hz : (z = .p (.pointer none) ∧ b = true) ∨ (∃ q off T cs, z = .ptr q off ∧ Qd st.H q = some (.var T cs) ∧ b = false)) {r : Bool} (hop : (op = .eql ∧ r = b) ∨ (op = .neq ∧ r = !b)) : PY P E o st (.p (.bool r)) := by
 refine JN fun st' h1 h2 c a hr => ?_
 obtain ⟨e, he⟩ := Qhr hp
 have hv := hr.ev x
 rw [h1 x (by simp [ho, Op.operands]), QS hx] at hv
 have hu := hr.ev y
 rw [h1 y (by simp [ho, Op.operands]), QS hy] at hu
 have key : ∃ A : Option Addr, a.eval x = .pointer A ∧ A.isNone = b := by
  rcases hz with ⟨rfl, rfl⟩ | ⟨q, off, T, cs, rfl, hq, rfl⟩
  ·exact ⟨none, hv.p_inv, rfl⟩
  obtain ⟨hKq, vq, hVq, hor, hwr⟩ := hr.live q _ (h2 _ _ hq rfl)
  cases hor with
  | var b ccs _ _ hb hl hc hS =>
   generalize a.eval x = v at hv
   cases hv with
   | fr _ _ h => cases h
   | ptr _ _ _ _ hV => exact ⟨_, hV b hVq, rfl⟩
 obtain ⟨A, hA, hAb⟩ := key
 refine ⟨.bool r, ?_, .fr _ _ (.p _)⟩
 have e0 := Qda he A c.w
 rcases hop with ⟨rfl, rfl⟩ | ⟨rfl, rfl⟩
 ·have e1 : (binOp .eql tt (a.eval x) (a.eval y)).run P c.w = .ok (.bool r) c.w := by
   rw [hA, hu.p_inv]; simp [binOp, e0, hAb]
  have e2 : ∀ z1 z2, (do eqGuard .eql tt z1 z2 (a.eval x) (a.eval y); binOp .eql tt (a.eval x) (a.eval y) : Sem Value).run P c.w = .ok (.bool r) c.w := fun z1 z2 => by
   rw [hA, eqGuard_at_pointer, ← hA]; simpa using e1
  simp only [execOp, ho, Sem.run_bind, Sem.run_pure] at e2 ⊢
  simp only [e2, Result.andThen_ok]
 have e1 : (binOp .neq tt (a.eval x) (a.eval y)).run P c.w = .ok (.bool (!b)) c.w := by
  rw [hA, hu.p_inv]; simp [binOp, e0, hAb]
 have e2 : ∀ z1 z2, (do eqGuard .neq tt z1 z2 (a.eval x) (a.eval y); binOp .neq tt (a.eval x) (a.eval y) : Sem Value).run P c.w = .ok (.bool (!b)) c.w := fun z1 z2 => by
  rw [hA, eqGuard_at_pointer, ← hA]; simpa using e1
 simp only [execOp, ho, Sem.run_bind, Sem.run_pure] at e2 ⊢
 simp only [e2, Result.andThen_ok]
end
def Qdf : List (Nat × Qi) → Bool
 | [] => true
 | p :: r => (r.all fun q => !(Nat.beq p.1 q.1)) && Qdf r
structure JJ (H : List (Nat × Qi)) : Prop where
 h : ∀ o ob, Qd H o = some ob → Qk ≤ o ∧ okB ob = true ∧ QgE H ob = true ∧ ob.fix = true ∧ X5 0 ob = true
 a : Qdf H = true
theorem Qcb : ∀ {H : List (Nat × Qi)}, Qdf H = true → ∀ p ∈ H, Qd H p.1 = some p.2
 | p :: r, h, q, hq => by
  obtain ⟨i, x⟩ := p
  simp only [Qdf, Bool.and_eq_true] at h
  rcases List.mem_cons.1 hq with rfl | hq
  ·exact Qp .. |>.trans (if_pos rfl)
  rw [Qp, if_neg, Qcb h.2 q hq]
  intro e
  have := List.all_eq_true.1 h.1 q hq
  simp [e] at this
def QoI (H : List (Nat × Qi)) : Bool := (H.all fun p => Nat.ble Qk p.1 && okB p.2 && QgE H p.2 && p.2.fix && X5 0 p.2) && Qdf H
theorem JJ.of {H : List (Nat × Qi)} (h : QoI H = true) : JJ H := by
 rw [QoI, Bool.and_eq_true] at h
 refine ⟨fun o ob ho => ?_, h.2⟩
 have := List.all_eq_true.1 h.1 _ (JO ho)
 simp only [Bool.and_eq_true] at this
 exact ⟨Nat.le_of_ble_eq_true this.1.1.1.1, this.1.1.1.2, this.1.1.2, this.1.2, this.2⟩
theorem JJ.m {H : List (Nat × Qi)} (h : JJ H) : ∀ p ∈ H, Qd H p.1 = some p.2 := Qcb h.a
section
variable {H H' : List (Nat × Qi)} {x y z : Qi} {k k2 k3 : Nat}
theorem JJ.p0 (_ : JJ H) : ∀ o ob, Qd H o = some ob → Qd H o = some ob := fun _ _ h => h
theorem JJ.pre (hH : JJ H) (hk : Nat.blt k Qk = true) (hs : ∀ o ob, Qd H o = some ob → Qd H' o = some ob) : ∀ o ob, Qd H o = some ob → Qd ((k, x) :: H') o = some ob := fun o ob h => by
 have h1 := (hH.h o ob h).1
 have h2 : k < Qk := Nat.le_of_ble_eq_true hk
 rw [Qp, if_neg (by omega)]
 exact hs o ob h
theorem JJ.p1 (hH : JJ H) (hk : Nat.blt k Qk = true) : ∀ o ob, Qd H o = some ob → Qd ((k, x) :: H) o = some ob := hH.pre hk hH.p0
theorem JJ.p2 (hH : JJ H) (hk : Nat.blt k Qk = true) (hk2 : Nat.blt k2 Qk = true) : ∀ o ob, Qd H o = some ob → Qd ((k, x) :: (k2, y) :: H) o = some ob := hH.pre hk (hH.p1 hk2)
theorem JJ.p3 (hH : JJ H) (hk : Nat.blt k Qk = true) (hk2 : Nat.blt k2 Qk = true) (hk3 : Nat.blt k3 Qk = true) : ∀ o ob, Qd H o = some ob → Qd ((k, x) :: (k2, y) :: (k3, z) :: H) o = some ob := hH.pre hk (hH.p2 hk2 hk3)
end
theorem Qkg (x : AV) : Ye [] x = x := by
 cases x with
 | sl es tk => cases tk <;> rfl
 | _ => rfl
theorem Qa6 (xs : List AV) : xs.map (Ye []) = xs := by
 rw [List.map_congr_left (g := id) (fun x _ => Qkg x), List.map_id]
theorem Qks (x : AV) : Qbi [] x = x := by
 cases x with
 | agg cs => exact congrArg AV.agg (Qa6 cs)
 | tup cs => exact congrArg AV.tup (Qa6 cs)
 | fn f cs => exact congrArg (AV.fn f) (Qa6 cs)
 | sl es tk => cases tk <;> rfl
 | _ => rfl
theorem QfR (ob : Qi) : QbB [] ob = ob := by
 cases ob with
 | var t cs => exact congrArg (Qi.var t) (Qa6 cs)
 | _ => rfl
section
variable {P : Program} {E : Xy} {o : Oper} {st : St}
theorem Qcq {g : FuncId} {bs : List AV} {H : List (Nat × Qi)} {res : AV} (hH : JJ H) (hc : GC P g bs H res H) (hbig : bs.all QaA = true) {st' : St} (k2 : Ww st.H st'.H)
  (hs : ∀ o ob, Qd H o = some ob → Qd st.H o = some ob) {c : Cx} {a : Act} (hr : XE E c a st') {vs : List Value} (hl : vs.length = bs.length) (hv : ∀ (i : Nat) (v : Value) (x : AV), vs[i]? = some v → bs[i]? = some x → VR c v x) :
  Calls P g vs.toArray c.w fun e w' => ∃ v c', e = .returned v ∧ c'.w = w' ∧ XE E c' a st' ∧ FR c'.w c'.S v res := by
 refine hr.gcall hc [] st'.H (fun o z h => ?_) (fun o o' _ _ e => e) (fun o => rfl) (fun o z h => (hH.h o z h).2.2.1) (fun o z h => ?_) (fun _ _ => rfl) hl hbig (fun i v x hi hj => (Qks x).symm ▸ hv i v x hi hj)
 ·obtain ⟨h1, h2, h3, h4, h5⟩ := hH.h o z h
  exact ⟨(QfR z).symm ▸ k2 _ _ (hs o z h) h4, h1, h2⟩
 obtain ⟨h1, h2, h3, h4, h5⟩ := hH.h o z h
 exact (QfR z).symm ▸ k2 _ _ (hs o z h) h4
theorem JP {g : FuncId} {bs : List AV} {H : List (Nat × Qi)} {res : AV} (hH : JJ H) (hc : GC P g bs H res H) {xs : Array Operand} {ts : Array TypeId} (ho : o.op = .call { callee := .value (.func g), args := xs, argTypes := ts }) [hf : QZ P g] (ha : evl st xs.toList = some bs) (hbig : bs.all QaA = true)
  (hs : ∀ o ob, Qd H o = some ob → Qd st.H o = some ob) : PY P E o st res := by
 intro st' k1 k2 c a hr K Q hK
 have he := WH ha
 have hev : xs.toList.map st'.ev = bs := by
  rw [← he]
  refine List.map_congr_left fun y hy => k1 y ?_
  simp only [ho, Op.operands, Call.operands]
  simp [Array.mem_toList_iff.1 hy]
 have hl : bs.length = xs.size := by rw [← hev]; simp
 have hrun : (execOp a.eval o).run P c.w = .ok (.enter g (xs.toList.map a.eval).toArray) c.w := by
  have e1 : a.eval (.func g) = .func (.func g) #[] #[] := rfl
  have e2 : (xs.toList.map a.eval).toArray = xs.map a.eval := by apply Array.ext'; simp
  simp [execOp, ho, resolve, invoke, e1, Deferred.ofValue, hf.h, e2]
 unfold Oper.wp
 rw [hrun, Oper.upon_enter]
 refine (Qcq hH hc hbig k2 hs hr (vs := xs.toList.map a.eval) (by rw [hl]; simp) (fun i v x hi hj => ?_)).mono ?_
 ·rw [List.getElem?_map] at hi
  cases hx : xs.toList[i]? with
  | none => rw [hx] at hi; cases hi
  | some y =>
   rw [hx] at hi; cases hi
   have : bs[i]? = some (st'.ev y) := by rw [← hev, List.getElem?_map, hx]; rfl
   rw [hj] at this
   rw [Option.some.inj this]
   exact hr.ev y
 rintro e w' ⟨v, c', rfl, rfl, hr', hfr⟩
 exact hK c' v hr' (.fr _ _ hfr)
theorem Qju {g : FuncId} {q : Operand} {cap az bs : List AV} {H : List (Nat × Qi)} {res : AV} (hH : JJ H) (hc : GC P g bs H res H) {xs : Array Operand} {ts : Array TypeId} (ho : o.op = .call { callee := .value q, args := xs, argTypes := ts }) [hf : QZ P g] (hq : XC st q = some (.fn g cap)) (ha : evl st xs.toList = some az) (hz : az ++ cap = bs) (hbig : bs.all QaA = true)
  (hs : ∀ o ob, Qd H o = some ob → Qd st.H o = some ob) : PY P E o st res := by
 intro st' k1 k2 c a hr K Q hK
 have hvq := hr.ev q
 rw [k1 q (by simp [ho, Op.operands, Call.operands]), QS hq] at hvq
 generalize hvx : a.eval q = vx at hvq
 have key : ∃ vs : List Value, vx = .func (.func g) #[] vs.toArray ∧ vs.length = cap.length ∧ ∀ (i : Nat) (v : Value) (x : AV), vs[i]? = some v → cap[i]? = some x → VR c v x := by
  cases hvq with
  | fr _ _ h => cases h with | fn _ vs _ hl h => exact ⟨vs, rfl, hl, fun i v x h1 h2 => .fr _ _ (h i v x h1 h2)⟩
  | fn _ vs _ hl h => exact ⟨vs, rfl, hl, h⟩
 obtain ⟨vs, rfl, hl, hp⟩ := key
 have he := WH ha
 have hev : xs.toList.map st'.ev = az := by
  rw [← he]
  refine List.map_congr_left fun y hy => k1 y ?_
  simp only [ho, Op.operands, Call.operands]
  simp [Array.mem_toList_iff.1 hy]
 have hla : az.length = xs.size := by rw [← hev]; simp
 have hrun : (execOp a.eval o).run P c.w = .ok (.enter g (xs.toList.map a.eval ++ vs).toArray) c.w := by
  have e2 : (xs.toList.map a.eval).toArray = xs.map a.eval := by apply Array.ext'; simp
  have e3 : (xs.toList.map a.eval ++ vs).toArray = xs.map a.eval ++ vs.toArray := by rw [← e2]; simp
  simp [execOp, ho, resolve, invoke, hvx, Deferred.ofValue, hf.h, e3]
 unfold Oper.wp
 rw [hrun, Oper.upon_enter]
 refine (Qcq hH hc hbig k2 hs hr (vs := xs.toList.map a.eval ++ vs) (by rw [← hz]; simp [hla, hl]) (fun i v x hi hj => ?_)).mono ?_
 ·rw [← hz] at hj
  rcases Nat.lt_or_ge i az.length with hlt | hge
  ·rw [List.getElem?_append_left hlt, ← hev, List.getElem?_map] at hj
   rw [List.getElem?_append_left (by simp; omega), List.getElem?_map] at hi
   cases hx : xs.toList[i]? with
   | none => rw [hx] at hi; cases hi
   | some y => rw [hx] at hi hj; cases hi; cases hj; exact hr.ev y
  rw [List.getElem?_append_right hge] at hj
  rw [List.getElem?_append_right (by simp; omega)] at hi
  simp only [List.length_map, Array.length_toList] at hi
  rw [← hla] at hi
  exact hp _ v x hi hj
 rintro e w' ⟨v, c', rfl, rfl, hr', hfr⟩
 exact hK c' v hr' (.fr _ _ hfr)
end
section
variable {st : St} {r res : AV} {H : List (Nat × Qi)}
theorem Qck {ts : List Nat} (hH : JJ H) (hs : ∀ o ob, Qd H o = some ob → Qd st.H o = some ob) (h : (XP st ts).fzt = some r) (hr : r = res) :
  (XP st ts).fzt = some res ∧ ∀ o ob, Qd H o = some ob → Qd st.H o = some ob ∧ Qk ≤ o ∧ X5 0 ob = true :=
 ⟨by rw [h, hr], fun o ob ho => ⟨hs o ob ho, (hH.h o ob ho).1, (hH.h o ob ho).2.2.2.2⟩⟩
theorem Qa4 {rs : List RS} (hH : JJ H) (hs : ∀ o ob, Qd H o = some ob → Qd st.H o = some ob) (h : (resY st rs).bind AV.fzt = some r) (hr : r = res) :
  (resY st rs).bind AV.fzt = some res ∧ ∀ o ob, Qd H o = some ob → Qd st.H o = some ob ∧ Qk ≤ o ∧ X5 0 ob = true :=
 ⟨by rw [h, hr], fun o ob ho => ⟨hs o ob ho, (hH.h o ob ho).1, (hH.h o ob ho).2.2.2.2⟩⟩
end
theorem Qd1 {es : List (List AV)} (h : ∀ e ∈ es, fzs e = some e) : (es.flatten.all fun x => match x with | .p _ | .sl _ none | .emp | .bot | .el _ => true | _ => false) = true := by
 refine List.all_eq_true.2 fun x hx => ?_
 obtain ⟨e, he, hxe⟩ := List.mem_flatten.1 hx
 obtain ⟨i, hi⟩ := List.getElem?_of_mem hxe
 have := (Yc (h e he)).2 i x x hi hi
 cases x with
 | sl es tk => cases tk with
  | none => rfl
  | some o => simp [AV.fz1] at this
 | ptr o off => simp [AV.fz1] at this
 | own o n => simp [AV.fz1] at this
 | eptr o n off => simp [AV.fz1] at this
 | agg => simp [AV.fz1] at this
 | tup => simp [AV.fz1] at this
 | fn => simp [AV.fz1] at this
 | _ => rfl
theorem QhU {L : Nat} {x : AV} (h : okId 0 x = true) : okId L x = true := by
 have one : ∀ x : AV, okId1 0 x = true → okId1 L x = true := fun x h => by
  cases x with
  | sl es tk => cases tk with
   | none => rfl
   | some o => simpa [okId1] using .inr (by simpa [okId1] using h)
  | ptr o off => simpa [okId1] using .inr (by simpa [okId1] using h)
  | own o n => simpa [okId1] using .inr (by simpa [okId1] using h)
  | eptr o n off => simpa [okId1] using .inr (by simpa [okId1] using h)
  | _ => first | rfl | exact h
 have many : ∀ cs : List AV, cs.all (okId1 0) = true → cs.all (okId1 L) = true := fun cs h => List.all_eq_true.2 fun x hx => one x (List.all_eq_true.1 h x hx)
 cases x with
 | agg cs => exact many cs h
 | tup cs => exact many cs h
 | fn f cs => exact many cs h
 | sl es tk => exact one (.sl es tk) h
 | ptr o off => exact one (.ptr o off) h
 | own o n => exact one (.own o n) h
 | eptr o n off => exact one (.eptr o n off) h
 | _ => rfl
theorem Qf5 {L : Nat} {ob : Qi} (h : X5 0 ob = true) : X5 L ob = true := by
 cases ob with
 | var t cs => exact List.all_eq_true.2 fun x hx => QhU (List.all_eq_true.1 h x hx)
 | tok => rfl
 | arr t k es => exact List.all_eq_true.2 fun x hx => QhU (List.all_eq_true.1 h x hx)
theorem QO {E : Xy} {st st' : St} {H pre : List (Nat × Qi)} (hH : JJ H) (eH : st'.H = pre ++ H) (hL : Nat.ble st'.nx Qk = true) (ht : QkI st st'.nx st'.t) (hp : Qkj st st'.nx pre) (hs : ∀ o ob, Qd H o = some ob → Qd st.H o = some ob) : KI E st st' := by
 refine QcU (Nat.le_of_ble_eq_true hL) ?_ ?_
 ·have key : ∀ l : List (Nat × AV), QkI st st'.nx l → ∀ p ∈ l, st.get p.1 = p.2 ∧ okId st'.nx p.2 = true := by
   intro l
   induction l with
   | nil => simp
   | cons q l ih =>
    obtain ⟨i, x⟩ := q
    rintro ⟨h1, h2, h3⟩ p hp
    rcases List.mem_cons.1 hp with rfl | hp
    ·exact ⟨by simp [St.get, h1], h2⟩
    exact ih h3 p hp
  exact key _ ht
 ·have key : ∀ l : List (Nat × Qi), Qkj st st'.nx l → ∀ p ∈ l, Qd st.H p.1 = some p.2 ∧ (Nat.blt p.1 st'.nx || Nat.ble Qk p.1) = true ∧ X5 st'.nx p.2 = true := by
   intro l
   induction l with
   | nil => simp
   | cons q l ih =>
    obtain ⟨i, x⟩ := q
    rintro ⟨h1, h2, h3, h4⟩ p hp
    rcases List.mem_cons.1 hp with rfl | hp
    ·exact ⟨h1, h2, h3⟩
    exact ih h4 p hp
  rw [eH]
  intro p hpm
  rcases List.mem_append.1 hpm with hpm | hpm
  ·exact key _ hp p hpm
  ·have h1 := hH.m p hpm
   have h2 := hH.h _ _ h1
   exact ⟨hs _ _ h1, by rw [Bool.or_eq_true]; exact .inr (Nat.ble_eq_true_of_le h2.1), Qf5 h2.2.2.2.2⟩
theorem Qag {ρ : List (Nat × Nat)} (hρ : ∀ o, Qk ≤ o → rn ρ o = o) {x : AV} (h : QbH x = true) : Ye ρ x = x := by
 cases x with
 | sl es tk => cases tk with
  | none => rfl
  | some o => simp only [Ye, hρ o (Nat.le_of_ble_eq_true h)]
 | ptr o off => simp only [Ye, hρ o (Nat.le_of_ble_eq_true h)]
 | own o n => simp only [Ye, hρ o (Nat.le_of_ble_eq_true h)]
 | eptr o n off => simp only [Ye, hρ o (Nat.le_of_ble_eq_true h)]
 | _ => rfl
theorem Qaa {ρ : List (Nat × Nat)} (hρ : ∀ o, Qk ≤ o → rn ρ o = o) {xs : List AV} (h : xs.all QbH = true) : xs.map (Ye ρ) = xs := by
 exact (List.map_congr_left (f := Ye ρ) (g := id) (fun x hx => Qag hρ (List.all_eq_true.1 h x hx))).trans (List.map_id _)
theorem Qku {ρ : List (Nat × Nat)} (hρ : ∀ o, Qk ≤ o → rn ρ o = o) {x : AV} (h : QaA x = true) : Qbi ρ x = x := by
 cases x with
 | agg cs => exact congrArg AV.agg (Qaa hρ h)
 | tup cs => exact congrArg AV.tup (Qaa hρ h)
 | fn f cs => exact congrArg (AV.fn f) (Qaa hρ h)
 | sl es tk => exact Qag (x := .sl es tk) hρ h
 | ptr o off => exact Qag (x := .ptr o off) hρ h
 | own o n => exact Qag (x := .own o n) hρ h
 | eptr o n off => exact Qag (x := .eptr o n off) hρ h
 | _ => rfl
theorem QkD {x : AV} (h : (match x with | .p _ | .sl _ none | .emp | .bot | .el _ => true | _ => false) = true) : QbH x = true := by
 cases x with
 | sl es tk => cases tk with
  | none => rfl
  | some o => cases h
 | _ => first | rfl | cases h
theorem Qeu {ob : Qi} (h : okB ob = true) : ob.cells.all QbH = true := by
 cases ob with
 | var t cs => exact h
 | tok => rfl
 | arr t k es => exact List.all_eq_true.2 fun x hx => QkD (List.all_eq_true.1 h x hx)
theorem QfK {ρ : List (Nat × Nat)} (hρ : ∀ o, Qk ≤ o → rn ρ o = o) {ob : Qi} (h : okB ob = true) : Qbr ρ ob = ob := by
 have hc := Qeu h
 cases ob with
 | var t cs => exact congrArg (Qi.var t) (Qaa hρ hc)
 | tok => rfl
 | arr t k es =>
  refine congrArg (Qi.arr t k) ?_
  exact (List.map_congr_left (f := fun e => e.map (Ye ρ)) (g := id) (fun e he => Qaa hρ (List.all_eq_true.2 fun x hx => List.all_eq_true.1 hc x (List.mem_flatten.2 ⟨e, he, hx⟩)))).trans (List.map_id _)
theorem Qfo {Ho : List (Nat × Qi)} {x : AV} (h : (match x with | .p _ | .sl _ none | .emp | .bot | .el _ => true | _ => false) = true) : Qa1 Ho x = true := by
 cases x with
 | sl es tk => cases tk with
  | none => rfl
  | some o => cases h
 | _ => first | rfl | cases h
theorem Qme {H : List (Nat × Qi)} {p : Nat × Qi} {x : AV} (h : Qa1 H x = true) : Qa1 (p :: H) x = true := by
 obtain ⟨i, y⟩ := p
 have one : ∀ o, (Qd H o).isSome = true → (Qd ((i, y) :: H) o).isSome = true := fun o h => by
  rw [Qp]
  split
  ·rfl
  exact h
 cases x with
 | sl es tk => cases tk with
  | none => rfl
  | some o => exact one o h
 | ptr o off => exact one o h
 | own o n => exact one o h
 | eptr o n off => exact one o h
 | _ => first | rfl | exact h
theorem Qhm {H : List (Nat × Qi)} {p : Nat × Qi} {ob : Qi} (h : QgE H ob = true) : ob.cells.all (Qa1 (p :: H)) = true := by
 cases ob with
 | var t cs => exact List.all_eq_true.2 fun x hx => Qme (List.all_eq_true.1 h x hx)
 | tok => rfl
 | arr t k es => exact List.all_eq_true.2 fun x hx => Qfo (List.all_eq_true.1 h x hx)
section
variable {P : Program} {E : Xy} {Q : Exit → St → Prop} {ops : Array Oper} {o : Oper} {rest : List Oper} {t : List (Nat × AV)} {Hs : List (Nat × Qi)} {nx N d : Nat} {w : Bool}
theorem QeT (hN : E.N = N) {f : FuncId} {bs : List AV} {H : List (Nat × Qi)} {te : TypeId} {k n r m : Nat} {es : List (List AV)} (hH : JJ H) (hes : ∀ e ∈ es, fzs e = some e) (hc : GX P f bs H (.own r n) ((r, .arr te k es) :: H) m) [hf : QZ P f] (ho : K2 ⟨t, Hs, nx⟩ o f bs) (hbig : bs.all QaA = true)
  (hs : ∀ o ob, Qd H o = some ob → Qd Hs o = some ob) (hr : Nat.blt r m = true) (hk : Nat.ble (nx + m) Qk = true)
  (hg : Qh ops ⟨t, Hs, nx⟩ o = some w) (hw : w = true) (hd : o.dst = some d) (hdN : Nat.blt d N = true)
  (h : Ql P E ops rest Q ⟨(d, .own (nx + r) n) :: t, (nx + r, .arr te k es) :: Hs, nx + m⟩) : Ql P E ops (o :: rest) Q ⟨t, Hs, nx⟩ := fun c a hrel => by
 subst hw
 have hrm : r < m := Nat.le_of_ble_eq_true hr
 have hmB : nx + m ≤ Qk := Nat.le_of_ble_eq_true hk
 have hid : ∀ o, Qk ≤ o → rn (Qfi nx m) o = o := fun o ho => by
  rw [rn, Qaq, if_neg (by omega)]; rfl
 have hnew : ∀ o, o < m → rn (Qfi nx m) o = nx + o := fun o ho => by
  rw [rn, Qaq, if_pos ho]; rfl
 have hge : ∀ o, (Qd H o).isSome = true → Qk ≤ o := fun o g => by
  obtain ⟨x, hx⟩ := Option.isSome_iff_exists.1 g
  exact (hH.h o x hx).1
 have fresh : ∀ o, o < m → Qd Hs (nx + o) = none := fun o ho => by
  cases hx : Qd Hs (nx + o) with
  | none => rfl
  | some ob =>
   rcases hrel.ids _ (hrel.live _ ob hx).1 with h | h
   ·have h : nx + o < nx := h
    omega
   have := E.kb _ h; omega
 refine wpList_step fun K hK => ?_
 rw [XD hg hrel, if_pos rfl]
 obtain ⟨vs, hrun, hvl, hv⟩ := ho.run (P := P) hrel
 unfold Oper.wp
 rw [hrun, Oper.upon_enter]
 refine (hrel.xcall hc (Qfi nx m) ((nx + r, .arr te k es) :: Hs) hmB (fun o ob h => ?_) hnew (fun o o' g1 g2 e => ?_) (fun o g => ?_) (fun o ob h => ?_) (fun o hD => ?_) (fun q hq => ?_) ?_ (by simpa using hvl) hbig (fun i v x hi hj => ?_)).mono ?_
 ·obtain ⟨h1, h2, h3, h4, h5⟩ := hH.h o ob h
  rw [hid o h1, QfK hid h2]
  exact ⟨hs o ob h, h1, Qeu h2⟩
 ·rwa [hid o (hge o g1), hid o' (hge o' g2)] at e
 ·rw [Qp] at g
  split at g
  ·rename_i e; subst e; exact .inr hrm
  exact .inl g
 ·rw [Qp] at h
  split at h
  ·cases h
   refine List.all_eq_true.2 fun x hx => ?_
   obtain ⟨e, he, hxe⟩ := List.mem_flatten.1 hx
   exact Qfo (List.all_eq_true.1 (Qd1 hes) x hx)
  exact Qhm (hH.h o ob h).2.2.1
 ·rw [Qp, Qp]
  rcases hD with hD | hD
  ·have h1 := hge o hD
   rw [hid o h1, if_neg (by omega), if_neg (by omega)]
   obtain ⟨x, hx⟩ := Option.isSome_iff_exists.1 hD
   rw [hx, hs o x hx, Option.map_some, QfK hid (hH.h o x hx).2.1]
  rw [hnew o hD]
  by_cases e : o = r
  ·subst e
   rw [if_pos rfl, if_pos rfl, Option.map_some]
   exact congrArg some (congrArg (Qi.arr te k) (Qhf hes).symm)
  rw [if_neg (by omega), if_neg e, fresh o hD]
  cases hx : Qd H o with
  | none => rfl
  | some x => have := hge o (by rw [hx]; rfl); omega
 ·rw [Qp, if_neg]
  rintro rfl
  exact hq r (.inr hrm) (hnew r hrm)
 ·show (Qd ((r, Qi.arr te k es) :: H) r).isSome = true
  rw [Qp, if_pos rfl]; rfl
 ·rw [Qku hid (List.all_eq_true.1 hbig x (List.mem_of_getElem? hj))]
  exact hv i v x hi hj
 rintro e w' ⟨v, c', rfl, rfl, hr', hvr⟩
 have hput := hr'.put (d := o.dst) (dlt hN hd hdN) hvr
 rw [hd] at hput
 refine hK _ _ (h c' _ ?_)
 rw [hd]
 have e1 : Qbi (Qfi nx m) (.own r n) = .own (nx + r) n := by show AV.own (rn _ r) n = _; rw [hnew r hrm]
 rw [e1] at hput
 exact hput
end
theorem QhK {ts : List Nat} {st : St} {r res : AV} {q m : Nat} {ob : Qi} {H : List (Nat × Qi)} (hH : JJ H) (hs : ∀ o ob, Qd H o = some ob → Qd st.H o = some ob) (h : (XP st ts).ntt = r) (hr : r = res) (hok : okId m res = true) (hn : Nat.ble st.nx m = true) (hm : Nat.ble m Qk = true)
  {ob' : Qi} (hq : Qd st.H q = some ob') (e : ob' = ob) (hqm : Nat.blt q m = true) (hob : X5 m ob = true) :
  (XP st ts).ntt = res ∧ okId m res = true ∧ Nat.ble st.nx m = true ∧ Nat.ble m Qk = true ∧ ∀ o ob2, Qd ((q, ob) :: H) o = some ob2 → Qd st.H o = some ob2 ∧ (Nat.blt o m || Nat.ble Qk o) = true ∧ X5 m ob2 = true := by
 refine ⟨by rw [h, hr], hok, hn, hm, fun o ob2 ho => ?_⟩
 rw [Qp] at ho
 split at ho
 ·rename_i e2; subst e2; cases ho; exact ⟨by rw [hq, e], by rw [hqm, Bool.true_or], hob⟩
 obtain ⟨h1, h2, h3, h4, h5⟩ := hH.h o ob2 ho
 exact ⟨hs o ob2 ho, by rw [Bool.or_eq_true]; exact .inr (Nat.ble_eq_true_of_le h1), Qf5 h5⟩
def Qmh : List AV → List AV → Prop
 | [], [] => True
 | x :: xs, y :: ys => (x = y ∨ (x = .p (.slice none 0 0) ∧ y = .sl [] none)) ∧ Qmh xs ys
 | _, _ => False
theorem QcN : ∀ {xs ys : List AV}, Qmh xs ys → xs.length = ys.length
 | [], [], _ => rfl
 | _ :: xs, _ :: ys, h => congrArg (· + 1) (QcN h.2)
 | [], _ :: _, h => h.elim
 | _ :: _, [], h => h.elim
theorem Qh0 : ∀ {xs ys : List AV}, Qmh xs ys → ∀ (i : Nat) (x y : AV), xs[i]? = some x → ys[i]? = some y → ∀ (c : Cx) (v : Value), VR c v x → VR c v y
 | [], [], _, i, x, y, hx, _ => by simp at hx
 | a :: xs, b :: ys, h, 0, x, y, hx, hy => fun c v hv => by
  simp at hx hy; subst hx hy
  rcases h.1 with e | ⟨e1, e2⟩
  ·rw [← e]; exact hv
  subst e1 e2
  rw [hv.p_inv]; exact .fr _ _ (.nil _ _ _ _ (Nat.zero_le _))
 | a :: xs, b :: ys, h, i + 1, x, y, hx, hy => Qh0 h.2 i x y (by simpa using hx) (by simpa using hy)
 | [], _ :: _, h, _, _, _, _, _ => h.elim
 | _ :: _, [], h, _, _, _, _, _ => h.elim
section
variable {E : Xy} {t : List (Nat × AV)} {H : List (Nat × Qi)} {nx : Nat}
theorem Qet (q : Nat) {tt : TypeId} {cs cs' : List AV} (hq : Qd H q = some (.var tt cs)) (h : Qmh cs cs') : KI E ⟨t, H, nx⟩ ⟨t, (q, .var tt cs') :: H, nx⟩ := fun c a hr => by
 have hlk : ∀ o, Qd ((q, Qi.var tt cs') :: H) o = if o = q then some (Qi.var tt cs') else Qd H o := fun o => Qp _ _ _ _
 refine ⟨c, rfl, { hr with live := fun o ob ho => ?_, dead := fun o ho => ?_ }⟩
 ·replace ho : Qd ((q, Qi.var tt cs') :: H) o = some ob := ho
  rw [hlk] at ho
  split at ho
  ·rename_i e
   subst e
   cases ho
   obtain ⟨g1, v, g2, g3, g4⟩ := hr.live _ _ hq
   refine ⟨g1, v, g2, ?_, g4⟩
   cases g3 with
   | var b ccs _ _ hh hl hp hS =>
    refine .var b ccs tt cs' hh (hl.trans (QcN h)) (fun i u y hi hy => ?_) hS
    have hil : i < cs.length := by rw [QcN h]; exact (List.getElem?_eq_some_iff.1 hy).1
    exact Qh0 h i _ y (List.getElem?_eq_getElem hil) hy c u (hp i u _ hi (List.getElem?_eq_getElem hil))
  exact hr.live o ob ho
 replace ho : Qd ((q, Qi.var tt cs') :: H) o = none := ho
 rw [hlk] at ho
 split at ho
 ·cases ho
 exact hr.dead o ho
end
section
variable {P : Program} {E : Xy} {ops : Array Oper} {o : Oper} {t : List (Nat × AV)} {H : List (Nat × Qi)} {nx N d : Nat} {w : Bool} {T : St → Prop}
theorem QoB (hN : E.N = N) (hB : Nat.blt nx Qk = true) {tt : TypeId} {x : Operand} {ax : AV} {cs : List AV} (ho : o.op = .box tt x) (hx : XC ⟨t, H, nx⟩ x = some ax) (hc : ∀ st : St, st.cells1 ax = some cs) (hq : Qa2 H nx = true) (hg : Qh ops ⟨t, H, nx⟩ o = some w) (hw : w = true) (hd : o.dst = some d) (hdN : Nat.blt d N = true)
  (h : T ⟨(d, .ptr nx 0) :: t, (nx, .var tt cs) :: H, nx + 1⟩) : FK P E ops o T ⟨t, H, nx⟩ := by
 subst hw
 refine ⟨⟨d, .ptr nx 0, nx, .var tt cs, 1⟩, ⟨hg, hq, hd, by rw [hN]; exact Nat.le_of_ble_eq_true hdN, fun st g1 g2 g3 c a hr => ?_⟩, h⟩
 have hnx : st.nx = nx := g3
 have hv := hr.ev x
 rw [g1 x (by simp [ho, Op.operands]), QS hx] at hv
 obtain ⟨h1, h2, -⟩ := hr.cells hv (hc st)
 obtain ⟨c', e1, -, hle, hK, hV, hr'⟩ := hr.new (by rw [hnx]; exact Nat.le_of_ble_eq_true hB) (YS c.w (.cells (a.eval x).cells tt)) (.pointer (some ⟨c.w.heap.size, 0, none⟩)) (.var tt cs)
  (fun c' e1 e2 hle => .var c.w.heap.size (a.eval x).cells tt cs (by rw [e1]; exact KE _ _ _) h1 (fun i u y hi hj => (h2 i u y hi hj).mono hle) (fun off hs => by
   rw [e2] at hs
   exact Nat.lt_irrefl _ (hr.Ssz _ _ hs))) (fun b hb => by simp [QR] at hb; omega)
 rw [hnx] at hK hV hr'
 refine ⟨.pointer (some ⟨c.w.heap.size, 0, none⟩), c', ?_, ?_, .ptr _ _ _ hK fun b hb => ?_⟩
 ·rw [e1]
  simp [execOp, ho, Instr.box, newVar, newRow]
 ·show XE E c' a ⟨st.t, (nx, .var tt cs) :: st.H, st.nx + 1⟩
  rw [hnx]; exact hr'
 rw [hV] at hb
 simpa using hb
end
section
variable {H H' R : List (Nat × Qi)} {x ob : Qi} {k i : Nat}
end
end Go.Proofs.YtnkkokmmeplbgaaGreat
