/-
  Methods that only read the objects handed in (any number of 
-/
import Derived.Test.YtnkkokmmeplbgaaGreatA3
import Derived.Test.YtnkkokmmeplbgaaGreatA10
import Derived.Test.YtnkkokmmeplbgaaGreatA4
namespace Go.Proofs.YtnkkokmmeplbgaaGreat
open Go.RowKit
def gIn (ρ : List (Nat × Nat)) (H Hin : List (Nat × Qs)) : List (Nat × Qs) → Prop
 | [] => True
 | (o, ob) :: r => Qj H (rn ρ o) = some (Qfg ρ ob) ∧ ((Qfg ρ ob).fix && Nat.ble Qe o) = true ∧ okB ob = true ∧ Qga Hin ob = true ∧ gIn ρ H Hin r
theorem Qkx {ρ : List (Nat × Nat)} {H Hin : List (Nat × Qs)} : ∀ {l : List (Nat × Qs)}, gIn ρ H Hin l → ∀ o ob, Qj l o = some ob → Qj H (rn ρ o) = some (Qfg ρ ob) ∧ (Qfg ρ ob).fix = true ∧ Qe ≤ o ∧ okB ob = true ∧ Qga Hin ob = true
 | [], _, _, _, h => by cases h
 | (q, ob') :: r, ⟨h1, h2, h3, h4, h5⟩, o, ob, h => by
  rw [QA] at h;rw [Bool.and_eq_true] at h2
  split at h
  ·rename_i e; cases h; subst e; exact ⟨h1, h2.1, Nat.le_of_ble_eq_true h2.2, h3, h4⟩
  exact Qkx h5 o ob h
def QqJ (ρ : List (Nat × Nat)) (Hin : List (Nat × Qs)) : Bool := Hin.all fun p => Hin.all fun q => !(Nat.beq (rn ρ p.1) (rn ρ q.1)) || Nat.beq p.1 q.1
section
variable {P : Program} {E : Jp} {o : Oper} {st : St}
theorem Ql3 {g : FuncId} {bs zs : List AV} {Hin : List (Nat × Qs)} {res : AV} (ρ : List (Nat × Nat)) (hc : GC P g bs Hin res Hin) (hab : bs.map (QcD ρ) = zs) (hbig : bs.all QdJ = true) {st' : St} (k2 : Qcf st.H st'.H)
  (hin : gIn ρ st.H Hin Hin) (hap : QqJ ρ Hin = true) {c : Cx} {a : Act} (hr : Js E c a st') {vs : List Value} (hl : vs.length = zs.length) (hv : ∀ (i : Nat) (v : Value) (x : AV), vs[i]? = some v → zs[i]? = some x → VR c v x) :
  Calls P g vs.toArray c.w fun e w' => ∃ v c', e = .returned v ∧ c'.w = w' ∧ Js E c' a st' ∧ FR c'.w c'.S v res := by
 have hs := Qkx hin
 have inj : ∀ o o', (Qj Hin o).isSome = true → (Qj Hin o').isSome = true → rn ρ o = rn ρ o' → o = o' := fun o o' g1 g2 e => by
  obtain ⟨x, hx⟩ := Option.isSome_iff_exists.1 g1;obtain ⟨y, hy⟩ := Option.isSome_iff_exists.1 g2
  have := List.all_eq_true.1 (List.all_eq_true.1 hap _ (Kx hx)) _ (Kx hy)
  simp only [e, Nat.beq_refl, Bool.not_true, Bool.false_or] at this
  exact Nat.eq_of_beq_eq_true this
 refine hr.gcall hc ρ st'.H (fun o z h => ?_) inj (fun o => rfl) (fun o z h => (hs o z h).2.2.2.2) (fun o z h => ?_) (fun _ _ => rfl) (by rw [hl, ← hab, List.length_map]) hbig (fun i v x hi hj => hv i v _ hi (by rw [← hab, List.getElem?_map, hj]; rfl))
 ·obtain ⟨h1, h2, h3, h4, -⟩ := hs o z h
  exact ⟨k2 _ _ h1 h2, h3, h4⟩
 obtain ⟨h1, h2, -⟩ := hs o z h;exact k2 _ _ h1 h2
theorem Q0 {g : FuncId} {bs zs : List AV} {Hin : List (Nat × Qs)} {res : AV} (ρ : List (Nat × Nat)) (hc : GC P g bs Hin res Hin) {xs : Array Operand} {ts : Array TypeId} (ho : o.op = .call { callee := .value (.func g), args := xs, argTypes := ts }) [hf : Q8 P g] (ha : evl st xs.toList = some zs) (hab : bs.map (QcD ρ) = zs) (hbig : bs.all QdJ = true)
  (hin : gIn ρ st.H Hin Hin) (hap : QqJ ρ Hin = true) : PY P E o st res := by
 intro st' k1 k2 c a hr K Q hK
 have he := Qcv ha
 have hev : xs.toList.map st'.ev = zs := by
  rw [← he]
  refine List.map_congr_left fun y hy => k1 y ?_
  simp only [ho, Op.operands, Call.operands]
  simp [Array.mem_toList_iff.1 hy]
 have hl : zs.length = xs.size := by rw [← hev]; simp
 have hrun : (execOp a.eval o).run P c.w = .ok (.enter g (xs.toList.map a.eval).toArray) c.w := by
  have e1 : a.eval (.func g) = .func (.func g) #[] #[] := rfl
  have e2 : (xs.toList.map a.eval).toArray = xs.map a.eval := by apply Array.ext'; simp
  simp [execOp, ho, resolve, invoke, e1, Deferred.ofValue, hf.h, e2]
 unfold Oper.wp
 rw [hrun, Oper.upon_enter];refine (Ql3 ρ hc hab hbig k2 hin hap hr (vs := xs.toList.map a.eval) (by rw [hl]; simp) (fun i v x hi hj => ?_)).mono ?_
 ·rw [List.getElem?_map] at hi
  cases hx : xs.toList[i]? with
  | none => rw [hx] at hi; cases hi
  | some y =>
   rw [hx] at hi; cases hi
   have : zs[i]? = some (st'.ev y) := by rw [← hev, List.getElem?_map, hx]; rfl
   rw [hj] at this;rw [Option.some.inj this];exact hr.ev y
 rintro e w' ⟨v, c', rfl, rfl, hr', hfr⟩;exact hK c' v hr' (.fr _ _ hfr)
theorem Qm6 {tt : TypeId} {x ix : Operand} (ho : o.op = .index tt x ix) {len : Nat} {e : TypeId} {n : Nat} [hT : Qrr P tt len e n] {n' : Nat} [hV : X1 P e n' false] {cs : List AV} (hx : Jj st x = some (.agg cs)) {k : IntKind} {i : Int} (hi : Jj st ix = some (.p (.int k i)))
  (j : Nat) (hij : i = (j : Int)) (hj : j < len) (hn : n = 1) {r : AV} (hc : cs[j]? = some r) : PY P E o st r := by
 refine Y5 fun st' h1 h2 c a hr => ?_
 have hv := hr.ev x
 rw [h1 x (by simp [ho, Op.operands]), Q5 hx] at hv
 have hvi := hr.ev ix
 rw [h1 ix (by simp [ho, Op.operands]), Q5 hi] at hvi
 have hvi := hvi.p_inv
 generalize hvx : a.eval x = vx at *
 have key : ∃ vs : List Value, vx = .agg vs.toArray ∧ vs.length = cs.length ∧ ∀ (i : Nat) (v : Value) (x : AV), vs[i]? = some v → cs[i]? = some x → VR c v x := by
  cases hv with
  | fr _ _ h => cases h with | agg vs _ hl h => exact ⟨vs, rfl, hl, fun i v x h1 h2 => .fr _ _ (h i v x h1 h2)⟩
  | agg vs _ hl h => exact ⟨vs, rfl, hl, h⟩
 obtain ⟨vs, rfl, hl, hpw⟩ := key
 subst hij hn
 have hov : j < vs.length := by have := (List.getElem?_eq_some_iff.1 hc).1; omega
 refine ⟨vs[j], ?_, hpw j _ _ (List.getElem?_eq_getElem hov) hc⟩
 simp [execOp, ho, Instr.index, hvi, hvx, asIntOf, run_underlying (Qd1 hT.h), hj, Je hT.size, Go.part, Qaf hV.row, hov]
def QrU (P : Program) (t : TypeId) : Bool := match P.underlying t with | some (.pointer _) => true | _ => false
theorem Qms {t : TypeId} (h : QrU P t = true) : ∃ e, P.underlying t = some (.pointer e) := by
 unfold QrU at h
 split at h
 ·exact ⟨_, ‹_›⟩
 cases h
theorem Qg3 {t e : TypeId} (hp : P.underlying t = some (.pointer e)) (a : Option Addr) (w : World) : (Op.equal t (.pointer a) (.pointer none)).run P w = .ok a.isNone w := by
 have h : ∀ d : Nat, (Op.equalIn (d + 1) t (.pointer a) (.pointer none)).run P w = .ok a.isNone w := fun d => by
  cases a <;> simp [Op.equalIn, run_underlying hp]
 exact h 9999
theorem Yq {op : BinOp} {tt ty : TypeId} {x y : Operand} (ho : o.op = .binOp op tt x y ty) (hp : QrU P tt = true) {z : AV} {b : Bool} (hx : Jj st x = some z) (hy : Jj st y = some (.p (.pointer none)))
  (hz : (z = .p (.pointer none) ∧ b = true) ∨ (∃ q off T cs, z = .ptr q off ∧ Qj st.H q = some (.var T cs) ∧ b = false)) {r : Bool} (hop : (op = .eql ∧ r = b) ∨ (op = .neq ∧ r = !b)) : PY P E o st (.p (.bool r)) := by
 refine Y5 fun st' h1 h2 c a hr => ?_
 obtain ⟨e, he⟩ := Qms hp
 have hv := hr.ev x
 rw [h1 x (by simp [ho, Op.operands]), Q5 hx] at hv
 have hu := hr.ev y
 rw [h1 y (by simp [ho, Op.operands]), Q5 hy] at hu
 have key : ∃ A : Option Addr, a.eval x = .pointer A ∧ A.isNone = b := by
  rcases hz with ⟨rfl, rfl⟩ | ⟨q, off, T, cs, rfl, hq, rfl⟩
  ·exact ⟨none, hv.p_inv, rfl⟩
  obtain ⟨hKq, vq, hVq, hor, hwr⟩ := hr.live q _ (h2 _ _ hq rfl)
  cases hor with
  | var b ccs _ _ hb hl hc hS =>
   generalize a.eval x = v at hv
   cases hv with
   | fr _ _ h => cases h
   | ptr _ _ _ _ hV => exact ⟨_, hV b hVq, rfl⟩
 obtain ⟨A, hA, hAb⟩ := key;refine ⟨.bool r, ?_, .fr _ _ (.p _)⟩
 have e0 := Qg3 he A c.w
 rcases hop with ⟨rfl, rfl⟩ | ⟨rfl, rfl⟩
 ·have e1 : (binOp .eql tt (a.eval x) (a.eval y)).run P c.w = .ok (.bool r) c.w := by
   rw [hA, hu.p_inv]; simp [binOp, e0, hAb]
  have e2 : ∀ z1 z2, (do eqGuard .eql tt z1 z2 (a.eval x) (a.eval y); binOp .eql tt (a.eval x) (a.eval y) : Sem Value).run P c.w = .ok (.bool r) c.w := fun z1 z2 => by
   rw [hA, eqGuard_at_pointer, ← hA]; simpa using e1
  simp only [execOp, ho, Sem.run_bind, Sem.run_pure] at e2 ⊢
  simp only [e2, Result.andThen_ok]
 have e1 : (binOp .neq tt (a.eval x) (a.eval y)).run P c.w = .ok (.bool (!b)) c.w := by
  rw [hA, hu.p_inv]; simp [binOp, e0, hAb]
 have e2 : ∀ z1 z2, (do eqGuard .neq tt z1 z2 (a.eval x) (a.eval y); binOp .neq tt (a.eval x) (a.eval y) : Sem Value).run P c.w = .ok (.bool (!b)) c.w := fun z1 z2 => by
  rw [hA, eqGuard_at_pointer, ← hA]; simpa using e1
 simp only [execOp, ho, Sem.run_bind, Sem.run_pure] at e2 ⊢
 simp only [e2, Result.andThen_ok]
end
def Qfs : List (Nat × Qs) → Bool
 | [] => true
 | p :: r => (r.all fun q => !(Nat.beq p.1 q.1)) && Qfs r
structure XD (H : List (Nat × Qs)) : Prop where
 h : ∀ o ob, Qj H o = some ob → Qe ≤ o ∧ okB ob = true ∧ Qga H ob = true ∧ ob.fix = true ∧ JO 0 ob = true
 a : Qfs H = true
theorem QfM : ∀ {H : List (Nat × Qs)}, Qfs H = true → ∀ p ∈ H, Qj H p.1 = some p.2
 | p :: r, h, q, hq => by
  obtain ⟨i, x⟩ := p
  simp only [Qfs, Bool.and_eq_true] at h
  rcases List.mem_cons.1 hq with rfl | hq
  ·exact QA .. |>.trans (if_pos rfl)
  rw [QA, if_neg, QfM h.2 q hq];intro e
  have := List.all_eq_true.1 h.1 q hq
  simp [e] at this
def QvU (H : List (Nat × Qs)) : Bool := (H.all fun p => Nat.ble Qe p.1 && okB p.2 && Qga H p.2 && p.2.fix && JO 0 p.2) && Qfs H
theorem XD.of {H : List (Nat × Qs)} (h : QvU H = true) : XD H := by
 rw [QvU, Bool.and_eq_true] at h;refine ⟨fun o ob ho => ?_, h.2⟩
 have := List.all_eq_true.1 h.1 _ (Kx ho)
 simp only [Bool.and_eq_true] at this
 exact ⟨Nat.le_of_ble_eq_true this.1.1.1.1, this.1.1.1.2, this.1.1.2, this.1.2, this.2⟩
theorem XD.m {H : List (Nat × Qs)} (h : XD H) : ∀ p ∈ H, Qj H p.1 = some p.2 := QfM h.a
section
variable {H H' : List (Nat × Qs)} {x y z : Qs} {k k2 k3 : Nat}
theorem XD.p0 (_ : XD H) : ∀ o ob, Qj H o = some ob → Qj H o = some ob := fun _ _ h => h
theorem XD.pre (hH : XD H) (hk : Nat.blt k Qe = true) (hs : ∀ o ob, Qj H o = some ob → Qj H' o = some ob) : ∀ o ob, Qj H o = some ob → Qj ((k, x) :: H') o = some ob := fun o ob h => by
 have h1 := (hH.h o ob h).1
 have h2 : k < Qe := Nat.le_of_ble_eq_true hk
 rw [QA, if_neg (by omega)];exact hs o ob h
theorem XD.pp {H : List (Nat × Qs)} {q : Prop} (hH : XD H) (h : XD H → q := by intro hq; repeat (first | exact hq.p0 | refine hq.pre rfl ?_)) : q := h hH
theorem XD.p1 (hH : XD H) (hk : Nat.blt k Qe = true) : ∀ o ob, Qj H o = some ob → Qj ((k, x) :: H) o = some ob := hH.pre hk hH.p0
theorem XD.p2 (hH : XD H) (hk : Nat.blt k Qe = true) (hk2 : Nat.blt k2 Qe = true) : ∀ o ob, Qj H o = some ob → Qj ((k, x) :: (k2, y) :: H) o = some ob := hH.pre hk (hH.p1 hk2)
theorem XD.p3 (hH : XD H) (hk : Nat.blt k Qe = true) (hk2 : Nat.blt k2 Qe = true) (hk3 : Nat.blt k3 Qe = true) : ∀ o ob, Qj H o = some ob → Qj ((k, x) :: (k2, y) :: (k3, z) :: H) o = some ob := hH.pre hk (hH.p2 hk2 hk3)
end
theorem Qqz (x : AV) : KL [] x = x := by
 cases x with
 | sl es tk => cases tk <;> rfl
 | _ => rfl
theorem Qek (xs : List AV) : xs.map (KL []) = xs := by
 rw [List.map_congr_left (g := id) (fun x _ => Qqz x), List.map_id]
theorem QqN (x : AV) : QcD [] x = x := by
 cases x with
 | agg cs => exact congrArg AV.agg (Qek cs)
 | tup cs => exact congrArg AV.tup (Qek cs)
 | fn f cs => exact congrArg (AV.fn f) (Qek cs)
 | sl es tk => cases tk <;> rfl
 | _ => rfl
theorem Qke (ob : Qs) : Qfg [] ob = ob := by
 cases ob with
 | var t cs => exact congrArg (Qs.var t) (Qek cs)
 | _ => rfl
section
variable {P : Program} {E : Jp} {o : Oper} {st : St}
theorem Qf2 {g : FuncId} {bs : List AV} {H : List (Nat × Qs)} {res : AV} (hH : XD H) (hc : GC P g bs H res H) (hbig : bs.all QdJ = true) {st' : St} (k2 : Qcf st.H st'.H)
  (hs : ∀ o ob, Qj H o = some ob → Qj st.H o = some ob) {c : Cx} {a : Act} (hr : Js E c a st') {vs : List Value} (hl : vs.length = bs.length) (hv : ∀ (i : Nat) (v : Value) (x : AV), vs[i]? = some v → bs[i]? = some x → VR c v x) :
  Calls P g vs.toArray c.w fun e w' => ∃ v c', e = .returned v ∧ c'.w = w' ∧ Js E c' a st' ∧ FR c'.w c'.S v res := by
 refine hr.gcall hc [] st'.H (fun o z h => ?_) (fun o o' _ _ e => e) (fun o => rfl) (fun o z h => (hH.h o z h).2.2.1) (fun o z h => ?_) (fun _ _ => rfl) hl hbig (fun i v x hi hj => (QqN x).symm ▸ hv i v x hi hj)
 ·obtain ⟨h1, h2, h3, h4, h5⟩ := hH.h o z h
  exact ⟨(Qke z).symm ▸ k2 _ _ (hs o z h) h4, h1, h2⟩
 obtain ⟨h1, h2, h3, h4, h5⟩ := hH.h o z h;exact (Qke z).symm ▸ k2 _ _ (hs o z h) h4
theorem QE {g : FuncId} {bs : List AV} {H : List (Nat × Qs)} {res : AV} (hH : XD H) (hc : GC P g bs H res H) {xs : Array Operand} {ts : Array TypeId} (ho : o.op = .call { callee := .value (.func g), args := xs, argTypes := ts }) [hf : Q8 P g] (ha : evl st xs.toList = some bs) (hbig : bs.all QdJ = true)
  (hs : ∀ o ob, Qj H o = some ob → Qj st.H o = some ob) : PY P E o st res := by
 intro st' k1 k2 c a hr K Q hK
 have he := Qcv ha
 have hev : xs.toList.map st'.ev = bs := by
  rw [← he]
  refine List.map_congr_left fun y hy => k1 y ?_
  simp only [ho, Op.operands, Call.operands]
  simp [Array.mem_toList_iff.1 hy]
 have hl : bs.length = xs.size := by rw [← hev]; simp
 have hrun : (execOp a.eval o).run P c.w = .ok (.enter g (xs.toList.map a.eval).toArray) c.w := by
  have e1 : a.eval (.func g) = .func (.func g) #[] #[] := rfl
  have e2 : (xs.toList.map a.eval).toArray = xs.map a.eval := by apply Array.ext'; simp
  simp [execOp, ho, resolve, invoke, e1, Deferred.ofValue, hf.h, e2]
 unfold Oper.wp
 rw [hrun, Oper.upon_enter];refine (Qf2 hH hc hbig k2 hs hr (vs := xs.toList.map a.eval) (by rw [hl]; simp) (fun i v x hi hj => ?_)).mono ?_
 ·rw [List.getElem?_map] at hi
  cases hx : xs.toList[i]? with
  | none => rw [hx] at hi; cases hi
  | some y =>
   rw [hx] at hi; cases hi
   have : bs[i]? = some (st'.ev y) := by rw [← hev, List.getElem?_map, hx]; rfl
   rw [hj] at this;rw [Option.some.inj this];exact hr.ev y
 rintro e w' ⟨v, c', rfl, rfl, hr', hfr⟩;exact hK c' v hr' (.fr _ _ hfr)
theorem Qpu {g : FuncId} {q : Operand} {cap az bs : List AV} {H : List (Nat × Qs)} {res : AV} (hH : XD H) (hc : GC P g bs H res H) {xs : Array Operand} {ts : Array TypeId} (ho : o.op = .call { callee := .value q, args := xs, argTypes := ts }) [hf : Q8 P g] (hq : Jj st q = some (.fn g cap)) (ha : evl st xs.toList = some az) (hz : az ++ cap = bs) (hbig : bs.all QdJ = true)
  (hs : ∀ o ob, Qj H o = some ob → Qj st.H o = some ob) : PY P E o st res := by
 intro st' k1 k2 c a hr K Q hK
 have hvq := hr.ev q
 rw [k1 q (by simp [ho, Op.operands, Call.operands]), Q5 hq] at hvq
 generalize hvx : a.eval q = vx at hvq
 have key : ∃ vs : List Value, vx = .func (.func g) #[] vs.toArray ∧ vs.length = cap.length ∧ ∀ (i : Nat) (v : Value) (x : AV), vs[i]? = some v → cap[i]? = some x → VR c v x := by
  cases hvq with
  | fr _ _ h => cases h with | fn _ vs _ hl h => exact ⟨vs, rfl, hl, fun i v x h1 h2 => .fr _ _ (h i v x h1 h2)⟩
  | fn _ vs _ hl h => exact ⟨vs, rfl, hl, h⟩
 obtain ⟨vs, rfl, hl, hp⟩ := key
 have he := Qcv ha
 have hev : xs.toList.map st'.ev = az := by
  rw [← he]
  refine List.map_congr_left fun y hy => k1 y ?_
  simp only [ho, Op.operands, Call.operands]
  simp [Array.mem_toList_iff.1 hy]
 have hla : az.length = xs.size := by rw [← hev]; simp
 have hrun : (execOp a.eval o).run P c.w = .ok (.enter g (xs.toList.map a.eval ++ vs).toArray) c.w := by
  have e2 : (xs.toList.map a.eval).toArray = xs.map a.eval := by apply Array.ext'; simp
  have e3 : (xs.toList.map a.eval ++ vs).toArray = xs.map a.eval ++ vs.toArray := by rw [← e2]; simp
  simp [execOp, ho, resolve, invoke, hvx, Deferred.ofValue, hf.h, e3]
 unfold Oper.wp
 rw [hrun, Oper.upon_enter];refine (Qf2 hH hc hbig k2 hs hr (vs := xs.toList.map a.eval ++ vs) (by rw [← hz]; simp [hla, hl]) (fun i v x hi hj => ?_)).mono ?_
 ·rw [← hz] at hj
  rcases Nat.lt_or_ge i az.length with hlt | hge
  ·rw [List.getElem?_append_left hlt, ← hev, List.getElem?_map] at hj
   rw [List.getElem?_append_left (by simp; omega), List.getElem?_map] at hi
   cases hx : xs.toList[i]? with
   | none => rw [hx] at hi; cases hi
   | some y => rw [hx] at hi hj; cases hi; cases hj; exact hr.ev y
  rw [List.getElem?_append_right hge] at hj;rw [List.getElem?_append_right (by simp; omega)] at hi
  simp only [List.length_map, Array.length_toList] at hi
  rw [← hla] at hi;exact hp _ v x hi hj
 rintro e w' ⟨v, c', rfl, rfl, hr', hfr⟩;exact hK c' v hr' (.fr _ _ hfr)
end
section
variable {st : St} {r res : AV} {H : List (Nat × Qs)}
theorem Yt {ts : List Nat} (hH : XD H) (hs : ∀ o ob, Qj H o = some ob → Qj st.H o = some ob) (h : (Q7 st ts).fzt = some r) (hr : r = res) :
  (Q7 st ts).fzt = some res ∧ ∀ o ob, Qj H o = some ob → Qj st.H o = some ob ∧ Qe ≤ o ∧ JO 0 ob = true :=
 ⟨by rw [h, hr], fun o ob ho => ⟨hs o ob ho, (hH.h o ob ho).1, (hH.h o ob ho).2.2.2.2⟩⟩
theorem K7 {rs : List RS} (hH : XD H) (hs : ∀ o ob, Qj H o = some ob → Qj st.H o = some ob) (h : (resY st rs).bind AV.fzt = some r) (hr : r = res) :
  (resY st rs).bind AV.fzt = some res ∧ ∀ o ob, Qj H o = some ob → Qj st.H o = some ob ∧ Qe ≤ o ∧ JO 0 ob = true :=
 ⟨by rw [h, hr], fun o ob ho => ⟨hs o ob ho, (hH.h o ob ho).1, (hH.h o ob ho).2.2.2.2⟩⟩
end
theorem Xh {es : List (List AV)} (h : ∀ e ∈ es, fzs e = some e) : (es.flatten.all fun x => match x with | .p _ | .sl _ none | .emp | .bot | .el _ => true | _ => false) = true := by
 refine List.all_eq_true.2 fun x hx => ?_
 obtain ⟨e, he, hxe⟩ := List.mem_flatten.1 hx;obtain ⟨i, hi⟩ := List.getElem?_of_mem hxe
 have := (KH (h e he)).2 i x x hi hi
 cases x with
 | sl es tk => cases tk with
  | none => rfl
  | some o => simp [AV.fz1] at this
 | ptr o off => simp [AV.fz1] at this
 | own o n => simp [AV.fz1] at this
 | eptr o n off => simp [AV.fz1] at this
 | agg => simp [AV.fz1] at this
 | tup => simp [AV.fz1] at this
 | fn => simp [AV.fz1] at this
 | _ => rfl
theorem Qm7 {L : Nat} {x : AV} (h : okId 0 x = true) : okId L x = true := by
 have one : ∀ x : AV, okId1 0 x = true → okId1 L x = true := fun x h => by
  cases x with
  | sl es tk => cases tk with
   | none => rfl
   | some o => simpa [okId1] using .inr (by simpa [okId1] using h)
  | ptr o off => simpa [okId1] using .inr (by simpa [okId1] using h)
  | own o n => simpa [okId1] using .inr (by simpa [okId1] using h)
  | eptr o n off => simpa [okId1] using .inr (by simpa [okId1] using h)
  | _ => first | rfl | exact h
 have many : ∀ cs : List AV, cs.all (okId1 0) = true → cs.all (okId1 L) = true := fun cs h => List.all_eq_true.2 fun x hx => one x (List.all_eq_true.1 h x hx)
 cases x with
 | agg cs => exact many cs h
 | tup cs => exact many cs h
 | fn f cs => exact many cs h
 | sl es tk => exact one (.sl es tk) h
 | ptr o off => exact one (.ptr o off) h
 | own o n => exact one (.own o n) h
 | eptr o n off => exact one (.eptr o n off) h
 | _ => rfl
theorem Qkr {L : Nat} {ob : Qs} (h : JO 0 ob = true) : JO L ob = true := by
 cases ob with
 | var t cs => exact List.all_eq_true.2 fun x hx => Qm7 (List.all_eq_true.1 h x hx)
 | tok => rfl
 | arr t k es => exact List.all_eq_true.2 fun x hx => Qm7 (List.all_eq_true.1 h x hx)
theorem QI {E : Jp} {st st' : St} {H pre : List (Nat × Qs)} (hH : XD H) (eH : st'.H = pre ++ H) (hL : Nat.ble st'.nx Qe = true) (ht : QhP st st'.nx st'.t) (hp : QqD st st'.nx pre) (hs : ∀ o ob, Qj H o = some ob → Qj st.H o = some ob) : KE E st st' := by
 refine QgJ (Nat.le_of_ble_eq_true hL) ?_ ?_
 ·have key : ∀ l : List (Nat × AV), QhP st st'.nx l → ∀ p ∈ l, st.get p.1 = p.2 ∧ okId st'.nx p.2 = true := by
   intro l
   induction l with
   | nil => simp
   | cons q l ih =>
    obtain ⟨i, x⟩ := q;rintro ⟨h1, h2, h3⟩ p hp
    rcases List.mem_cons.1 hp with rfl | hp
    ·exact ⟨by simp [St.get, h1], h2⟩
    exact ih h3 p hp
  exact key _ ht
 ·have key : ∀ l : List (Nat × Qs), QqD st st'.nx l → ∀ p ∈ l, Qj st.H p.1 = some p.2 ∧ (Nat.blt p.1 st'.nx || Nat.ble Qe p.1) = true ∧ JO st'.nx p.2 = true := by
   intro l
   induction l with
   | nil => simp
   | cons q l ih =>
    obtain ⟨i, x⟩ := q;rintro ⟨h1, h2, h3, h4⟩ p hp
    rcases List.mem_cons.1 hp with rfl | hp
    ·exact ⟨h1, h2, h3⟩
    exact ih h4 p hp
  rw [eH];intro p hpm
  rcases List.mem_append.1 hpm with hpm | hpm
  ·exact key _ hp p hpm
  ·have h1 := hH.m p hpm
   have h2 := hH.h _ _ h1
   exact ⟨hs _ _ h1, by rw [Bool.or_eq_true]; exact .inr (Nat.ble_eq_true_of_le h2.1), Qkr h2.2.2.2.2⟩
theorem Qdc {ρ : List (Nat × Nat)} (hρ : ∀ o, Qe ≤ o → rn ρ o = o) {x : AV} (h : Qd5 x = true) : KL ρ x = x := by
 cases x with
 | sl es tk => cases tk with
  | none => rfl
  | some o => simp only [KL, hρ o (Nat.le_of_ble_eq_true h)]
 | ptr o off => simp only [KL, hρ o (Nat.le_of_ble_eq_true h)]
 | own o n => simp only [KL, hρ o (Nat.le_of_ble_eq_true h)]
 | eptr o n off => simp only [KL, hρ o (Nat.le_of_ble_eq_true h)]
 | _ => rfl
theorem Qc6 {ρ : List (Nat × Nat)} (hρ : ∀ o, Qe ≤ o → rn ρ o = o) {xs : List AV} (h : xs.all Qd5 = true) : xs.map (KL ρ) = xs := by
 exact (List.map_congr_left (f := KL ρ) (g := id) (fun x hx => Qdc hρ (List.all_eq_true.1 h x hx))).trans (List.map_id _)
theorem QqR {ρ : List (Nat × Nat)} (hρ : ∀ o, Qe ≤ o → rn ρ o = o) {x : AV} (h : QdJ x = true) : QcD ρ x = x := by
 cases x with
 | agg cs => exact congrArg AV.agg (Qc6 hρ h)
 | tup cs => exact congrArg AV.tup (Qc6 hρ h)
 | fn f cs => exact congrArg (AV.fn f) (Qc6 hρ h)
 | sl es tk => exact Qdc (x := .sl es tk) hρ h
 | ptr o off => exact Qdc (x := .ptr o off) hρ h
 | own o n => exact Qdc (x := .own o n) hρ h
 | eptr o n off => exact Qdc (x := .eptr o n off) hρ h
 | _ => rfl
theorem Qq4 {x : AV} (h : (match x with | .p _ | .sl _ none | .emp | .bot | .el _ => true | _ => false) = true) : Qd5 x = true := by
 cases x with
 | sl es tk => cases tk with
  | none => rfl
  | some o => cases h
 | _ => first | rfl | cases h
theorem QiH {ob : Qs} (h : okB ob = true) : ob.cells.all Qd5 = true := by
 cases ob with
 | var t cs => exact h
 | tok => rfl
 | arr t k es => exact List.all_eq_true.2 fun x hx => Qq4 (List.all_eq_true.1 h x hx)
theorem Qj9 {ρ : List (Nat × Nat)} (hρ : ∀ o, Qe ≤ o → rn ρ o = o) {ob : Qs} (h : okB ob = true) : Wm ρ ob = ob := by
 have hc := QiH h
 cases ob with
 | var t cs => exact congrArg (Qs.var t) (Qc6 hρ hc)
 | tok => rfl
 | arr t k es =>
  refine congrArg (Qs.arr t k) ?_;exact (List.map_congr_left (f := fun e => e.map (KL ρ)) (g := id) (fun e he => Qc6 hρ (List.all_eq_true.2 fun x hx => List.all_eq_true.1 hc x (List.mem_flatten.2 ⟨e, he, hx⟩)))).trans (List.map_id _)
theorem Qgo {Ho : List (Nat × Qs)} {x : AV} (h : (match x with | .p _ | .sl _ none | .emp | .bot | .el _ => true | _ => false) = true) : Qbg Ho x = true := by
 cases x with
 | sl es tk => cases tk with
  | none => rfl
  | some o => cases h
 | _ => first | rfl | cases h
theorem QsK {H : List (Nat × Qs)} {p : Nat × Qs} {x : AV} (h : Qbg H x = true) : Qbg (p :: H) x = true := by
 obtain ⟨i, y⟩ := p
 have one : ∀ o, (Qj H o).isSome = true → (Qj ((i, y) :: H) o).isSome = true := fun o h => by
  rw [QA]
  split
  ·rfl
  exact h
 cases x with
 | sl es tk => cases tk with
  | none => rfl
  | some o => exact one o h
 | ptr o off => exact one o h
 | own o n => exact one o h
 | eptr o n off => exact one o h
 | _ => first | rfl | exact h
theorem Qmj {H : List (Nat × Qs)} {p : Nat × Qs} {ob : Qs} (h : Qga H ob = true) : ob.cells.all (Qbg (p :: H)) = true := by
 cases ob with
 | var t cs => exact List.all_eq_true.2 fun x hx => QsK (List.all_eq_true.1 h x hx)
 | tok => rfl
 | arr t k es => exact List.all_eq_true.2 fun x hx => Qgo (List.all_eq_true.1 h x hx)
section
variable {P : Program} {E : Jp} {Q : Exit → St → Prop} {ops : Array Oper} {o : Oper} {rest : List Oper} {t : List (Nat × AV)} {Hs : List (Nat × Qs)} {nx N d : Nat} {w : Bool}
theorem WE (hN : E.N = N) {f : FuncId} {bs : List AV} {H : List (Nat × Qs)} {te : TypeId} {k n r m : Nat} {es : List (List AV)} (hH : XD H) (hes : ∀ e ∈ es, fzs e = some e) (hc : GX P f bs H (.own r n) ((r, .arr te k es) :: H) m) [hf : Q8 P f] (ho : QbB ⟨t, Hs, nx⟩ o f bs) (hbig : bs.all QdJ = true)
  (hs : ∀ o ob, Qj H o = some ob → Qj Hs o = some ob) (hr : Nat.blt r m = true) (hk : Nat.ble (nx + m) Qe = true)
  (hg : Qr ops ⟨t, Hs, nx⟩ o = some w) (hw : w = true) (hd : o.dst = some d) (hdN : Nat.blt d N = true)
  (h : Q3 P E ops rest Q ⟨(d, .own (nx + r) n) :: t, (nx + r, .arr te k es) :: Hs, nx + m⟩) : Q3 P E ops (o :: rest) Q ⟨t, Hs, nx⟩ := fun c a hrel => by
 subst hw
 have hrm : r < m := Nat.le_of_ble_eq_true hr
 have hmB : nx + m ≤ Qe := Nat.le_of_ble_eq_true hk
 have hid : ∀ o, Qe ≤ o → rn (Qjx nx m) o = o := fun o ho => by
  rw [rn, Qdt, if_neg (by omega)]; rfl
 have hnew : ∀ o, o < m → rn (Qjx nx m) o = nx + o := fun o ho => by
  rw [rn, Qdt, if_pos ho]; rfl
 have hge : ∀ o, (Qj H o).isSome = true → Qe ≤ o := fun o g => by
  obtain ⟨x, hx⟩ := Option.isSome_iff_exists.1 g;exact (hH.h o x hx).1
 have fresh : ∀ o, o < m → Qj Hs (nx + o) = none := fun o ho => by
  cases hx : Qj Hs (nx + o) with
  | none => rfl
  | some ob =>
   rcases hrel.ids _ (hrel.live _ ob hx).1 with h | h
   ·have h : nx + o < nx := h
    omega
   have := E.kb _ h; omega
 refine wpList_step fun K hK => ?_
 rw [XL hg hrel, if_pos rfl];obtain ⟨vs, hrun, hvl, hv⟩ := ho.run (P := P) hrel
 unfold Oper.wp
 rw [hrun, Oper.upon_enter];refine (hrel.xcall hc (Qjx nx m) ((nx + r, .arr te k es) :: Hs) hmB (fun o ob h => ?_) hnew (fun o o' g1 g2 e => ?_) (fun o g => ?_) (fun o ob h => ?_) (fun o hD => ?_) (fun q hq => ?_) ?_ (by simpa using hvl) hbig (fun i v x hi hj => ?_)).mono ?_
 ·obtain ⟨h1, h2, h3, h4, h5⟩ := hH.h o ob h
  rw [hid o h1, Qj9 hid h2];exact ⟨hs o ob h, h1, QiH h2⟩
 ·rwa [hid o (hge o g1), hid o' (hge o' g2)] at e
 ·rw [QA] at g
  split at g
  ·rename_i e; subst e; exact .inr hrm
  exact .inl g
 ·rw [QA] at h
  split at h
  ·cases h
   refine List.all_eq_true.2 fun x hx => ?_
   obtain ⟨e, he, hxe⟩ := List.mem_flatten.1 hx;exact Qgo (List.all_eq_true.1 (Xh hes) x hx)
  exact Qmj (hH.h o ob h).2.2.1
 ·rw [QA, QA]
  rcases hD with hD | hD
  ·have h1 := hge o hD
   rw [hid o h1, if_neg (by omega), if_neg (by omega)];obtain ⟨x, hx⟩ := Option.isSome_iff_exists.1 hD;rw [hx, hs o x hx, Option.map_some, Qj9 hid (hH.h o x hx).2.1]
  rw [hnew o hD]
  by_cases e : o = r
  ·subst e
   rw [if_pos rfl, if_pos rfl, Option.map_some];exact congrArg some (congrArg (Qs.arr te k) (QcO hes).symm)
  rw [if_neg (by omega), if_neg e, fresh o hD]
  cases hx : Qj H o with
  | none => rfl
  | some x => have := hge o (by rw [hx]; rfl); omega
 ·rw [QA, if_neg]
  rintro rfl;exact hq r (.inr hrm) (hnew r hrm)
 ·show (Qj ((r, Qs.arr te k es) :: H) r).isSome = true
  rw [QA, if_pos rfl]; rfl
 ·rw [QqR hid (List.all_eq_true.1 hbig x (List.mem_of_getElem? hj))]
  exact hv i v x hi hj
 rintro e w' ⟨v, c', rfl, rfl, hr', hvr⟩
 have hput := hr'.put (d := o.dst) (dlt hN hd hdN) hvr
 rw [hd] at hput;refine hK _ _ (h c' _ ?_);rw [hd]
 have e1 : QcD (Qjx nx m) (.own r n) = .own (nx + r) n := by show AV.own (rn _ r) n = _; rw [hnew r hrm]
 rw [e1] at hput;exact hput
end
theorem Qeb {ts : List Nat} {st : St} {r res : AV} {q m : Nat} {ob : Qs} {H : List (Nat × Qs)} (hH : XD H) (hs : ∀ o ob, Qj H o = some ob → Qj st.H o = some ob) (h : (Q7 st ts).ntt = r) (hr : r = res) (hok : okId m res = true) (hn : Nat.ble st.nx m = true) (hm : Nat.ble m Qe = true)
  {ob' : Qs} (hq : Qj st.H q = some ob') (e : ob' = ob) (hqm : Nat.blt q m = true) (hob : JO m ob = true) :
  (Q7 st ts).ntt = res ∧ okId m res = true ∧ Nat.ble st.nx m = true ∧ Nat.ble m Qe = true ∧ ∀ o ob2, Qj ((q, ob) :: H) o = some ob2 → Qj st.H o = some ob2 ∧ (Nat.blt o m || Nat.ble Qe o) = true ∧ JO m ob2 = true := by
 refine ⟨by rw [h, hr], hok, hn, hm, fun o ob2 ho => ?_⟩;rw [QA] at ho
 split at ho
 ·rename_i e2; subst e2; cases ho; exact ⟨by rw [hq, e], by rw [hqm, Bool.true_or], hob⟩
 obtain ⟨h1, h2, h3, h4, h5⟩ := hH.h o ob2 ho;exact ⟨hs o ob2 ho, by rw [Bool.or_eq_true]; exact .inr (Nat.ble_eq_true_of_le h1), Qkr h5⟩
def QsS : List AV → List AV → Prop
 | [], [] => True
 | x :: xs, y :: ys => (x = y ∨ (x = .p (.slice none 0 0) ∧ y = .sl [] none)) ∧ QsS xs ys
 | _, _ => False
theorem QgC : ∀ {xs ys : List AV}, QsS xs ys → xs.length = ys.length
 | [], [], _ => rfl
 | _ :: xs, _ :: ys, h => congrArg (· + 1) (QgC h.2)
 | [], _ :: _, h => h.elim
 | _ :: _, [], h => h.elim
theorem Qnb : ∀ {xs ys : List AV}, QsS xs ys → ∀ (i : Nat) (x y : AV), xs[i]? = some x → ys[i]? = some y → ∀ (c : Cx) (v : Value), VR c v x → VR c v y
 | [], [], _, i, x, y, hx, _ => by simp at hx
 | a :: xs, b :: ys, h, 0, x, y, hx, hy => fun c v hv => by
  simp at hx hy; subst hx hy
  rcases h.1 with e | ⟨e1, e2⟩
  ·rw [← e]; exact hv
  subst e1 e2
  rw [hv.p_inv]; exact .fr _ _ (.nil _ _ _ _ (Nat.zero_le _))
 | a :: xs, b :: ys, h, i + 1, x, y, hx, hy => Qnb h.2 i x y (by simpa using hx) (by simpa using hy)
 | [], _ :: _, h, _, _, _, _, _ => h.elim
 | _ :: _, [], h, _, _, _, _, _ => h.elim
section
variable {E : Jp} {t : List (Nat × AV)} {H : List (Nat × Qs)} {nx : Nat}
theorem QbR (q : Nat) {tt : TypeId} {cs cs' : List AV} (hq : Qj H q = some (.var tt cs)) (h : QsS cs cs') : KE E ⟨t, H, nx⟩ ⟨t, (q, .var tt cs') :: H, nx⟩ := fun c a hr => by
 have hlk : ∀ o, Qj ((q, Qs.var tt cs') :: H) o = if o = q then some (Qs.var tt cs') else Qj H o := fun o => QA _ _ _ _
 refine ⟨c, rfl, { hr with live := fun o ob ho => ?_, dead := fun o ho => ?_ }⟩
 ·replace ho : Qj ((q, Qs.var tt cs') :: H) o = some ob := ho
  rw [hlk] at ho
  split at ho
  ·rename_i e
   subst e
   cases ho
   obtain ⟨g1, v, g2, g3, g4⟩ := hr.live _ _ hq;refine ⟨g1, v, g2, ?_, g4⟩
   cases g3 with
   | var b ccs _ _ hh hl hp hS =>
    refine .var b ccs tt cs' hh (hl.trans (QgC h)) (fun i u y hi hy => ?_) hS
    have hil : i < cs.length := by rw [QgC h]; exact (List.getElem?_eq_some_iff.1 hy).1
    exact Qnb h i _ y (List.getElem?_eq_getElem hil) hy c u (hp i u _ hi (List.getElem?_eq_getElem hil))
  exact hr.live o ob ho
 replace ho : Qj ((q, Qs.var tt cs') :: H) o = none := ho
 rw [hlk] at ho
 split at ho
 ·cases ho
 exact hr.dead o ho
end
section
variable {P : Program} {E : Jp} {ops : Array Oper} {o : Oper} {t : List (Nat × AV)} {H : List (Nat × Qs)} {nx N d : Nat} {w : Bool} {T : St → Prop}
theorem Quc (hN : E.N = N) (hB : Nat.blt nx Qe = true) {tt : TypeId} {x : Operand} {ax : AV} {cs : List AV} (ho : o.op = .box tt x) (hx : Jj ⟨t, H, nx⟩ x = some ax) (hc : ∀ st : St, st.cells1 ax = some cs) (hq : Qei H nx = true) (hg : Qr ops ⟨t, H, nx⟩ o = some w) (hw : w = true) (hd : o.dst = some d) (hdN : Nat.blt d N = true)
  (h : T ⟨(d, .ptr nx 0) :: t, (nx, .var tt cs) :: H, nx + 1⟩) : FK P E ops o T ⟨t, H, nx⟩ := by
 subst hw
 refine ⟨⟨d, .ptr nx 0, nx, .var tt cs, 1⟩, ⟨hg, hq, hd, by rw [hN]; exact Nat.le_of_ble_eq_true hdN, fun st g1 g2 g3 c a hr => ?_⟩, h⟩
 have hnx : st.nx = nx := g3
 have hv := hr.ev x
 rw [g1 x (by simp [ho, Op.operands]), Q5 hx] at hv;obtain ⟨h1, h2, -⟩ := hr.cells hv (hc st)
 obtain ⟨c', e1, -, hle, hK, hV, hr'⟩ := hr.new (by rw [hnx]; exact Nat.le_of_ble_eq_true hB) (KZ c.w (.cells (a.eval x).cells tt)) (.pointer (some ⟨c.w.heap.size, 0, none⟩)) (.var tt cs)
  (fun c' e1 e2 hle => .var c.w.heap.size (a.eval x).cells tt cs (by rw [e1]; exact W3 _ _ _) h1 (fun i u y hi hj => (h2 i u y hi hj).mono hle) (fun off hs => by
   rw [e2] at hs
   exact Nat.lt_irrefl _ (hr.Ssz _ _ hs))) (fun b hb => by simp [Xj] at hb; omega)
 rw [hnx] at hK hV hr';refine ⟨.pointer (some ⟨c.w.heap.size, 0, none⟩), c', ?_, ?_, .ptr _ _ _ hK fun b hb => ?_⟩
 ·rw [e1]
  simp [execOp, ho, Instr.box, newVar, newRow]
 ·show Js E c' a ⟨st.t, (nx, .var tt cs) :: st.H, st.nx + 1⟩
  rw [hnx]; exact hr'
 rw [hV] at hb
 simpa using hb
end
section
variable {H H' R : List (Nat × Qs)} {x ob : Qs} {k i : Nat}
end
end Go.Proofs.YtnkkokmmeplbgaaGreat
