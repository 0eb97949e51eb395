/-
  A receiver with a row of its own in a cell: readers; nil in 
-/
import Derived.Test.YtnkkokmmeplbgaaGreatA8
import Derived.Test.YtnkkokmmeplbgaaGreatA10
import Derived.Test.YtnkkokmmeplbgaaGreatA3
import Derived.Test.YtnkkokmmeplbgaaGreatT5
import Derived.Test.YtnkkokmmeplbgaaGreatA4
namespace Go.Proofs.YtnkkokmmeplbgaaGreat
open Go.RowKit
theorem Qhq {E : Jn} {t : List (Nat × AV)} {H : List (Nat × Qx)} {nx : Nat} (hB : Nat.blt nx QB = true) (q i : Nat) (te : TypeId) (k : Nat) {tt : TypeId} {cs : List AV} (hq : Qi H q = some (.var tt cs)) (hn : Nat.beq q nx = false) (h : cs[i]? = some (.p (.slice none 0 0))) : Kx E ⟨t, H, nx⟩ ⟨t, (q, .var tt (cs.set i (.own nx 0))) :: (nx, .arr te k []) :: H, nx + 1⟩ := fun c a hr => by
 obtain ⟨c', e1, e2, hle, e4, e5, hr'⟩ := hr.new (Nat.le_of_ble_eq_true hB) (Bel.refl c.w) (.slice none 0 0) (.arr te k []) (fun c' e1 e2 hle => .arr _ te k [] [] (World.ownsRow_nil _ 0 te k) (by simp) (by simp) (fun b hb => by simp [Xi] at hb)) (fun b hb => by simp [Xi] at hb)
 have hv : VR c' (.slice none 0 0) (.own nx 0) := by
  refine .own _ _ _ e4 (fun A n' cap hh => ?_)
  rw [show c'.V nx = some (.slice none 0 0) from e5] at hh
  cases hh
  exact ⟨Nat.le_refl _, fun _ => rfl⟩
 have hne : q ≠ nx := fun e => by subst e; simp at hn
 have hlk : ∀ o, Qi ((q, Qx.var tt (cs.set i (.own nx 0))) :: (nx, .arr te k []) :: H) o = if o = q then some (Qx.var tt (cs.set i (.own nx 0))) else Qi ((nx, .arr te k []) :: H) o := fun o => QH _ _ _ _
 have hqq : Qi ((nx, Qx.arr te k []) :: H) q = some (.var tt cs) := by rw [QiM _ _ hne]; exact hq
 refine ⟨c', e1, { hr' with live := fun o ob ho => ?_, dead := fun o ho => ?_ }⟩
 ·replace ho : Qi ((q, Qx.var tt (cs.set i (.own nx 0))) :: (nx, .arr te k []) :: H) o = some ob := ho
  rw [hlk] at ho
  split at ho
  ·rename_i e
   subst e
   cases ho
   obtain ⟨g1, v, g2, g3, g4⟩ := hr'.live _ _ hqq
   refine ⟨g1, v, g2, ?_, g4⟩
   cases g3 with
   | var b ccs _ _ hb hl hc hS =>
    refine .var b ccs tt _ hb (by simp [hl]) (fun j u x hj hx => ?_) hS
    rw [List.getElem?_set] at hx
    split at hx
    ·rename_i e
     subst e
     split at hx
     ·cases hx
      have := (hc _ u _ hj h).p_inv
      rw [this]; exact hv
     cases hx
    exact hc j u x hj hx
  exact hr'.live o ob ho
 replace ho : Qi ((q, Qx.var tt (cs.set i (.own nx 0))) :: (nx, .arr te k []) :: H) o = none := ho
 rw [hlk] at ho
 split at ho
 ·cases ho
 exact hr'.dead o ho
theorem Qj0 {es : List (List AV)} (h : ∀ e ∈ es, fzs e = some e) : (es.flatten.all fun x => match x with | .p _ | .sl _ none | .emp | .bot | .el _ => true | _ => false) = true := by
 refine List.all_eq_true.2 fun x hx => ?_
 obtain ⟨e, he, hxe⟩ := List.mem_flatten.1 hx
 obtain ⟨i, hi⟩ := List.getElem?_of_mem hxe
 have := (Yy (h e he)).2 i x x hi hi
 cases x with
 | sl es tk => cases tk with
  | none => rfl
  | some o => simp [AV.fz1] at this
 | ptr o off => simp [AV.fz1] at this
 | own o n => simp [AV.fz1] at this
 | eptr o n off => simp [AV.fz1] at this
 | agg => simp [AV.fz1] at this
 | tup => simp [AV.fz1] at this
 | fn => simp [AV.fz1] at this
 | _ => rfl
theorem Ql9 {st : St} {ob ob' o2 o2' : Qx} (ho : Qi st.H QB = some ob') (he : ob' = ob) (hk : Yj 0 ob = true) (h2 : Qi st.H (QB + 1) = some o2') (e2 : o2' = o2) (k2 : Yj 0 o2 = true) : ∀ o ob2, Qi [(QB, ob), (QB + 1, o2)] o = some ob2 → Qi st.H o = some ob2 ∧ QB ≤ o ∧ Yj 0 ob2 = true := fun o ob2 hz => by
 subst he e2
 replace hz : Qi ((QB, ob') :: [(QB + 1, o2')]) o = some ob2 := hz
 rw [QH, Yl] at hz
 split at hz
 ·rename_i e; cases hz; subst e; exact ⟨ho, Nat.le_refl _, hk⟩
 split at hz
 ·rename_i e; cases hz; subst e; exact ⟨h2, Nat.le_succ _, k2⟩
 cases hz
theorem YJ {st : St} {ts : List Nat} {r res : AV} {ob ob' o2 o2' : Qx} (h : (Xa st ts).fzt = some r) (hr : r = res) (ho : Qi st.H QB = some ob') (he : ob' = ob) (hk : Yj 0 ob = true) (h2 : Qi st.H (QB + 1) = some o2') (e2 : o2' = o2) (k2 : Yj 0 o2 = true) :
  (Xa st ts).fzt = some res ∧ ∀ o ob2, Qi [(QB, ob), (QB + 1, o2)] o = some ob2 → Qi st.H o = some ob2 ∧ QB ≤ o ∧ Yj 0 ob2 = true := ⟨by rw [h, hr], Ql9 ho he hk h2 e2 k2⟩
theorem Qeh {st : St} {rs : List RS} {r res : AV} {ob ob' o2 o2' : Qx} (h : (resY st rs).bind AV.fzt = some r) (hr : r = res) (ho : Qi st.H QB = some ob') (he : ob' = ob) (hk : Yj 0 ob = true) (h2 : Qi st.H (QB + 1) = some o2') (e2 : o2' = o2) (k2 : Yj 0 o2 = true) :
  (resY st rs).bind AV.fzt = some res ∧ ∀ o ob2, Qi [(QB, ob), (QB + 1, o2)] o = some ob2 → Qi st.H o = some ob2 ∧ QB ≤ o ∧ Yj 0 ob2 = true := ⟨by rw [h, hr], Ql9 ho he hk h2 e2 k2⟩
section
variable {P : Program} {E : Jn} {o : Oper} {st : St}
theorem XE {g : FuncId} {bs zs : List AV} {tt te : TypeId} {k : Nat} {cs cs1 : List AV} {es : List (List AV)} {res : AV} (q q2 : Nat) (hc : GC P g bs [(QB, .var tt cs), (QB + 1, .arr te k es)] res [(QB, .var tt cs), (QB + 1, .arr te k es)]) (hes : ∀ e ∈ es, fzs e = some e) {xs : Array Operand} {ts : Array TypeId} (ho : o.op = .call { callee := .value (.func g), args := xs, argTypes := ts }) [hf : Xh P g] (ha : evl st xs.toList = some zs) (hab : bs.map (QaE [(QB, q), (QB + 1, q2)]) = zs) (hbig : bs.all Qjc = true)
  (h1 : cs.map (QaC [(QB, q), (QB + 1, q2)]) = cs1) (hq : Qi st.H q = some (.var tt cs1)) (hq2 : Qi st.H q2 = some (.arr te k es)) (hqq : Nat.beq q q2 = false) (h2 : okB (.var tt cs) = true) (h3 : Qok [(QB, .var tt cs), (QB + 1, .arr te k es)] (.var tt cs) = true) : PY P E o st res := by
 intro st' k1 k2 c a hr K Q hK
 have he := Qcs ha
 have hev : xs.toList.map st'.ev = zs := by
  rw [← he]
  refine List.map_congr_left fun y hy => k1 y ?_
  simp only [ho, Op.operands, Call.operands]
  simp [Array.mem_toList_iff.1 hy]
 have hl : zs.length = xs.size := by rw [← hev]; simp
 have hrun : (execOp a.eval o).run P c.w = .ok (.enter g (xs.toList.map a.eval).toArray) c.w := by
  have e1 : a.eval (.func g) = .func (.func g) #[] #[] := rfl
  have e2 : (xs.toList.map a.eval).toArray = xs.map a.eval := by apply Array.ext'; simp
  simp [execOp, ho, resolve, invoke, e1, Deferred.ofValue, hf.h, e2]
 unfold Oper.wp
 rw [hrun, Oper.upon_enter]
 have hrn : rn [(QB, q), (QB + 1, q2)] QB = q := rfl
 have hrn2 : rn [(QB, q), (QB + 1, q2)] (QB + 1) = q2 := rfl
 have hne : q ≠ q2 := fun e => by subst e; simp at hqq
 have lk2 : ∀ (x y : Qx) (o : Nat), Qi [(QB, x), (QB + 1, y)] o = if o = QB then some x else if o = QB + 1 then some y else none := fun x y o => by
  show Qi ((QB, x) :: [(QB + 1, y)]) o = _
  rw [QH, Yl]
 have two : ∀ (x y z : Qx) (o : Nat), Qi [(QB, x), (QB + 1, y)] o = some z → (o = QB ∧ z = x) ∨ (o = QB + 1 ∧ z = y) := fun x y z o h => by
  rw [lk2] at h
  split at h
  ·rename_i e; cases h; exact .inl ⟨e, rfl⟩
  split at h
  ·rename_i e; cases h; exact .inr ⟨e, rfl⟩
  cases h
 have twoS : ∀ (x y : Qx) (o : Nat), (Qi [(QB, x), (QB + 1, y)] o).isSome = true → o = QB ∨ o = QB + 1 := fun x y o h => by
  cases hz : Qi [(QB, x), (QB + 1, y)] o with
  | none => rw [hz] at h; cases h
  | some z =>
   rcases two x y z o hz with ⟨e, -⟩ | ⟨e, -⟩
   ·exact .inl e
   exact .inr e
 have hq' := k2 _ _ hq rfl
 have hq2' := k2 _ _ hq2 rfl
 have hO1 : Qg6 [(QB, q), (QB + 1, q2)] (.var tt cs) = .var tt cs1 := congrArg (Qx.var tt) h1
 refine (hr.gcall hc [(QB, q), (QB + 1, q2)] st'.H (fun o z h => ?_) (fun o o' g1 g2 e => ?_) (fun o => rfl) (fun o z h => ?_) (fun o z h => ?_) (fun _ _ => rfl) (vs := xs.toList.map a.eval) (by rw [List.length_map, ← List.length_map (f := QaE [(QB, q), (QB + 1, q2)]), hab, hl]; simp) hbig (fun i v x hi hj => ?_)).mono ?_
 ·rcases two _ _ _ _ h with ⟨rfl, rfl⟩ | ⟨rfl, rfl⟩
  ·rw [hrn, hO1]; exact ⟨hq', Nat.le_refl _, h2⟩
  rw [hrn2]; exact ⟨hq2', Nat.le_succ _, Qj0 hes⟩
 ·rcases twoS _ _ _ g1 with rfl | rfl <;> rcases twoS _ _ _ g2 with rfl | rfl
  ·rfl
  ·exact absurd e (by rw [hrn, hrn2]; exact hne)
  ·exact absurd e (by rw [hrn, hrn2]; exact hne.symm)
  rfl
 ·rcases two _ _ _ _ h with ⟨rfl, rfl⟩ | ⟨rfl, rfl⟩
  ·exact h3
  exact Qj0 hes
 ·rcases two _ _ _ _ h with ⟨rfl, rfl⟩ | ⟨rfl, rfl⟩
  ·rw [hrn, hO1]; exact hq'
  rw [hrn2]; exact hq2'
 ·have hj' : zs[i]? = some (QaE [(QB, q), (QB + 1, q2)] x) := by rw [← hab, List.getElem?_map, hj]; rfl
  rw [List.getElem?_map] at hi
  cases hx : xs.toList[i]? with
  | none => rw [hx] at hi; cases hi
  | some y =>
   rw [hx] at hi; cases hi
   have : zs[i]? = some (st'.ev y) := by rw [← hev, List.getElem?_map, hx]; rfl
   rw [hj'] at this
   rw [Option.some.inj this]
   exact hr.ev y
 rintro e w' ⟨v, c', rfl, rfl, hr', hfr⟩
 exact hK c' v hr' (.fr _ _ hfr)
end
section
variable {P : Program} {E : Jn} {ops : Array Oper} {o : Oper} {t : List (Nat × AV)} {H : List (Nat × Qx)} {nx N d : Nat} {w : Bool}
theorem QrC (hN : E.N = N) (hB : Nat.blt nx QB = true) {tt e : TypeId} {k : Nat} [hT : JJ P tt e k] {zs : List Value} [hZ : Q7 P e zs] (hzk : zs.length = k) {y : Nat} (hby : (P.info? e).map (·.bytes) = some y) (hy : Nat.ble y 1000 = true) {lx cx : Operand} (ho : o.op = .makeSlice tt lx cx) {n : Nat} (hl : Jh ⟨t, H, nx⟩ lx = some (.p (.int .i64 (n : Int)))) (hc : Jh ⟨t, H, nx⟩ cx = some (.p (.int .i64 (n : Int)))) (hn : n ≤ 1000000)
  (hkq : Qdo H nx = true) (hg : Qp ops ⟨t, H, nx⟩ o = some w) (hw : w = true) (hd : o.dst = some d) (hdN : Nat.blt d N = true)
  {T : St → Prop} (h : T ⟨(d, .own nx n) :: t, (nx, .arr e k (List.replicate n (zs.map .p))) :: H, nx + 1⟩) : FK P E ops o T ⟨t, H, nx⟩ := by
 subst hw hzk
 refine ⟨⟨d, .own nx n, nx, .arr e zs.length (List.replicate n (zs.map .p)), 1⟩, ⟨hg, hkq, hd, by rw [hN]; exact Nat.le_of_ble_eq_true hdN, fun st g1 g2 g3 c a hr => ?_⟩, h⟩
 have hnx : st.nx = nx := g3
 have eL := g1 lx (by simp [ho, Op.operands])
 have eC := g1 cx (by simp [ho, Op.operands])
 have hy := Nat.le_of_ble_eq_true hy
 have hvl := hr.ev lx
 rw [eL, Q6 hl] at hvl
 have hvl := hvl.p_inv
 have hvc := hr.ev cx
 rw [eC, Q6 hc] at hvc
 have hvc := hvc.p_inv
 obtain ⟨i, hi, hsz⟩ := Jt hT.size
 have hzz := hZ.h
 rw [hi] at hzz
 rw [hi] at hby
 have hby : i.bytes = y := by simpa using hby
 cases hz0 : i.zero with
 | none => simp [hz0] at hzz
 | some z =>
  have hzc : z.cells.toList = zs := by simpa [hz0] using hzz
  have hzs : z.cells.size = zs.length := by rw [← hzc]; simp
  have hmul : (i.bytes : Int) * (n : Int) ≤ 1000 * 1000000 := by
   rw [hby]
   have h1 : y * n ≤ 1000 * 1000000 := Nat.mul_le_mul hy hn
   have h2 : ((y * n : Nat) : Int) = (y : Int) * (n : Int) := Int.natCast_mul y n
   omega
  have hmk := run_make (P := P) c.w tt e i z (Xk hT.h) hi hz0 .i64 .i64 (n : Int) (n : Int) (by omega) (Int.le_refl _) (by omega) (by omega)
  obtain ⟨xs, hxs⟩ : ∃ xs, xs = madeCells z.cells (n * zs.length) := ⟨_, rfl⟩
  have hxl : xs.size = n * zs.length := by rw [hxs]; simp [madeCells]
  have hxv : ∀ (j : Nat) (u : Value), xs[j]? = some u → zs[j % zs.length]? = some u := fun j u hj => by
   obtain ⟨hjl, hju⟩ := Array.getElem?_eq_some_iff.1 hj
   have hpos : 0 < zs.length := by
    rcases Nat.eq_zero_or_pos zs.length with h0 | h0
    ·rw [hxl, h0] at hjl; omega
    exact h0
   have hm : j % zs.length < z.cells.size := by rw [hzs]; exact Nat.mod_lt _ hpos
   subst hxs
   have e1 : (madeCells z.cells (n * zs.length))[j] = z.cells[j % z.cells.size]! := by simp [madeCells]
   have hm2 : j % z.cells.size < z.cells.size := by rw [hzs]; exact Nat.mod_lt _ hpos
   rw [← hju, e1, getElem!_pos z.cells _ hm2]
   rw [← hzc, Array.length_toList, Array.getElem?_toList, Array.getElem?_eq_getElem hm2]
  have hrun : (execOp a.eval o).run P c.w = .ok (.value (.slice (some ⟨c.w.heap.size, 0, none⟩) n n)) (c.w.alloc (.cells xs e)) := by
   simp only [Int.toNat_natCast, hsz, ← hxs] at hmk
   simp [execOp, ho, hvl, hvc, hmk]
  have hown : (c.w.alloc (.cells xs e)).ownsRow 0 e zs.length (.slice (some ⟨c.w.heap.size, 0, none⟩) n n) n xs.toList :=
   ⟨by simp [hxl], .inr ⟨c.w.heap.size, n, _, rfl, Nat.zero_le _, WV _ _ _, Nat.le_refl _, by unfold maxLen; omega, hxl, List.take_of_length_le (by simp [hxl])⟩⟩
  obtain ⟨c', e1, e2, hle, e4, e5, hr'⟩ := hr.new (by rw [hnx]; exact Nat.le_of_ble_eq_true hB) (KS c.w (.cells xs e)) (.slice (some ⟨c.w.heap.size, 0, none⟩) n n) (.arr e zs.length (List.replicate n (zs.map .p)))
   (fun c' e1 e2 hle => .arr _ e zs.length _ xs.toList (by rw [e1, List.length_replicate]; exact hown) (fun e he => by rw [List.eq_of_mem_replicate he, List.length_map]) (fun j u y hj hy => by
    have hj' : xs[j]? = some u := by simpa using hj
    have hlt : j < n * (zs.map AV.p).length := by
     have := (Array.getElem?_eq_some_iff.1 hj').1
     rw [List.length_map, ← hxl]; exact this
    rw [QgJ _ _ _ hlt, List.length_map, List.getElem?_map, hxv j u hj'] at hy
    cases hy
    exact .fr _ _ (.p _)) (fun b hb off hs => by
    rw [e2] at hs
    have : c.w.heap.size = b := by simpa [Xi] using hb
    subst this
    exact Nat.lt_irrefl _ (hr.Ssz _ _ hs))) (fun b hb => by
    have : c.w.heap.size = b := by simpa [Xi] using hb
    omega)
  rw [hnx] at e4 e5 hr'
  refine ⟨_, c', by rw [e1]; exact hrun, ?_, .own _ _ _ e4 (fun A n' cap hh => ?_)⟩
  ·show Jp E c' a ⟨st.t, (nx, .arr e zs.length (List.replicate n (zs.map .p))) :: st.H, st.nx + 1⟩
   rw [hnx]; exact hr'
  rw [e5] at hh
  cases hh
  exact ⟨Nat.le_refl _, fun _ => rfl⟩
end
section
variable {P : Program} {E : Jn} {ops : Array Oper} {o : Oper} {t : List (Nat × AV)} {H : List (Nat × Qx)} {nx N d : Nat} {w : Bool}
theorem Qbk {i : Nat} {T : St → Prop} (hN : E.N = N) (hi0 : ops[i]? = some o) {f : FuncId} {bs avs : List AV} {Hin Hout : List (Nat × Qx)} {res res' : AV} {m : Nat} (ρ : List (Nat × Nat)) (hc : GX P f bs Hin res Hout m) [hf : Xh P f] (ho : Qaq ⟨t, H, nx⟩ o f avs) {ρ' : List (Nat × Nat)} (hρ : ρ ++ Qnf nx m = ρ') (hab : bs.map (QaE ρ') = avs) (hbig : bs.all Qjc = true)
  (hin : QmD ρ' H Hin) (hk : xOk ρ ρ' Hin Hout m nx = true) (hout : Qmz Hout Hout) (hrs : Qm1 Hout res = true) {Hn H' : List (Nat × Qx)} (hHn : Hout.map (fun p => (rn ρ' p.1, Wu ρ' p.2)) = Hn) (hH : Hn ++ H = H') (hre : QaE ρ' res = res')
  (hg : Qp ops ⟨t, H, nx⟩ o = some w) (hw : w = true) (hd : o.dst = some d) (hdN : Nat.blt d N = true)
  (h : T ⟨(d, res') :: t, H', nx + m⟩) : aNw P E ops i T ⟨t, H, nx⟩ := by
 subst hw hH hre hHn
 refine ⟨o, ⟨t, Hout.map (fun p => (rn ρ' p.1, Wu ρ' p.2)) ++ H, nx + m⟩, QaE ρ' res, hi0, hg, dlt hN hd hdN, fun c a hr K Q hK => ?_, by rw [hd]; exact h⟩
 simp only [xOk, Bool.and_eq_true] at hk
 obtain ⟨⟨⟨⟨k1, k2⟩, k3⟩, k4⟩, k5⟩ := hk
 have hmB : nx + m ≤ QB := Nat.le_of_ble_eq_true k2
 have hnew : ∀ o, o < m → rn ρ' o = nx + o := fun o ho => by
  have h0 : Qi ρ o = none := Qbh fun p hp e => by
   have := Nat.le_of_ble_eq_true (List.all_eq_true.1 k1 p hp)
   omega
  rw [← hρ, rn, Qau, h0, QeL, if_pos ho]
  rfl
 have hdi := QdC hin
 have inj : ∀ o o', (Qi Hin o).isSome = true → (Qi Hin o').isSome = true → rn ρ' o = rn ρ' o' → o = o' := fun o o' g1 g2 e => by
  obtain ⟨p, hp, rfl⟩ := WZ g1
  obtain ⟨q, hq, rfl⟩ := WZ g2
  have := List.all_eq_true.1 (List.all_eq_true.1 k3 p hp) q hq
  rw [e, Nat.beq_refl, Bool.not_true, Bool.false_or] at this
  exact Nat.eq_of_beq_eq_true this
 have dom : ∀ o, (Qi Hout o).isSome = true → (Qi Hin o).isSome = true ∨ o < m := fun o g => by
  obtain ⟨p, hp, rfl⟩ := WZ g
  rcases Bool.or_eq_true _ _ ▸ List.all_eq_true.1 k4 p hp with h | h
  ·exact .inl h
  exact .inr (Nat.le_of_ble_eq_true h)
 have dom2 : ∀ o, (Qi Hin o).isSome = true → (Qi Hout o).isSome = true := fun o g => by
  obtain ⟨p, hp, rfl⟩ := WZ g
  exact List.all_eq_true.1 k5 p hp
 have fresh : ∀ o, o < m → Qi H (nx + o) = none := fun o ho => by
  cases hx : Qi H (nx + o) with
  | none => rfl
  | some ob =>
   rcases hr.ids _ (hr.live _ ob hx).1 with h | h
   ·have h : nx + o < nx := h
    omega
   have := E.kb _ h; omega
 have kin : ∀ o, (Qi Hin o).isSome = true → rn ρ' o < nx ∨ QB ≤ rn ρ' o := fun o g => by
  cases hx : Qi Hin o with
  | none => rw [hx] at g; cases g
  | some ob =>
   rcases hr.ids _ (hr.live _ _ (hdi o ob hx).1).1 with h | h
   ·exact .inl h
   exact .inr (E.kb _ h)
 have injD : ∀ o o', ((Qi Hin o).isSome = true ∨ o < m) → ((Qi Hin o').isSome = true ∨ o' < m) → rn ρ' o = rn ρ' o' → o = o' := fun o o' g1 g2 e => by
  rcases g1 with g1 | g1 <;> rcases g2 with g2 | g2
  ·exact inj o o' g1 g2 e
  ·have := kin o g1; rw [e, hnew o' g2] at this; omega
  ·have := kin o' g2; rw [← e, hnew o g1] at this; omega
  rw [hnew o g1, hnew o' g2] at e; omega
 have lk : ∀ (l : List (Nat × Qx)), (∀ p ∈ l, (Qi Hin p.1).isSome = true ∨ p.1 < m) → ∀ o, ((Qi Hin o).isSome = true ∨ o < m) → Qi (l.map fun p => (rn ρ' p.1, Wu ρ' p.2)) (rn ρ' o) = (Qi l o).map (Wu ρ') := by
  intro l
  induction l with
  | nil => intro _ o _; rfl
  | cons p l ih =>
   intro hl o hD
   obtain ⟨j, x⟩ := p
   rw [List.map_cons, QH, QH]
   by_cases e : o = j
   ·subst e; rw [if_pos rfl, if_pos rfl]; rfl
   rw [if_neg e, if_neg (fun e2 => e (injD o j hD (hl (j, x) (.head _)) e2))]
   exact ih (fun p hp => hl p (.tail _ hp)) o hD
 have hDl : ∀ p ∈ Hout, (Qi Hin p.1).isSome = true ∨ p.1 < m := fun p hp => dom p.1 (Qgz hp)
 obtain ⟨vs, hrun, hvl, hv⟩ := ho.run (P := P) hr
 unfold Oper.wp
 rw [hrun, Oper.upon_enter]
 subst hab
 refine (hr.xcall hc ρ' (Hout.map (fun p => (rn ρ' p.1, Wu ρ' p.2)) ++ H) hmB hdi hnew inj dom (QdA hout) (fun o hD => ?_) (fun q hq => ?_) hrs (by simpa using hvl) hbig (fun i v x hi hj => hv i v _ hi (by rw [List.getElem?_map, hj]; rfl))).mono ?_
 ·rw [Qau, lk Hout hDl o hD]
  cases hx : Qi Hout o with
  | some ob => rfl
  | none =>
   rcases hD with h | h
   ·have := dom2 o h; rw [hx] at this; cases this
   show Qi H (rn ρ' o) = none
   rw [hnew o h]; exact fresh o h
 ·rw [Qau, Qbh (fun p hp e => ?_)]
  ·rfl
  obtain ⟨p0, hp0, rfl⟩ := List.mem_map.1 hp
  exact hq p0.1 (hDl p0 hp0) e
 rintro e w' ⟨v, c', rfl, rfl, hr', hvr⟩
 exact hK c' v hr' hvr
end
end Go.Proofs.YtnkkokmmeplbgaaGreat
