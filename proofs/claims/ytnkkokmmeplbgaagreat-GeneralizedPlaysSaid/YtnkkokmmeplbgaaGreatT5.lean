/-
  Calls of which only what they leave unturned is known (not t
-/
import Derived.Test.YtnkkokmmeplbgaaGreatA8
import Derived.Test.YtnkkokmmeplbgaaGreatA7
import Derived.Test.YtnkkokmmeplbgaaGreatA4
import Derived.Test.YtnkkokmmeplbgaaGreatA3
namespace Go.Proofs.YtnkkokmmeplbgaaGreat
open Go.RowKit
section
variable {c : Cx} {E : Jp} {a : Act} {st : St}
end
section
variable {P : Program} {E : Jp} {Q : Exit → St → Prop} {ops : Array Oper} {o : Oper} {rest : List Oper} {t : List (Nat × AV)} {H : List (Nat × Qs)} {nx N d : Nat} {w : Bool}
end
theorem QkP (zs : List AV) : ∀ (n i : Nat), i < n * zs.length → (List.replicate n zs).flatten[i]? = zs[i % zs.length]?
 | 0, i, h => by omega
 | n + 1, i, h => by
  rw [List.replicate_succ, List.flatten_cons]
  rcases Nat.lt_or_ge i zs.length with h1 | h1
  ·rw [List.getElem?_append_left h1, Nat.mod_eq_of_lt h1]
  rw [List.getElem?_append_right h1, QkP zs n (i - zs.length) (by rw [Nat.add_mul, Nat.one_mul] at h; omega), ← Nat.mod_eq_sub_mod h1]
section
variable {P : Program} {E : Jp} {Q : Exit → St → Prop} {ops : Array Oper} {o : Oper} {rest : List Oper} {t : List (Nat × AV)} {H : List (Nat × Qs)} {nx N d : Nat} {w : Bool}
theorem QnC (hN : E.N = N) (hB : Nat.blt nx Qe = true) {tt e : TypeId} {k : Nat} [hT : J8 P tt e k] {zs : List Value} [hZ : Xa P e zs] (hzk : zs.length = k) {y : Nat} (hby : (P.info? e).map (·.bytes) = some y) (hy : Nat.ble y 1000 = true) {lx cx : Operand} (ho : o.op = .makeSlice tt lx cx) {n : Nat} (hl : Jj ⟨t, H, nx⟩ lx = some (.p (.int .i64 (n : Int)))) (hc : Jj ⟨t, H, nx⟩ cx = some (.p (.int .i64 (n : Int)))) (hn : n ≤ 1000000)
  (hg : Qr ops ⟨t, H, nx⟩ o = some w) (hw : w = true) (hd : o.dst = some d) (hdN : Nat.blt d N = true)
  (h : Q3 P E ops rest Q ⟨(d, .own nx n) :: t, (nx, .arr e k (List.replicate n (zs.map .p))) :: H, nx + 1⟩) : Q3 P E ops (o :: rest) Q ⟨t, H, nx⟩ := by
 subst hw hzk
 refine Qbu (.own nx n) ⟨t, (nx, .arr e zs.length (List.replicate n (zs.map .p))) :: H, nx + 1⟩ hg (dlt hN hd hdN) (fun c a hr => ?_) (by rw [hd]; exact h)
 have hy := Nat.le_of_ble_eq_true hy
 have hvl := hr.ev lx
 rw [Q5 hl] at hvl
 have hvl := hvl.p_inv
 have hvc := hr.ev cx
 rw [Q5 hc] at hvc
 have hvc := hvc.p_inv
 obtain ⟨i, hi, hsz⟩ := JL hT.size
 have hzz := hZ.h
 rw [hi] at hzz;rw [hi] at hby
 have hby : i.bytes = y := by simpa using hby
 cases hz0 : i.zero with
 | none => simp [hz0] at hzz
 | some z =>
  have hzc : z.cells.toList = zs := by simpa [hz0] using hzz
  have hzs : z.cells.size = zs.length := by rw [← hzc]; simp
  have hmul : (i.bytes : Int) * (n : Int) ≤ 1000 * 1000000 := by
   rw [hby]
   have h1 : y * n ≤ 1000 * 1000000 := Nat.mul_le_mul hy hn
   have h2 : ((y * n : Nat) : Int) = (y : Int) * (n : Int) := Int.natCast_mul y n
   omega
  have hmk := run_make (P := P) c.w tt e i z (Xz hT.h) hi hz0 .i64 .i64 (n : Int) (n : Int) (by omega) (Int.le_refl _) (by omega) (by omega)
  obtain ⟨xs, hxs⟩ : ∃ xs, xs = madeCells z.cells (n * zs.length) := ⟨_, rfl⟩
  have hxl : xs.size = n * zs.length := by rw [hxs]; simp [madeCells]
  have hxv : ∀ (j : Nat) (u : Value), xs[j]? = some u → zs[j % zs.length]? = some u := fun j u hj => by
   obtain ⟨hjl, hju⟩ := Array.getElem?_eq_some_iff.1 hj
   have hpos : 0 < zs.length := by
    rcases Nat.eq_zero_or_pos zs.length with h0 | h0
    ·rw [hxl, h0] at hjl; omega
    exact h0
   have hm : j % zs.length < z.cells.size := by rw [hzs]; exact Nat.mod_lt _ hpos
   subst hxs
   have e1 : (madeCells z.cells (n * zs.length))[j] = z.cells[j % z.cells.size]! := by simp [madeCells]
   have hm2 : j % z.cells.size < z.cells.size := by rw [hzs]; exact Nat.mod_lt _ hpos
   rw [← hju, e1, getElem!_pos z.cells _ hm2];rw [← hzc, Array.length_toList, Array.getElem?_toList, Array.getElem?_eq_getElem hm2]
  have hrun : (execOp a.eval o).run P c.w = .ok (.value (.slice (some ⟨c.w.heap.size, 0, none⟩) n n)) (c.w.alloc (.cells xs e)) := by
   simp only [Int.toNat_natCast, hsz, ← hxs] at hmk
   simp [execOp, ho, hvl, hvc, hmk]
  have hown : (c.w.alloc (.cells xs e)).ownsRow 0 e zs.length (.slice (some ⟨c.w.heap.size, 0, none⟩) n n) n xs.toList :=
   ⟨by simp [hxl], .inr ⟨c.w.heap.size, n, _, rfl, Nat.zero_le _, W3 _ _ _, Nat.le_refl _, by unfold maxLen; omega, hxl, List.take_of_length_le (by simp [hxl])⟩⟩
  obtain ⟨c', e1, e2, hle, e4, e5, hr'⟩ := hr.new (Nat.le_of_ble_eq_true hB) (KZ c.w (.cells xs e)) (.slice (some ⟨c.w.heap.size, 0, none⟩) n n) (.arr e zs.length (List.replicate n (zs.map .p)))
   (fun c' e1 e2 hle => .arr _ e zs.length _ xs.toList (by rw [e1, List.length_replicate]; exact hown) (fun e he => by rw [List.eq_of_mem_replicate he, List.length_map]) (fun j u y hj hy => by
    have hj' : xs[j]? = some u := by simpa using hj
    have hlt : j < n * (zs.map AV.p).length := by
     have := (Array.getElem?_eq_some_iff.1 hj').1
     rw [List.length_map, ← hxl]; exact this
    rw [QkP _ _ _ hlt, List.length_map, List.getElem?_map, hxv j u hj'] at hy
    cases hy
    exact .fr _ _ (.p _)) (fun b hb off hs => by
    rw [e2] at hs
    have : c.w.heap.size = b := by simpa [Xj] using hb
    subst this
    exact Nat.lt_irrefl _ (hr.Ssz _ _ hs))) (fun b hb => by
    have : c.w.heap.size = b := by simpa [Xj] using hb
    omega)
  refine ⟨_, c', by rw [e1]; exact hrun, hr', .own _ _ _ e4 (fun A n' cap hh => ?_)⟩;rw [show c'.V nx = some _ from e5] at hh
  cases hh
  exact ⟨Nat.le_refl _, fun _ => rfl⟩
end
section
variable {P : Program} {E : Jp} {ops : Array Oper} {md : Region.Mode}
def AU (P : Program) (E : Jp) (ops : Array Oper) (md : Region.Mode) (Q : Exit → St → Prop) : Nat → Array Bool → St → Prop
 | 0, listed, s => Region.ready md ops listed = [] ∧ Q .normal s
 | f + 1, listed, s => (∃ i oi x, ops[i]? = some oi ∧ (Region.ready md ops listed).contains i = true ∧ Region.free md ops listed i = true ∧ WI P E ops oi x s ∧ AU P E ops md Q f (listed.setIfInBounds i true) (s.put oi.dst x)) ∨
  ((Region.ready md ops listed = [] → Q .normal s) ∧ ∀ i ∈ Region.ready md ops listed, aOp P E ops i (AU P E ops md Q f (listed.setIfInBounds i true)) s ∨ aSt P E ops i (AU P E ops md Q f (listed.setIfInBounds i true)) s ∨ aNw P E ops i (AU P E ops md Q f (listed.setIfInBounds i true)) s)
theorem QaA {Q : Exit → St → Prop} (hs : Region.noSelect ops = true) (hQ : ∀ c s, Q (.panic c) s → False) : ∀ (f : Nat) (listed : Array Bool) (c : Cx) (a : Act) (s : St), Js E c a s → AU P E ops md Q f listed s → wpAny P md ops (QhM E Q) f listed a c.w
 | 0, _, c, _, s, hr, h => ⟨h.1, c, s, rfl, hr, h.2⟩
 | f + 1, listed, c, a, s, hr, h => by
  rcases h with ⟨i, oi, x, hoi, hrd, hfr, ⟨hd, hwi⟩, hk⟩ | h
  ·obtain ⟨v, hy, hv⟩ := hwi c a hr
   exact wpAny_take hoi hs hfr hrd (fun c' a' w' ⟨c2, s2, _, _, hq⟩ => (hQ c' s2 hq).elim) hy (QaA hs hQ f _ c _ _ (hr.put hd hv) hk)
  refine ⟨fun h0 => ⟨c, s, rfl, hr, h.1 h0⟩, fun i hi => ?_⟩
  rcases h.2 i hi with h1 | ⟨o, s', ho, hw, hd, hrun, hk⟩ | ⟨o, s', x, ho, hw, hd, hrun, hk⟩
  ·exact Ws hr (fun c' a' s' hr' h' => QaA hs hQ f _ c' a' s' hr' h') h1
  ·unfold wpOp
   simp only [ho]
   rw [XL hw hr, if_pos rfl];obtain ⟨c', hrun', hr'⟩ := hrun c a hr;refine .inl ?_
   unfold Oper.wp
   rw [hrun', Oper.upon_skip, hd];exact QaA hs hQ f _ c' _ s' hr' hk
  unfold wpOp
  simp only [ho]
  rw [XL hw hr, if_pos rfl];exact .inl (hrun c a hr _ _ fun c' v hr' hv => QaA hs hQ f _ c' _ _ (hr'.put hd hv) hk)
theorem QiE {Q : Exit → St → Prop} {st : St} {id : Nat} {l : List Oper} (n : Nat) (hn : l.toArray.size = n) (hm : P.follows .mixedOrders = true) (hs : Region.noSelect l.toArray = true) (hQ : ∀ c s, Q (.panic c) s → False) (h : AU P E l.toArray .any Q n (Array.replicate n false) st) : Ym P E (.region id l.toArray true) Q st := fun c a hr => by
 subst hn
 exact wp_region_any hm (QaA hs hQ _ _ _ _ _ hr.drew h)
def Qu6 (P : Program) (E : Jp) (ops : Array Oper) (md : Region.Mode) (Q : Exit → St → Prop) (f : Nat) (listed : Array Bool) (s : St) : List Nat → Prop
 | [] => True
 | i :: r => (aOp P E ops i (AU P E ops md Q f (listed.setIfInBounds i true)) s ∨ aSt P E ops i (AU P E ops md Q f (listed.setIfInBounds i true)) s ∨ aNw P E ops i (AU P E ops md Q f (listed.setIfInBounds i true)) s) ∧ Qu6 P E ops md Q f listed s r
theorem Qap {Q : Exit → St → Prop} {f : Nat} {listed : Array Bool} {s : St} (rs : List Nat) (hr : Region.ready md ops listed = rs) (hne : rs.isEmpty = false) (h : Qu6 P E ops md Q f listed s rs) : AU P E ops md Q (f + 1) listed s := by
 have key : ∀ (rs : List Nat), Qu6 P E ops md Q f listed s rs → ∀ i ∈ rs, aOp P E ops i (AU P E ops md Q f (listed.setIfInBounds i true)) s ∨ aSt P E ops i (AU P E ops md Q f (listed.setIfInBounds i true)) s ∨ aNw P E ops i (AU P E ops md Q f (listed.setIfInBounds i true)) s := by
  intro rs
  induction rs with
  | nil => intro _ i hi; cases hi
  | cons j r ih =>
   rintro ⟨h1, h2⟩ i hi
   rcases List.mem_cons.1 hi with rfl | hi
   ·exact h1
   exact ih h2 i hi
 refine .inr ⟨fun h0 => ?_, fun i hi => key rs h i (hr ▸ hi)⟩
 rw [h0] at hr; subst hr; cases hne
theorem Qtn {Q : Exit → St → Prop} {listed : Array Bool} {s : St} (hr : Region.ready md ops listed = []) (h : Q .normal s) : AU P E ops md Q 0 listed s := ⟨hr, h⟩
variable {o : Oper} {t : List (Nat × AV)} {H : List (Nat × Qs)} {nx N d : Nat} {w : Bool} {T : St → Prop} {i : Nat}
theorem Jm {Q : Exit → St → Prop} {f : Nat} {listed : Array Bool} (i : Nat) (hi : ops[i]? = some o) (hr : (Region.ready md ops listed).contains i = true) (hf : Region.free md ops listed i = true) {x : AV} (hd : o.dst = some d) (hy : WI P E ops o x ⟨t, H, nx⟩)
  (h : AU P E ops md Q f (listed.setIfInBounds i true) ⟨(d, x) :: t, H, nx⟩) : AU P E ops md Q (f + 1) listed ⟨t, H, nx⟩ := .inl ⟨i, o, x, hi, hr, hf, hy, by rw [hd]; exact h⟩
theorem QvP {s s' : St} {x : AV} (hi : ops[i]? = some o) (hg : Qr ops s o = some true) (hd : Qh8 E o) (h : ∀ c a, Js E c a s → ∃ v, ∃ c' : Cx, (execOp a.eval o).run P c.w = .ok (.value v) c'.w ∧ Js E c' a s' ∧ VR c' v x) (hT : T (s'.put o.dst x)) : aNw P E ops i T s :=
 ⟨o, s', x, hi, hg, hd, fun c a hr K Q hK => by
  obtain ⟨v, c', h1, h2, h3⟩ := h c a hr
  unfold Oper.wp
  rw [h1, Oper.upon_value]
  exact hK c' v h2 h3, hT⟩
theorem QgV (hN : E.N = N) (hi0 : ops[i]? = some o) (hB : Nat.blt nx Qe = true) {tt : TypeId} (ho : o.op = .alloc tt) {zs : List Value} [hz : Xa P tt zs] (hg : Qr ops ⟨t, H, nx⟩ o = some w) (hw : w = true) (hd : o.dst = some d) (hdN : Nat.blt d N = true)
  (h : T ⟨(d, .ptr nx 0) :: t, (nx, .var tt (zs.map .p)) :: H, nx + 1⟩) : aNw P E ops i T ⟨t, H, nx⟩ := by
 subst hw
 refine QvP (s' := ⟨t, (nx, .var tt (zs.map .p)) :: H, nx + 1⟩) (x := .ptr nx 0) hi0 hg (dlt hN hd hdN) (fun c a hr => ?_) (by rw [hd]; exact h)
 have hzs := hz.h
 cases hi : P.info? tt with
 | none => simp [hi] at hzs
 | some i =>
  cases hz0 : i.zero with
  | none => simp [hi, hz0] at hzs
  | some z =>
   have hzc : z.cells.toList = zs := by simpa [hi, hz0] using hzs
   obtain ⟨c', e1, -, hle, hK, hV, hr'⟩ := hr.new (Nat.le_of_ble_eq_true hB) (KZ c.w (.cells z.cells tt)) (.pointer (some ⟨c.w.heap.size, 0, none⟩)) (.var tt (zs.map .p))
    (fun c' e1 e2 hle => .var c.w.heap.size z.cells tt _ (by rw [e1]; exact W3 _ _ _) (by rw [← hzc]; simp) (fun j u y hi hj => by
     rw [← hzc, List.getElem?_map] at hj
     have hi' : z.cells.toList[j]? = some u := by simpa using hi
     rw [hi'] at hj
     cases hj
     exact .fr _ _ (.p u)) (fun off hs => by
     rw [e2] at hs
     exact Nat.lt_irrefl _ (hr.Ssz _ _ hs))) (fun b hb => by simp [Xj] at hb; omega)
   refine ⟨.pointer (some ⟨c.w.heap.size, 0, none⟩), c', ?_, hr', .ptr _ _ _ hK fun b hb => ?_⟩
   ·rw [e1]
    simp [execOp, ho, Instr.alloc, zeroValue, typeInfo, hi, hz0, newVar, newRow]
   rw [hV] at hb
   simpa using hb
theorem XJ (hN : E.N = N) {s0 : St} {s f : Nat} {x : Operand} (ho : o.op = .fieldAddr s x f) {off n : Nat} {row : Bool} [hT : QU P s f off n row] {ax y : AV} (hx : Jj s0 x = some ax) {ys : List AV} (hc : s0.at_ ax = some (y :: ys)) {r : AV} (hm : moved off ax = some r)
  (hg : Qr ops s0 o = some w) (hw : w = true) (hd : o.dst = some d) (hdN : Nat.blt d N = true) : WI P E ops o r s0 := Qho hN hg hw hd hdN fun c a hr => by
 have hv := hr.ev x
 rw [Q5 hx] at hv;obtain ⟨b, off0, hat⟩ := hr.at_ hv hc;obtain ⟨hp, _⟩ := hat 0 _ rfl;rw [hp] at hv;obtain ⟨ft, h3, h4, _⟩ := hT.h
 have hpos := hT.pos
 refine ⟨.pointer (some ⟨b, off0 + off, none⟩), fun w => ?_, hv.moved hm⟩
 unfold Qe3 at h3
 split at h3
 ·rename_i fs hfs
  cases hfl : fs[f]? with
  | none => rw [hfl] at h3; cases h3
  | some fl =>
   rw [hfl] at h3
   simp only [Option.map_some, Option.some.injEq, Prod.mk.injEq] at h3
   obtain ⟨e1, e2⟩ := h3
   subst e1 e2
   have hz : n ≠ 0 := by omega
   simp [execOp, ho, hp, Instr.fieldAt, run_underlying hfs, hfl, Instr.sureAddr, fieldPlace, Je h4, hz, Addr.add_mk]
 cases h3
end
section
variable {P : Program} {E : Jp} {ops : Array Oper} {o : Oper} {t : List (Nat × AV)} {H : List (Nat × Qs)} {nx N d : Nat} {w : Bool} {T : St → Prop} {i : Nat}
theorem Qai (hN : E.N = N) {s : St} {x : Operand} {j : Nat} (ho : o.op = .extract x j) {xs : List AV} (hx : Jj s x = some (.tup xs)) {r : AV} (hj : xs[j]? = some r) (hg : Qr ops s o = some w) (hw : w = true) (hd : o.dst = some d) (hdN : Nat.blt d N = true) : WI P E ops o r s := Qho hN hg hw hd hdN fun c a hr => by
 have hv := hr.ev x
 rw [Q5 hx] at hv
 generalize hvx : a.eval x = vx at *
 have key : ∃ vs : List Value, vx = .tuple vs.toArray ∧ vs.length = xs.length ∧ ∀ (i : Nat) (v : Value) (x : AV), vs[i]? = some v → xs[i]? = some x → VR c v x := by
  cases hv with
  | fr _ _ h => cases h with | tup vs _ hl h => exact ⟨vs, rfl, hl, fun i v x h1 h2 => .fr _ _ (h i v x h1 h2)⟩
  | tup vs _ hl h => exact ⟨vs, rfl, hl, h⟩
 obtain ⟨vs, rfl, hl, hp⟩ := key
 have hiv : j < vs.length := by have := (List.getElem?_eq_some_iff.1 hj).1; omega
 exact ⟨vs[j], fun w => by simp [execOp, ho, hvx, Instr.extract, hiv], hp j _ _ (List.getElem?_eq_getElem hiv) hj⟩
variable {α : Type} {f : α → List AV} {l : List α} {n : Nat} {s : St}
end
def FCb (P : Program) (f : FuncId) (args : List AV) (res : AV) : Prop :=
 ∀ (w : World) (S : Nat → Nat → Prop) (vs : List Value), (∀ b o, S b o → b < w.heap.size) → FRs w S vs args →
  Calls P f vs.toArray w fun e w' => ∃ v S', e = .returned v ∧ Below w.heap.size w w' ∧ (∀ b o, S b o → S' b o) ∧
   (∀ b o, S' b o → S b o ∨ (w.heap.size ≤ b ∧ b < w'.heap.size)) ∧ FR w' S' v res
theorem FC.b {P : Program} {f : FuncId} {args : List AV} {res : AV} (h : FC P f args res) : FCb P f args res := fun w S vs hS hv =>
 (h w S vs hS hv).mono fun _ _ ⟨v, S', h1, h2, h3, h4, h5⟩ => ⟨v, S', h1, h2.toBelow, h3, h4, h5⟩
section
variable {c : Cx} {E : Jp} {a : Act} {st : St}
end
section
variable {P : Program} {E : Jp} {o : Oper} {st : St}
end
theorem Yd {E : Jp} {t : List (Nat × AV)} {H : List (Nat × Qs)} {nx : Nat} (i : Nat) (h : Qj t i = some (.p (.slice none 0 0))) : KE E ⟨t, H, nx⟩ ⟨(i, .sl [] none) :: t, H, nx⟩ := fun c a hr => by
 refine ⟨c, rfl, { hr with live := hr.live, dead := hr.dead, tmps := fun j => ?_ }⟩
 have hj := hr.tmps j
 show VR c _ ((Qj ((i, AV.sl [] none) :: t) j).getD .bot)
 rw [QA]
 split
 ·rename_i e
  subst e
  rw [show St.get ⟨t, H, nx⟩ j = .p (.slice none 0 0) by simp [St.get, h]] at hj;rw [hj.p_inv];exact .fr _ _ (.nil _ _ _ _ (Nat.zero_le _))
 exact hj
section
variable {P : Program} {E : Jp} {ops : Array Oper} {md : Region.Mode} {Q : Exit → St → Prop} {f : Nat} {listed : Array Bool} {o : Oper} {t : List (Nat × AV)} {H : List (Nat × Qs)} {nx N d : Nat} {w : Bool} {x : Operand} {r : AV}
theorem yS (i : Nat) {tt : TypeId} {x y : Operand} {n : Nat} {row : Bool} {q off : Nat} {t' : TypeId} {cs : List AV} {ay : AV} {ys cs' : List AV} (h : AU P E ops md Q f (listed.setIfInBounds i true) ⟨t, (q, .var t' cs') :: H, nx⟩) (hr : Region.ready md ops listed = [i] := by kernel_rfl) (hi : ops[i]? = some o := by rfl) (ho : o.op = .store tt x y := by rfl) (hT : X1 P tt n row := by infer_instance) (hx : Jj ⟨t, H, nx⟩ x = some (.ptr q off) := by rfl) (hq : Qj H q = some (.var t' cs) := by rfl) (hy : Jj ⟨t, H, nx⟩ y = some ay := by rfl) (hc : St.cells1 ⟨t, H, nx⟩ ay = some ys := by rfl) (hn : ys.length = n := by rfl) (hle : off + ys.length ≤ cs.length := by exact Nat.le_of_ble_eq_true rfl) (hg : Qr ops ⟨t, H, nx⟩ o = some true := by rfl) (hd : o.dst = none := by rfl) (hs : Yx cs off ys = cs' := by rfl) : AU P E ops md Q (f + 1) listed ⟨t, H, nx⟩ :=
 Qap [i] hr rfl ⟨.inr (.inl (K9 hi ho hx hq hy hc hn hle hg rfl hd hs h)), trivial⟩
theorem yP (i : Nat) (hi : ops[i]? = some o) (hy : PY P E o ⟨t, H, nx⟩ r) (h : AU P E ops md Q f (listed.setIfInBounds i true) ⟨(d, r) :: t, H, nx⟩) (hN : E.N = N := by assumption) (hr : Region.ready md ops listed = [i] := by kernel_rfl) (hg : Qr ops ⟨t, H, nx⟩ o = some true := by rfl) (hd : o.dst = some d := by rfl) (hdN : Nat.blt d N = true := by rfl) : AU P E ops md Q (f + 1) listed ⟨t, H, nx⟩ :=
 Qap [i] hr rfl ⟨.inl (JA hi (zp hy h hN hg hd hdN)), trivial⟩
theorem yL (i : Nat) {tt : TypeId} {n : Nat} {row : Bool} {ax : AV} {cs : List AV} (h : AU P E ops md Q f (listed.setIfInBounds i true) ⟨(d, r) :: t, H, nx⟩) (hr : Region.ready md ops listed = [i] := by kernel_rfl) (hi : ops[i]? = some o := by rfl) (hN : E.N = N := by assumption) (ho : o.op = .load tt x := by rfl) (hT : X1 P tt n row := by infer_instance) (hx : Jj ⟨t, H, nx⟩ x = some ax := by rfl) (hc : St.at_ ⟨t, H, nx⟩ ax = some cs := by rfl) (hl : Wl row n cs = some r := by rfl) (hn : Nat.blt 0 n = true := by rfl) (hg : Qr ops ⟨t, H, nx⟩ o = some true := by rfl) (hd : o.dst = some d := by rfl) (hdN : Nat.blt d N = true := by rfl) : AU P E ops md Q (f + 1) listed ⟨t, H, nx⟩ :=
 Qap [i] hr rfl ⟨.inl (JA hi (Qbl hN (QbE ho hx hc hl hn) hg rfl hd hdN h)), trivial⟩
theorem yD (h : Q .normal ⟨t, H, nx⟩) (hr : Region.ready md ops listed = [] := by kernel_rfl) : AU P E ops md Q 0 listed ⟨t, H, nx⟩ := Qtn hr h
end
end Go.Proofs.YtnkkokmmeplbgaaGreat
