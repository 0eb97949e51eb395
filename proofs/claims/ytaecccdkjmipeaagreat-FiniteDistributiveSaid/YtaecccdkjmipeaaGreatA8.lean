/-
  Methods whose results lie in cells; functions that return th
-/
import Derived.Test.YtaecccdkjmipeaaGreatA5
import Derived.Test.YtaecccdkjmipeaaGreatA4
namespace Go.Proofs.YtaecccdkjmipeaaGreat
open Go.RowKit
theorem Ql8 {k : Nat} : ∀ {es : List (List AV)} {j : Nat} {e : List AV}, (∀ e ∈ es, e.length = k) → es[j]? = some e → es.flatten.drop (j * k) = e ++ (es.drop (j + 1)).flatten
 | [], _, _, _, h => by simp at h
 | x :: es, 0, e, hk, h => by simp at h; subst h; simp
 | x :: es, j + 1, e, hk, h => by
  have := Ql8 (es := es) (j := j) (fun e he => hk e (by simp [he])) (by simpa using h)
  rw [List.flatten_cons, show (j + 1) * k = x.length + j * k by rw [hk x (by simp), Nat.add_mul]; omega, List.drop_append, List.drop_of_length_le (by omega)]
  simpa using this
theorem Qni (x F ys : List AV) (p : Nat) : YL (x ++ F) (x.length + p) ys = x ++ YL F p ys := by
 have h1 : (x ++ F).take (x.length + p) = x ++ F.take p := by rw [List.take_append, List.take_of_length_le (Nat.le_add_right _ _), Nat.add_sub_cancel_left]
 have h2 : (x ++ F).drop (x.length + p + ys.length) = F.drop (p + ys.length) := by
  rw [List.drop_append, List.drop_of_length_le (by omega), Nat.add_assoc, Nat.add_sub_cancel_left]; rfl
 unfold YL
 rw [h1, h2]; simp
theorem Qlq {k : Nat} {ys : List AV} (hy : ys.length = k) : ∀ {es : List (List AV)} {j : Nat}, (∀ e ∈ es, e.length = k) → j < es.length → (es.set j ys).flatten = YL es.flatten (j * k) ys
 | [], j, _, h => by simp at h
 | x :: es, 0, hk, _ => by
  have := hk x (by simp)
  simp [YL, hy, ← this]
 | x :: es, j + 1, hk, h => by
  have ih := Qlq hy (es := es) (j := j) (fun e he => hk e (by simp [he])) (by simpa using h)
  have hx := hk x (by simp)
  rw [List.set_cons_succ, List.flatten_cons, ih, List.flatten_cons, show (j + 1) * k = x.length + j * k by rw [hx, Nat.add_mul]; omega, Qni]
section
variable {P : Program} {E : J1} {Q : Exit → St → Prop} {ops : Array Oper} {o : Oper} {rest : List Oper} {t : List (Nat × AV)} {H : List (Nat × QH)} {nx N d : Nat} {w : Bool} {st : St}
theorem JG {tt : TypeId} {x : Operand} (ho : o.op = .load tt x) {n : Nat} {row : Bool} [hT : X8 P tt n row] {q m off : Nat} (hx : X0 st x = some (.eptr q m off)) {te : TypeId} {k : Nat} {es : List (List AV)} (hq : Ql st.H q = some (.arr te k es)) (hm : m = es.length) (hk : ∀ e ∈ es, e.length = k) (j : Nat) (hoff : off = j * k) {e : List AV} (he : es[j]? = some e) {r : AV} (hl : ∀ z, WC row n (e ++ z) = some r) (hn : Nat.blt 0 n = true) : PY P E o st r := by
 subst hm hoff
 refine QfK ho hx (cs := e ++ (es.drop (j + 1)).flatten) ?_ (hl _) hn
 simp only [St.at_, hq]
 rw [Nat.beq_refl, cond_true, Ql8 hk he]
theorem QhR {tt : TypeId} {x y : Operand} (ho : o.op = .store tt x y) {n : Nat} {row : Bool} [hT : X8 P tt n row] {q off : Nat} {te : TypeId} {es : List (List AV)} (hx : X0 ⟨t, H, nx⟩ x = some (.eptr q es.length off)) (hq : Ql H q = some (.arr te n es)) (j : Nat) (hoff : off = j * n) (hj : j < es.length)
  {ay : AV} {ys : List AV} (hy : X0 ⟨t, H, nx⟩ y = some ay) (hc : St.cells1 ⟨t, H, nx⟩ ay = some ys) (hyn : ys.length = n) (hk : ∀ e ∈ es, e.length = n) : ∀ c a, JF E c a ⟨t, H, nx⟩ → ∃ c' : Cx, (execOp a.eval o).run P c.w = .ok .skip c'.w ∧ JF E c' a (St.set ⟨t, H, nx⟩ q (.arr te n (es.set j ys))) := fun c a hr => by
 subst hoff
 have hvx := hr.ev x
 rw [QT hx] at hvx
 have hce := hr.ev y
 rw [QT hy] at hce
 obtain ⟨h1, h2, h3⟩ := hr.cells hce hc
 obtain ⟨hkq, v0, hv0, hor, _⟩ := hr.live q _ hq
 cases hor with
 | arr _ _ _ _ xs hown _ hxs hS =>
  have hjn : (j + 1) * n ≤ es.length * n := Nat.mul_le_mul_right _ hj
  rw [Nat.add_mul, Nat.one_mul] at hjn
  rcases hown.2 with ⟨hnil, h0⟩ | ⟨g, cap, cur, hv, -, hgb, hnc, hcm, hcs, htk⟩
  ·omega
  subst hv
  have hvp : a.eval x = .pointer (some ⟨g, j * n, none⟩) := by
   generalize a.eval x = vx at hvx
   cases hvx with
   | fr _ _ h => cases h
   | eptr _ _ _ _ hK hV =>
    obtain ⟨_, h2⟩ := hV _ _ _ hv0
    obtain ⟨b', h3, h4⟩ := h2 rfl
    cases h3
    exact h4
  obtain ⟨vs, hvs⟩ : ∃ vs, vs = (a.eval y).cells.toList := ⟨_, rfl⟩
  have hvl : vs.length = n := by rw [hvs]; simp [h1, hyn]
  have hcapn : es.length * n ≤ cap * n := Nat.mul_le_mul_right _ hnc
  obtain ⟨cur', h4, h5, h6⟩ := KU g te (0, 0) vs (j * n) c.w cur hgb
  obtain ⟨r1, r2, r3, r4, r5⟩ := KA g vs (j * n) c.w
  have hxl : xs.length = es.length * n := hown.1
  have hcur : ∀ i, i < es.length * n → cur[i]? = xs[i]? := fun i hi => by
   have := congrArg (·[i]?) htk
   simpa only [List.getElem?_take, if_pos hi, Array.getElem?_toList] using this
  obtain ⟨xs', hxs'⟩ : ∃ xs', xs' = xs.take (j * n) ++ vs ++ xs.drop (j * n + n) := ⟨_, rfl⟩
  have hxg : ∀ i, xs'[i]? = if j * n ≤ i ∧ i < j * n + n then vs[i - j * n]? else xs[i]? := fun i => by
   rw [hxs']
   by_cases ha : i < j * n
   ·rw [if_neg (by omega), List.append_assoc, List.getElem?_append_left (by simp; omega), List.getElem?_take, if_pos ha]
   by_cases hb : i < j * n + n
   ·rw [if_pos (by omega), List.append_assoc, List.getElem?_append_right (by simp; omega), List.getElem?_append_left (by simp; omega)]
    congr 1
    simp; omega
   rw [if_neg (by omega), List.getElem?_append_right (by simp; omega), List.getElem?_drop]
   congr 1
   simp; omega
  have hxl' : xs'.length = es.length * n := by rw [hxs']; simp; omega
  have hfs := Qlq hyn hk hj
  have hel : ∀ e ∈ es.set j ys, e.length = n := fun e he => by
   rcases List.mem_or_eq_of_mem_set he with h | h
   ·exact hk e h
   rw [h]; exact hyn
  obtain ⟨c', e1, -, hle', -, -, hr'⟩ := hr.upd hq (w' := c.w.setCells g (j * n) vs) (S' := c.S) hv0 (.arr te n (es.set j ys)) (v' := .slice (some ⟨g, 0, none⟩) es.length cap) r1 r2 r3 ⟨by omega, by omega⟩
   (fun k hk hne => JD g _ _ _ k (fun e => hne (by rw [e]; rfl)))
   (fun b' off' hs => ⟨hs, by
    have hne : b' ≠ g := fun e => hS b' (by rw [e]; rfl) off' hs
    have := JD g vs (j * n) c.w b' hne
    simp only [World.cell?, this]⟩)
   (fun b' off' hs => .inl hs) (.inl rfl) (.refl _)
   (fun c' e1 e2 hle => .arr _ te n (es.set j ys) xs' (by
    rw [e1, List.length_set]
    refine ⟨hxl', .inr ⟨g, cap, cur', rfl, Nat.zero_le _, h4, hnc, hcm, by rw [h5, hcs], ?_⟩⟩
    have := QgO (cur := cur') (l := xs') (by rw [h5, hcs, hxl']; omega) (fun i hi => by
     rw [hxl'] at hi
     rw [h6, hxg]
     by_cases hin : j * n ≤ i ∧ i < j * n + n
     ·rw [if_pos ⟨hin.1, by rw [hvl]; exact hin.2, by rw [hcs]; omega⟩, if_pos hin]
     rw [if_neg (by rw [hvl]; omega), if_neg hin, hcur i hi])
    rwa [hxl'] at this) hel (fun i u z hi hz => by
     rw [hxg] at hi
     rw [hfs, Qce _ _ _ (by rw [QbE hk, hyn]; omega)] at hz
     rw [hyn] at hz
     by_cases hin : j * n ≤ i ∧ i < j * n + n
     ·rw [if_pos hin] at hi hz
      rw [hvs] at hi
      exact (h2 _ u z (by simpa using hi) hz).mono hle
     rw [if_neg hin] at hi hz
     exact (hxs i u z hi hz).mono hle) (fun b hb off hs => by rw [e2] at hs; exact hS b hb off hs))
  refine ⟨c', ?_, hr'⟩
  obtain ⟨i, hi, hsz⟩ := Jc hT.size
  have hrun := run_storeCells_cells (P := P) g (j * n) vs 0 c.w
   (fun i hi => by
    rw [Ka hgb]
    have : j * n + i < cur.size := by rw [hcs]; omega
    simp [this])
   (fun j hj => by simp [World.frozen?, hgb]) (fun v hv => h3 v (by rw [hvs] at hv; exact hv))
  rw [Nat.add_zero] at hrun
  rw [e1]
  have hsz2 : (a.eval y).cells.size = i.size := by rw [h1]; omega
  rw [hvs] at hrun ⊢
  simp [execOp, ho, hvp, Instr.storeAt, Instr.sureAddr, storeVar, sizeOf, typeInfo, hi, hsz2, hrun]
theorem Qb4 (hN : E.N = N) {tt : TypeId} {x y : Operand} (ho : o.op = .store tt x y) {n : Nat} {row : Bool} [hT : X8 P tt n row] {q m off : Nat} (hx : X0 ⟨t, H, nx⟩ x = some (.eptr q m off)) {te : TypeId} {k : Nat} {es : List (List AV)} (hq : Ql H q = some (.arr te k es)) (hm : m = es.length) (j : Nat) (hoff : off = j * k) (hj : j < es.length)
  {ay : AV} {ys : List AV} (hy : X0 ⟨t, H, nx⟩ y = some ay) (hc : St.cells1 ⟨t, H, nx⟩ ay = some ys) (hyn : ys.length = n) (hnk : n = k) (hk : ∀ e ∈ es, e.length = k) (hg : Qm ops ⟨t, H, nx⟩ o = some w) (hw : w = true) (hd : o.dst = none) {es' : List (List AV)} (hs : es.set j ys = es')
  (h : Qz P E ops rest Q ⟨t, (q, .arr te k es') :: H, nx⟩) : Qz P E ops (o :: rest) Q ⟨t, H, nx⟩ := by
 subst hw hm hoff hnk hs
 have _ := hN
 exact Qcb (St.set ⟨t, H, nx⟩ q (.arr te n (es.set j ys))) hg (QvO hd) (QhR ho hx hq j rfl hj hy hc hyn hk) (by rw [hd]; exact h)
theorem KC {i : Nat} {T : St → Prop} (hi : ops[i]? = some o) {tt : TypeId} {x y : Operand} (ho : o.op = .store tt x y) {n : Nat} {row : Bool} [hT : X8 P tt n row] {q m off : Nat} (hx : X0 ⟨t, H, nx⟩ x = some (.eptr q m off)) {te : TypeId} {k : Nat} {es : List (List AV)} (hq : Ql H q = some (.arr te k es)) (hm : m = es.length) (j : Nat) (hoff : off = j * k) (hj : j < es.length)
  {ay : AV} {ys : List AV} (hy : X0 ⟨t, H, nx⟩ y = some ay) (hc : St.cells1 ⟨t, H, nx⟩ ay = some ys) (hyn : ys.length = n) (hnk : n = k) (hk : ∀ e ∈ es, e.length = k) (hg : Qm ops ⟨t, H, nx⟩ o = some w) (hw : w = true) (hd : o.dst = none) {es' : List (List AV)} (hs : es.set j ys = es')
  (h : T ⟨t, (q, .arr te k es') :: H, nx⟩) : aSt P E ops i T ⟨t, H, nx⟩ := by
 subst hw hm hoff hnk hs
 exact ⟨o, _, hi, hg, hd, QhR ho hx hq j rfl hj hy hc hyn hk, h⟩
end
section
variable {P : Program} {E : J1} {ops : Array Oper} {md : Region.Mode}
def WI (P : Program) (E : J1) (ops : Array Oper) (o : Oper) (x : AV) (s : St) : Prop := QiM E o ∧ ∀ c a, JF E c a s → ∃ v, Yields P ops o v a ∧ VR c v x
def AT (P : Program) (E : J1) (ops : Array Oper) (md : Region.Mode) (Q : Exit → St → Prop) : Nat → Array Bool → St → Prop
 | 0, listed, s => Region.ready md ops listed = [] ∧ Q .normal s
 | f + 1, listed, s => (∃ i oi x, ops[i]? = some oi ∧ (Region.ready md ops listed).contains i = true ∧ Region.free md ops listed i = true ∧ WI P E ops oi x s ∧ AT P E ops md Q f (listed.setIfInBounds i true) (s.put oi.dst x)) ∨
  ((Region.ready md ops listed = [] → Q .normal s) ∧ ∀ i ∈ Region.ready md ops listed, aOp P E ops i (AT P E ops md Q f (listed.setIfInBounds i true)) s ∨ aSt P E ops i (AT P E ops md Q f (listed.setIfInBounds i true)) s)
theorem Qbp {Q : Exit → St → Prop} (hs : Region.noSelect ops = true) (hQ : ∀ c s, Q (.panic c) s → False) : ∀ (f : Nat) (listed : Array Bool) (c : Cx) (a : Act) (s : St), JF E c a s → AT P E ops md Q f listed s → wpAny P md ops (QjB E Q) f listed a c.w
 | 0, _, c, _, s, hr, h => ⟨h.1, c, s, rfl, hr, h.2⟩
 | f + 1, listed, c, a, s, hr, h => by
  rcases h with ⟨i, oi, x, hoi, hrd, hfr, ⟨hd, hwi⟩, hk⟩ | h
  ·obtain ⟨v, hy, hv⟩ := hwi c a hr
   exact wpAny_take hoi hs hfr hrd (fun c' a' w' ⟨c2, s2, _, _, hq⟩ => (hQ c' s2 hq).elim) hy (Qbp hs hQ f _ c _ _ (hr.put hd hv) hk)
  refine ⟨fun h0 => ⟨c, s, rfl, hr, h.1 h0⟩, fun i hi => ?_⟩
  rcases h.2 i hi with h1 | ⟨o, s', ho, hw, hd, hrun, hk⟩
  ·exact Qah hr (fun c' a' s' hr' h' => Qbp hs hQ f _ c' a' s' hr' h') h1
  unfold wpOp
  simp only [ho]
  rw [XK hw hr, if_pos rfl]
  obtain ⟨c', hrun', hr'⟩ := hrun c a hr
  refine .inl ?_
  unfold Oper.wp
  rw [hrun', Oper.upon_skip, hd]
  exact Qbp hs hQ f _ c' _ s' hr' hk
theorem Qqt {Q : Exit → St → Prop} {st : St} {id : Nat} {l : List Oper} (n : Nat) (hn : l.toArray.size = n) (hm : P.follows .mixedOrders = true) (hs : Region.noSelect l.toArray = true) (hQ : ∀ c s, Q (.panic c) s → False) (h : AT P E l.toArray .any Q n (Array.replicate n false) st) : J5 P E (.region id l.toArray true) Q st := fun c a hr => by
 subst hn
 exact wp_region_any hm (Qbp hs hQ _ _ _ _ _ hr.drew h)
def Qv9 (P : Program) (E : J1) (ops : Array Oper) (md : Region.Mode) (Q : Exit → St → Prop) (f : Nat) (listed : Array Bool) (s : St) : List Nat → Prop
 | [] => True
 | i :: r => (aOp P E ops i (AT P E ops md Q f (listed.setIfInBounds i true)) s ∨ aSt P E ops i (AT P E ops md Q f (listed.setIfInBounds i true)) s) ∧ Qv9 P E ops md Q f listed s r
theorem QaU {Q : Exit → St → Prop} {f : Nat} {listed : Array Bool} {s : St} (rs : List Nat) (hr : Region.ready md ops listed = rs) (hne : rs.isEmpty = false) (h : Qv9 P E ops md Q f listed s rs) : AT P E ops md Q (f + 1) listed s := by
 have key : ∀ (rs : List Nat), Qv9 P E ops md Q f listed s rs → ∀ i ∈ rs, aOp P E ops i (AT P E ops md Q f (listed.setIfInBounds i true)) s ∨ aSt P E ops i (AT P E ops md Q f (listed.setIfInBounds i true)) s := by
  intro rs
  induction rs with
  | nil => intro _ i hi; cases hi
  | cons j r ih =>
   rintro ⟨h1, h2⟩ i hi
   rcases List.mem_cons.1 hi with rfl | hi
   ·exact h1
   exact ih h2 i hi
 refine .inr ⟨fun h0 => ?_, fun i hi => key rs h i (hr ▸ hi)⟩
 rw [h0] at hr; subst hr; cases hne
theorem QoG {Q : Exit → St → Prop} {listed : Array Bool} {s : St} (hr : Region.ready md ops listed = []) (h : Q .normal s) : AT P E ops md Q 0 listed s := ⟨hr, h⟩
variable {o : Oper} {t : List (Nat × AV)} {H : List (Nat × QH)} {nx N d : Nat} {w : Bool}
theorem Wa {Q : Exit → St → Prop} {f : Nat} {listed : Array Bool} (i : Nat) (hi : ops[i]? = some o) (hr : (Region.ready md ops listed).contains i = true) (hf : Region.free md ops listed i = true) {x : AV} (hd : o.dst = some d) (hy : WI P E ops o x ⟨t, H, nx⟩)
  (h : AT P E ops md Q f (listed.setIfInBounds i true) ⟨(d, x) :: t, H, nx⟩) : AT P E ops md Q (f + 1) listed ⟨t, H, nx⟩ := .inl ⟨i, o, x, hi, hr, hf, hy, by rw [hd]; exact h⟩
theorem Qhd (hN : E.N = N) {s : St} {x : AV} (hg : Qm ops s o = some w) (hw : w = true) (hd : o.dst = some d) (hdN : Nat.blt d N = true) (h : ∀ c a, JF E c a s → ∃ v, (∀ w, (execOp a.eval o).run P w = .ok (.value v) w) ∧ VR c v x) : WI P E ops o x s := by
 subst hw
 refine ⟨dlt hN hd hdN, fun c a hr => ?_⟩
 obtain ⟨v, h1, h2⟩ := h c a hr
 refine ⟨v, .inl ⟨?_, h1⟩, h2⟩
 rw [XK hg hr]
variable {s : St}
theorem Yf (hN : E.N = N) {x : Operand} {r : AV} (ho : o.op = .move x) (hx : X0 s x = some r) (hg : Qm ops s o = some w) (hw : w = true) (hd : o.dst = some d) (hdN : Nat.blt d N = true) : WI P E ops o r s := Qhd hN hg hw hd hdN fun c a hr => by
 have hv := hr.ev x
 rw [QT hx] at hv
 exact ⟨a.eval x, fun w => by simp [execOp, ho], hv⟩
theorem Q9 (hN : E.N = N) {x : Operand} {r : AV} (ho : o.op = .assign x) (hx : X0 s x = some r) (hg : Qm ops s o = some w) (hw : w = true) (hd : o.dst = some d) (hdN : Nat.blt d N = true) : WI P E ops o r s := Qhd hN hg hw hd hdN fun c a hr => by
 have hv := hr.ev x
 rw [QT hx] at hv
 exact ⟨a.eval x, fun w => by simp [execOp, ho], hv⟩
theorem Qu4 (hN : E.N = N) {op : BinOp} {tt ty : TypeId} {x y : Operand} (ho : o.op = .binOp op tt x y ty) {u u' v : Value} (hx : X0 s x = some (.p u)) (hy : X0 s y = some (.p u')) [hb : Qam P tt op u u' v] (hg : Qm ops s o = some w) (hw : w = true) (hd : o.dst = some d) (hdN : Nat.blt d N = true) : WI P E ops o (.p v) s := Qhd hN hg hw hd hdN fun c a hr => by
 have hvx := hr.ev x
 rw [QT hx] at hvx
 have hvy := hr.ev y
 rw [QT hy] at hvy
 refine ⟨v, fun w => ?_, .fr _ _ (.p _)⟩
 have := hb.h x y w
 rw [← hvx.p_inv, ← hvy.p_inv] at this
 rw [Sem.run_bind] at this
 simp only [execOp, ho, Sem.run_bind, this, Result.andThen_ok, Sem.run_pure]
theorem Qok (hN : E.N = N) {tt ty : TypeId} {x y : Operand} (ho : o.op = .binOp .sub tt x y ty) {a b : Int} (hx : X0 s x = some (.p (.int .i64 a))) (hy : X0 s y = some (.p (.int .i64 b))) (h : -9223372036854775808 ≤ a - b ∧ a - b ≤ 9223372036854775807) (hg : Qm ops s o = some w) (hw : w = true) (hd : o.dst = some d) (hdN : Nat.blt d N = true) : WI P E ops o (.p (.int .i64 (a - b))) s := by
 have := Qu4 (P := P) (E := E) (ops := ops) hN ho hx hy (v := .int .i64 (IntKind.i64.wrap (a - b))) hg hw hd hdN
 rwa [IntWalk.i64_in _ (by omega)] at this
theorem Qkn (hN : E.N = N) {tt : TypeId} {x ix : Operand} (ho : o.op = .indexAddr tt x ix) {e : TypeId} {k : Nat} [hT : JV P tt e k] {q m : Nat} (hx : X0 s x = some (.own q m)) {kk : IntKind} {i : Int} (hi : X0 s ix = some (.p (.int kk i))) {te : TypeId} {es : List (List AV)} (hq : Ql s.H q = some (.arr te k es)) (hm : m = es.length)
  (j : Nat) (hij : i = (j : Int)) (hj : j < m) (hg : Qm ops s o = some w) (hw : w = true) (hd : o.dst = some d) (hdN : Nat.blt d N = true) : WI P E ops o (.eptr q m (j * k)) s := Qhd hN hg hw hd hdN fun c a hr => by
 have hv := hr.ev x
 rw [QT hx] at hv
 have hvi := hr.ev ix
 rw [QT hi] at hvi
 have hvi := hvi.p_inv
 obtain ⟨hKq, -⟩ := hr.live q _ hq
 obtain ⟨xs, hown, hV⟩ := hr.own_val hq hm hv
 rcases hown.2 with ⟨hn, h0⟩ | ⟨g, cap, cur, hvs, -, -, -⟩
 ·omega
 subst hij
 refine ⟨.pointer (some ⟨g, j * k, none⟩), fun w => ?_, .eptr _ _ _ _ hKq fun A n' cap' hh => ?_⟩
 ·simp [execOp, ho, Instr.indexAt, hvi, hvs, asIntOf, run_underlying (Q4 hT.h), hj, XO hT.size, Addr.add_mk]
 rw [hV, hvs] at hh
 cases hh
 exact ⟨Nat.le_refl _, fun _ => ⟨g, rfl, rfl⟩⟩
end
end Go.Proofs.YtaecccdkjmipeaaGreat
namespace Go.Proofs.YtaecccdkjmipeaaGreat
open Go.RowKit
section
variable {P : Program} {E : J1} {Q : Exit → St → Prop} {ops : Array Oper} {o : Oper} {rest : List Oper} {t : List (Nat × AV)} {H : List (Nat × QH)} {nx N d : Nat} {w : Bool}
end
section
variable {P : Program} {E : J1} {o : Oper} {st : St}
end
section
variable {P : Program} {E : J1} {ops : Array Oper} {md : Region.Mode}
def aNw (P : Program) (E : J1) (ops : Array Oper) (i : Nat) (T : St → Prop) (s : St) : Prop :=
 ∃ o s' x, ops[i]? = some o ∧ Qm ops s o = some true ∧ QiM E o ∧ (∀ c a, JF E c a s → ∀ (K : Act → World → Prop) (Q : Exit → Act → World → Prop), (∀ c' v, JF E c' a s' → VR c' v x → K (a.put o.dst v) c'.w) → o.wp P a c.w K Q) ∧ T (s'.put o.dst x)
theorem Qe {i : Nat} {o : Oper} {t : List (Nat × AV)} {H : List (Nat × QH)} {nx N d : Nat} {w : Bool} {T : St → Prop} (hN : E.N = N) (hi : ops[i]? = some o) {sx x : Operand} {tt : TypeId} (ho : o.op = .call { callee := .builtin .append, args := #[sx, x], argTypes := #[tt, tt] }) {te : TypeId} {k bytes : Nat} [hT : Qbd P tt te k bytes]
  {es : List (List AV)} {q n : Nat} (hs : X0 ⟨t, H, nx⟩ sx = some (.own q n)) (hq : Ql H q = some (.arr te k es)) (hn : n = es.length) {ax : AV} (hx : X0 ⟨t, H, nx⟩ x = some ax) {es' : List (List AV)} (hax : Qqf ax = some es')
  (hk' : es'.all (okE k) = true) (hb : (es.length + es'.length) * bytes ≤ 140737488355328 ∧ es.length + es'.length ≤ 9223372036854775807) (hg : Qm ops ⟨t, H, nx⟩ o = some w) (hw : w = true) (hd : o.dst = some d) (hdN : Nat.blt d N = true)
  (h : T ⟨(d, .own q (n + es'.length)) :: t, (q, .arr te k (es ++ es')) :: H, nx⟩) : aNw P E ops i T ⟨t, H, nx⟩ := by
 subst hw hn
 refine ⟨o, St.set ⟨t, H, nx⟩ q (.arr te k (es ++ es')), .own q (es.length + es'.length), hi, hg, dlt hN hd hdN, fun c a hr K Q hK => ?_, by rw [hd]; exact h⟩
 have hvs := hr.ev sx
 rw [QT hs] at hvs
 have hvx := hr.ev x
 rw [QT hx] at hvx
 obtain ⟨v', c', h1, h2, h3⟩ := hr.append_own (P := P) (t := tt) o.type hq hvs (Qkp hvx hax) hk' hb.1 hb.2
 have hrun : (execOp a.eval o).run P c.w = .ok (.value v') c'.w := by simp [execOp, ho, resolve, invoke, builtin, h1]
 unfold Oper.wp
 rw [hrun, Oper.upon_value]
 exact hK c' v' h2 h3
end
theorem Qr1 {P : Program} {E : J1} {st : St} {o : Oper} {t e : TypeId} {l n : Nat} (ho : o.op = .build t #[]) {zs : List Value} [hT : Qmo P t l e n] [hZ : Q5 P t zs] : PY P E o st (.agg (zs.map .p)) := by
 refine YZ fun st' h1 h2 c a hr => ?_
 have hz := hZ.h
 cases hi : P.info? t with
 | none => simp [hi] at hz
 | some i =>
  cases hz0 : i.zero with
  | none => simp [hi, hz0] at hz
  | some z =>
   have hzc : z.cells.toList = zs := by simpa [hi, hz0] using hz
   refine ⟨.agg z.cells, ?_, ?_⟩
   ·simp [execOp, ho, Sem.run_bind, Instr.build, zeroValue, typeInfo, run_program, Result.andThen_ok, hi, Sem.run_pure, hz0, run_underlying (Qcy hT.h), XO hT.size, Instr.fill]
   have := VR.agg (c := c) z.cells.toList (zs.map .p) (by simp [← hzc]) (fun j u y hj hk => by
    rw [← hzc, List.getElem?_map, hj] at hk
    cases hk
    exact .fr _ _ (.p u))
   simpa using this
end Go.Proofs.YtaecccdkjmipeaaGreat
