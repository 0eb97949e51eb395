/-
  Rows of one's own, written and read: elements of any number of cells.
  Drawn regions: what looks at no memory is taken first, the rest in every order.
-/
import Derived.Test.YtaecccdkjmipeaaGreatA5
namespace Go.Proofs.YtaecccdkjmipeaaGreat
open Go.RowKit

theorem flat_atO {k : Nat} : ∀ {es : List (List AV)} {j : Nat} {e : List AV}, (∀ e ∈ es, e.length = k) → es[j]? = some e → es.flatten.drop (j * k) = e ++ (es.drop (j + 1)).flatten
 | [], _, _, _, h => by simp at h
 | x :: es, 0, e, hk, h => by simp at h; subst h; simp
 | x :: es, j + 1, e, hk, h => by
  have := flat_atO (es := es) (j := j) (fun e he => hk e (by simp [he])) (by simpa using h)
  rw [List.flatten_cons, show (j + 1) * k = x.length + j * k by rw [hk x (by simp), Nat.add_mul]; omega, List.drop_append, List.drop_of_length_le (by omega)]
  simpa using this
theorem splice_app (x F ys : List AV) (p : Nat) : splice (x ++ F) (x.length + p) ys = x ++ splice F p ys := by
 have h1 : (x ++ F).take (x.length + p) = x ++ F.take p := by rw [List.take_append, List.take_of_length_le (Nat.le_add_right _ _), Nat.add_sub_cancel_left]
 have h2 : (x ++ F).drop (x.length + p + ys.length) = F.drop (p + ys.length) := by
  rw [List.drop_append, List.drop_of_length_le (by omega), Nat.add_assoc, Nat.add_sub_cancel_left]; rfl
 unfold splice
 rw [h1, h2]; simp
theorem flat_set {k : Nat} {ys : List AV} (hy : ys.length = k) : ∀ {es : List (List AV)} {j : Nat}, (∀ e ∈ es, e.length = k) → j < es.length → (es.set j ys).flatten = splice es.flatten (j * k) ys
 | [], j, _, h => by simp at h
 | x :: es, 0, hk, _ => by
  have := hk x (by simp)
  simp [splice, hy, ← this]
 | x :: es, j + 1, hk, h => by
  have ih := flat_set hy (es := es) (j := j) (fun e he => hk e (by simp [he])) (by simpa using h)
  have hx := hk x (by simp)
  rw [List.set_cons_succ, List.flatten_cons, ih, List.flatten_cons, show (j + 1) * k = x.length + j * k by rw [hx, Nat.add_mul]; omega, splice_app]
section
variable {P : Program} {E : Env} {Q : Exit → St → Prop} {ops : Array Oper} {o : Oper} {rest : List Oper} {t : List (Nat × AV)} {H : List (Nat × AObj)} {nx N d : Nat} {w : Bool} {st : St}
/-- an element of one's own row, read -/
theorem q_loadO {tt : TypeId} {x : Operand} (ho : o.op = .load tt x) {n : Nat} {row : Bool} [hT : TVar P tt n row] {q m off : Nat} (hx : ev? st x = some (.eptr q m off)) {te : TypeId} {k : Nat} {es : List (List AV)} (hq : look st.H q = some (.arr te k es)) (hm : m = es.length) (hk : ∀ e ∈ es, e.length = k) (j : Nat) (hoff : off = j * k) {e : List AV} (he : es[j]? = some e) {r : AV} (hl : ∀ z, loaded row n (e ++ z) = some r) (hn : Nat.blt 0 n = true) : PY P E o st r := by
 subst hm hoff
 refine q_load ho hx (cs := e ++ (es.drop (j + 1)).flatten) ?_ (hl _) hn
 simp only [St.at_, hq]
 rw [Nat.beq_refl, cond_true, flat_atO hk he]
/-- an element of one's own row, written: what the operation does -/
theorem storeO_run {tt : TypeId} {x y : Operand} (ho : o.op = .store tt x y) {n : Nat} {row : Bool} [hT : TVar P tt n row] {q off : Nat} {te : TypeId} {es : List (List AV)} (hx : ev? ⟨t, H, nx⟩ x = some (.eptr q es.length off)) (hq : look H q = some (.arr te n es)) (j : Nat) (hoff : off = j * n) (hj : j < es.length)
  {ay : AV} {ys : List AV} (hy : ev? ⟨t, H, nx⟩ y = some ay) (hc : St.cells1 ⟨t, H, nx⟩ ay = some ys) (hyn : ys.length = n) (hk : ∀ e ∈ es, e.length = n) : ∀ c a, Rel E c a ⟨t, H, nx⟩ → ∃ c' : Cx, (execOp a.eval o).run P c.w = .ok .skip c'.w ∧ Rel E c' a (St.set ⟨t, H, nx⟩ q (.arr te n (es.set j ys))) := fun c a hr => by
 subst hoff
 have hvx := hr.ev x
 rw [ev_of hx] at hvx
 have hce := hr.ev y
 rw [ev_of hy] at hce
 obtain ⟨h1, h2, h3⟩ := hr.cells hce hc
 obtain ⟨hkq, v0, hv0, hor, _⟩ := hr.live q _ hq
 cases hor with
 | arr _ _ _ _ xs hown _ hxs hS =>
  have hjn : (j + 1) * n ≤ es.length * n := Nat.mul_le_mul_right _ hj
  rw [Nat.add_mul, Nat.one_mul] at hjn
  rcases hown.2 with ⟨hnil, h0⟩ | ⟨g, cap, cur, hv, -, hgb, hnc, hcm, hcs, htk⟩
  ·omega
  subst hv
  have hvp : a.eval x = .pointer (some ⟨g, j * n, none⟩) := by
   generalize a.eval x = vx at hvx
   cases hvx with
   | fr _ _ h => cases h
   | eptr _ _ _ _ hK hV =>
    obtain ⟨_, h2⟩ := hV _ _ _ hv0
    obtain ⟨b', h3, h4⟩ := h2 rfl
    cases h3
    exact h4
  obtain ⟨vs, hvs⟩ : ∃ vs, vs = (a.eval y).cells.toList := ⟨_, rfl⟩
  have hvl : vs.length = n := by rw [hvs]; simp [h1, hyn]
  have hcapn : es.length * n ≤ cap * n := Nat.mul_le_mul_right _ hnc
  obtain ⟨cur', h4, h5, h6⟩ := setCells_blk g te (0, 0) vs (j * n) c.w cur hgb
  obtain ⟨r1, r2, r3, r4, r5⟩ := setCells_rest g vs (j * n) c.w
  have hxl : xs.length = es.length * n := hown.1
  have hcur : ∀ i, i < es.length * n → cur[i]? = xs[i]? := fun i hi => by
   have := congrArg (·[i]?) htk
   simpa only [List.getElem?_take, if_pos hi, Array.getElem?_toList] using this
  obtain ⟨xs', hxs'⟩ : ∃ xs', xs' = xs.take (j * n) ++ vs ++ xs.drop (j * n + n) := ⟨_, rfl⟩
  have hxg : ∀ i, xs'[i]? = if j * n ≤ i ∧ i < j * n + n then vs[i - j * n]? else xs[i]? := fun i => by
   rw [hxs']
   by_cases ha : i < j * n
   ·rw [if_neg (by omega), List.append_assoc, List.getElem?_append_left (by simp; omega), List.getElem?_take, if_pos ha]
   by_cases hb : i < j * n + n
   ·rw [if_pos (by omega), List.append_assoc, List.getElem?_append_right (by simp; omega), List.getElem?_append_left (by simp; omega)]
    congr 1
    simp; omega
   rw [if_neg (by omega), List.getElem?_append_right (by simp; omega), List.getElem?_drop]
   congr 1
   simp; omega
  have hxl' : xs'.length = es.length * n := by rw [hxs']; simp; omega
  have hfs := flat_set hyn hk hj
  have hel : ∀ e ∈ es.set j ys, e.length = n := fun e he => by
   rcases List.mem_or_eq_of_mem_set he with h | h
   ·exact hk e h
   rw [h]; exact hyn
  obtain ⟨c', e1, -, hle', -, -, hr'⟩ := hr.upd hq (w' := c.w.setCells g (j * n) vs) (S' := c.S) hv0 (.arr te n (es.set j ys)) (v' := .slice (some ⟨g, 0, none⟩) es.length cap) r1 r2 r3 ⟨by omega, by omega⟩
   (fun k hk hne => setCells_other g _ _ _ k (fun e => hne (by rw [e]; rfl)))
   (fun b' off' hs => ⟨hs, by
    have hne : b' ≠ g := fun e => hS b' (by rw [e]; rfl) off' hs
    have := setCells_other g vs (j * n) c.w b' hne
    simp only [World.cell?, this]⟩)
   (fun b' off' hs => .inl hs) (.inl rfl) (.refl _)
   (fun c' e1 e2 hle => .arr _ te n (es.set j ys) xs' (by
    rw [e1, List.length_set]
    refine ⟨hxl', .inr ⟨g, cap, cur', rfl, Nat.zero_le _, h4, hnc, hcm, by rw [h5, hcs], ?_⟩⟩
    have := take_ext (cur := cur') (l := xs') (by rw [h5, hcs, hxl']; omega) (fun i hi => by
     rw [hxl'] at hi
     rw [h6, hxg]
     by_cases hin : j * n ≤ i ∧ i < j * n + n
     ·rw [if_pos ⟨hin.1, by rw [hvl]; exact hin.2, by rw [hcs]; omega⟩, if_pos hin]
     rw [if_neg (by rw [hvl]; omega), if_neg hin, hcur i hi])
    rwa [hxl'] at this) hel (fun i u z hi hz => by
     rw [hxg] at hi
     rw [hfs, splice_get _ _ _ (by rw [flat_len2 hk, hyn]; omega)] at hz
     rw [hyn] at hz
     by_cases hin : j * n ≤ i ∧ i < j * n + n
     ·rw [if_pos hin] at hi hz
      rw [hvs] at hi
      exact (h2 _ u z (by simpa using hi) hz).mono hle
     rw [if_neg hin] at hi hz
     exact (hxs i u z hi hz).mono hle) (fun b hb off hs => by rw [e2] at hs; exact hS b hb off hs))
  refine ⟨c', ?_, hr'⟩
  obtain ⟨i, hi, hsz⟩ := tySize_spec hT.size
  have hrun := run_storeCells_cells (P := P) g (j * n) vs 0 c.w
   (fun i hi => by
    rw [cell_of_blk hgb]
    have : j * n + i < cur.size := by rw [hcs]; omega
    simp [this])
   (fun j hj => by simp [World.frozen?, hgb]) (fun v hv => h3 v (by rw [hvs] at hv; exact hv))
  rw [Nat.add_zero] at hrun
  rw [e1]
  have hsz2 : (a.eval y).cells.size = i.size := by rw [h1]; omega
  rw [hvs] at hrun ⊢
  simp [execOp, ho, hvp, Instr.storeAt, Instr.sureAddr, storeVar, sizeOf, typeInfo, hi, hsz2, hrun]
theorem s_storeO (hN : E.N = N) {tt : TypeId} {x y : Operand} (ho : o.op = .store tt x y) {n : Nat} {row : Bool} [hT : TVar P tt n row] {q m off : Nat} (hx : ev? ⟨t, H, nx⟩ x = some (.eptr q m off)) {te : TypeId} {k : Nat} {es : List (List AV)} (hq : look H q = some (.arr te k es)) (hm : m = es.length) (j : Nat) (hoff : off = j * k) (hj : j < es.length)
  {ay : AV} {ys : List AV} (hy : ev? ⟨t, H, nx⟩ y = some ay) (hc : St.cells1 ⟨t, H, nx⟩ ay = some ys) (hyn : ys.length = n) (hnk : n = k) (hk : ∀ e ∈ es, e.length = k) (hg : wantedA ops ⟨t, H, nx⟩ o = some w) (hw : w = true) (hd : o.dst = none) {es' : List (List AV)} (hs : es.set j ys = es')
  (h : AOps P E ops rest Q ⟨t, (q, .arr te k es') :: H, nx⟩) : AOps P E ops (o :: rest) Q ⟨t, H, nx⟩ := by
 subst hw hm hoff hnk hs
 have _ := hN
 exact aops_of_skip (St.set ⟨t, H, nx⟩ q (.arr te n (es.set j ys))) hg (dlt0 hd) (storeO_run ho hx hq j rfl hj hy hc hyn hk) (by rw [hd]; exact h)
theorem ao_storeO {i : Nat} {T : St → Prop} (hi : ops[i]? = some o) {tt : TypeId} {x y : Operand} (ho : o.op = .store tt x y) {n : Nat} {row : Bool} [hT : TVar P tt n row] {q m off : Nat} (hx : ev? ⟨t, H, nx⟩ x = some (.eptr q m off)) {te : TypeId} {k : Nat} {es : List (List AV)} (hq : look H q = some (.arr te k es)) (hm : m = es.length) (j : Nat) (hoff : off = j * k) (hj : j < es.length)
  {ay : AV} {ys : List AV} (hy : ev? ⟨t, H, nx⟩ y = some ay) (hc : St.cells1 ⟨t, H, nx⟩ ay = some ys) (hyn : ys.length = n) (hnk : n = k) (hk : ∀ e ∈ es, e.length = k) (hg : wantedA ops ⟨t, H, nx⟩ o = some w) (hw : w = true) (hd : o.dst = none) {es' : List (List AV)} (hs : es.set j ys = es')
  (h : T ⟨t, (q, .arr te k es') :: H, nx⟩) : aSt P E ops i T ⟨t, H, nx⟩ := by
 subst hw hm hoff hnk hs
 exact ⟨o, _, hi, hg, hd, storeO_run ho hx hq j rfl hj hy hc hyn hk, h⟩
end
end Go.Proofs.YtaecccdkjmipeaaGreat

namespace Go.Proofs.YtaecccdkjmipeaaGreat
open Go.RowKit

section
variable {P : Program} {E : Env} {ops : Array Oper} {md : Region.Mode}
/-- in this state the operation yields x, whatever the world -/
def WI (P : Program) (E : Env) (ops : Array Oper) (o : Oper) (x : AV) (s : St) : Prop := dstOk E o ∧ ∀ c a, Rel E c a s → ∃ v, Yields P ops o v a ∧ VR c v x
variable {o : Oper} {t : List (Nat × AV)} {H : List (Nat × AObj)} {nx N d : Nat} {w : Bool}
theorem wi_of (hN : E.N = N) {s : St} {x : AV} (hg : wantedA ops s o = some w) (hw : w = true) (hd : o.dst = some d) (hdN : Nat.blt d N = true) (h : ∀ c a, Rel E c a s → ∃ v, (∀ w, (execOp a.eval o).run P w = .ok (.value v) w) ∧ VR c v x) : WI P E ops o x s := by
 subst hw
 refine ⟨dlt hN hd hdN, fun c a hr => ?_⟩
 obtain ⟨v, h1, h2⟩ := h c a hr
 refine ⟨v, .inl ⟨?_, h1⟩, h2⟩
 rw [wanted_of hg hr]
variable {s : St}
theorem wi_move (hN : E.N = N) {x : Operand} {r : AV} (ho : o.op = .move x) (hx : ev? s x = some r) (hg : wantedA ops s o = some w) (hw : w = true) (hd : o.dst = some d) (hdN : Nat.blt d N = true) : WI P E ops o r s := wi_of hN hg hw hd hdN fun c a hr => by
 have hv := hr.ev x
 rw [ev_of hx] at hv
 exact ⟨a.eval x, fun w => by simp [execOp, ho], hv⟩
theorem wi_assign (hN : E.N = N) {x : Operand} {r : AV} (ho : o.op = .assign x) (hx : ev? s x = some r) (hg : wantedA ops s o = some w) (hw : w = true) (hd : o.dst = some d) (hdN : Nat.blt d N = true) : WI P E ops o r s := wi_of hN hg hw hd hdN fun c a hr => by
 have hv := hr.ev x
 rw [ev_of hx] at hv
 exact ⟨a.eval x, fun w => by simp [execOp, ho], hv⟩
end
end Go.Proofs.YtaecccdkjmipeaaGreat
