/-
  Calls of which only what they leave unturned is known (not that draws are not taken back), for laws.
  Rows of one's own whose elements have any number of cells: made, and copied into.
  Drawn regions: what looks at no memory is taken first, the rest in every order, with new rows and variables.
  Numbers of objects skipped; parts of slices that are maps, taken first; a step behind a weakening.
  Contracts of which only what they leave unturned is known, with results; used in walks whose count of draws begins at 0.
  A nil slice in a slot, read as an empty frozen one.
  Contracts without a word on draws, of functions whose results lie in cells.
  Short words for the steps of drawn regions.
-/
import Derived.Test.YthldgioggjpnpaaGreatA8
import Derived.Test.YthldgioggjpnpaaGreatA7
import Derived.Test.YthldgioggjpnpaaGreatA4
import Derived.Test.YthldgioggjpnpaaGreatA3
namespace Go.Proofs.YthldgioggjpnpaaGreat
open Go.RowKit
section
variable {c : Cx} {E : Env} {a : Act} {st : St}
theorem ownsRow_extB {w w' : World} (hw : Below w.heap.size w w') {base : Nat} {t : TypeId} {k n : Nat} {v : Value} {xs : List Value} (h : w.ownsRow base t k v n xs) : w'.ownsRow base t k v n xs :=
 World.ownsRow.kept (row := none) h ⟨hw.os, hw.tape, hw.output, hw.size, fun k hk _ => hw.block k hk⟩ (by
  rcases hv : v.ownBlock with _ | k
  ·exact .inl rfl
  right; simp)
theorem OR.extB {w' : World} {V' : Nat → Option Value} {K' : Nat → Prop} {S' : Nat → Nat → Prop} (hw : Below c.w.heap.size c.w w') (hc : c.le ⟨w', S', V', K'⟩)
  {v : Value} {ob : AObj} (hS : ∀ b, vblk v = some b → ∀ off, S' b off → c.S b off) (h : OR c v ob) : OR ⟨w', S', V', K'⟩ v ob := by
 cases h with
 | var b ccs t cs hh hl hr hn =>
  exact .var b ccs t cs ((hw.block b (Array.getElem?_eq_some_iff.1 hh).1).trans hh) hl (fun i u x h1 h2 => (hr i u x h1 h2).mono hc) (fun off h => hn off (hS b rfl off h))
 | tok _ t k n xs ho hn => exact .tok v t k n xs (ownsRow_extB hw ho) (fun b hb off hle h => hn b hb off hle (hS b hb off h))
 | arr _ t k es xs ho hk hr hn => exact .arr v t k es xs (ownsRow_extB hw ho) hk (fun i u x h1 h2 => (hr i u x h1 h2).mono hc) (fun b hb off h => hn b hb off (hS b hb off h))
theorem Rel.extB (hz : E.w0.drawn = 0) (h : Rel E c a st) {w' : World} (hw : Below c.w.heap.size c.w w') : Rel E ⟨w', c.S, c.V, c.K⟩ a st := by
 have bc : ∀ {b off : Nat}, b < c.w.heap.size → w'.cell? ⟨b, off, none⟩ = c.w.cell? ⟨b, off, none⟩ := fun {b off} hb => Below.cell hw (p := ⟨b, off, none⟩) hb
 have hc : c.le ⟨w', c.S, c.V, c.K⟩ := ⟨fun b o hs => ⟨hs, bc (h.Ssz b o hs)⟩, fun _ h => h, fun _ _ => .refl _⟩
 have hsz := hw.size
 exact {
  defers := h.defers, size := h.size, tmps := fun i => (h.tmps i).mono hc
  live := fun o ob ho => by
   obtain ⟨hk, v, hv, hor, hwr⟩ := h.live o ob ho
   exact ⟨hk, v, hv, hor.extB hw hc (fun b hb off hs => hs), hwr⟩
  dead := h.dead, apart := h.apart, ids := h.ids, nxB := h.nxB, kbs := h.kbs, V0 := h.V0
  Ssz := fun b off hs => Nat.lt_of_lt_of_le (h.Ssz b off hs) hsz
  os := hw.os.trans h.os, tape := hw.tape.trans h.tape, output := hw.output.trans h.output
  drawn := by rw [hz]; exact Nat.zero_le _
  grown := Nat.le_trans h.grown hsz
  frame := fun b hb hn => (hw.block b (Nat.lt_of_lt_of_le hb h.grown)).trans (h.frame b hb hn)
  S0 := fun b off hs => ⟨(h.S0 b off hs).1, (bc (h.Ssz _ _ (h.S0 b off hs).1)).trans (h.S0 b off hs).2⟩
  Snew := fun b off hs => h.Snew b off hs }
end
section
variable {P : Program} {E : Env} {Q : Exit → St → Prop} {ops : Array Oper} {o : Oper} {rest : List Oper} {t : List (Nat × AV)} {H : List (Nat × AObj)} {nx N d : Nat} {w : Bool}
/-- a call without arguments of a function that returns true -/
theorem s_bcall (hN : E.N = N) (hz : E.w0.drawn = 0) {f : FuncId} (hc : ∀ w, Calls P f #[] w fun e w' => e = .returned (.bool true) ∧ Below w.heap.size w w') {ts : Array TypeId} (ho : o.op = .call { callee := .value (.func f), args := #[], argTypes := ts }) [hf : TFn P f]
  (hg : wantedA ops ⟨t, H, nx⟩ o = some w) (hw : w = true) (hd : o.dst = some d) (hdN : Nat.blt d N = true)
  (h : AOps P E ops rest Q ⟨(d, bl true) :: t, H, nx⟩) : AOps P E ops (o :: rest) Q ⟨t, H, nx⟩ := fun c a hr => by
 subst hw
 refine wpList_step fun K hK => ?_
 rw [wanted_of hg hr, if_pos rfl]
 have hrun : (execOp a.eval o).run P c.w = .ok (.enter f #[]) c.w := by
  have e1 : a.eval (.func f) = .func (.func f) #[] #[] := rfl
  simp [execOp, ho, resolve, invoke, e1, Deferred.ofValue, hf.h]
 unfold Oper.wp
 rw [hrun, Oper.upon_enter]
 refine (hc c.w).mono ?_
 rintro e w' ⟨rfl, hb⟩
 have hput := (hr.extB hz hb).put (d := o.dst) (x := bl true) (v := .bool true) (dlt hN hd hdN) (.fr _ _ (.p _))
 refine hK _ _ (h ⟨w', c.S, c.V, c.K⟩ _ ?_)
 rw [hd] at hput ⊢
 exact hput
end
/-- f returns true; what lay there is unturned -/
def FB (P : Program) (f : FuncId) (args : List AV) : Prop :=
 ∀ (w : World) (S : Nat → Nat → Prop) (vs : List Value), (∀ b o, S b o → b < w.heap.size) → FRs w S vs args →
  Calls P f vs.toArray w fun e w' => e = .returned (.bool true) ∧ Below w.heap.size w w'
theorem fb_of_awp {P : Program} {f : FuncId} {fn : Func} {code : Code} {args : List AV} (ts : List Nat) (hf : P.funcs[f]? = some fn) (hb : fn.body = some code) (hres : fn.results = (ts.map ResultVar.tmp).toArray) (N : Nat) (hN : fn.ntmps = N) (hle : args.length ≤ N)
  (h : ∀ E : Env, E.N = N → E.w0.drawn = 0 → AWP P E code (retA ts (bl true)) ⟨argT 0 args, [], 0⟩) : FB P f args := by
 intro w S vs hS hv
 have hvl : vs.length = args.length := hv.1
 refine calls_of_wp hf hb ?_
 have hr : Rel (Env.at_ N { w with drawn := 0 } S) ⟨w, S, fun _ => none, fun _ => False⟩ { tmps := vs.toArray ++ Array.replicate (fn.ntmps - vs.toArray.size) undef, defers := [] } ⟨argT 0 args, [], 0⟩ := {
  defers := rfl
  size := by show (vs.toArray ++ Array.replicate (fn.ntmps - vs.toArray.size) undef).size = N; simp; omega
  tmps := fun i => by
   show VR _ ((vs.toArray ++ Array.replicate (fn.ntmps - vs.toArray.size) undef).getD i undef) ((look (argT 0 args) i).getD .bot)
   rw [look_argT]
   simp only [Nat.zero_le, if_true, Nat.sub_zero]
   rcases Nat.lt_or_ge i args.length with hlt | hge
   ·have hlt' : i < vs.length := by omega
    have e : (vs.toArray ++ Array.replicate (fn.ntmps - vs.toArray.size) undef).getD i undef = vs[i] := by
     simp [Array.getElem?_append, hlt']
    rw [e, List.getElem?_eq_getElem hlt]
    exact .fr _ _ (hv.2 i _ _ (List.getElem?_eq_getElem hlt') (List.getElem?_eq_getElem hlt))
   rw [List.getElem?_eq_none hge]
   exact .fr _ _ (.bot _)
  live := fun o ob h => by cases h
  dead := fun _ _ => rfl
  apart := fun o o' v v' b h => by cases h
  ids := fun _ h => h.elim, nxB := Nat.zero_le _, kbs := fun _ h => h.elim, V0 := fun _ h => h.elim
  Ssz := hS
  os := rfl, tape := rfl, output := rfl, drawn := Nat.zero_le _, grown := Nat.le_refl _
  frame := fun _ _ _ => rfl
  S0 := fun _ _ h => ⟨h, rfl⟩
  Snew := fun _ _ h => .inl h }
 refine wp_mono (h (Env.at_ N { w with drawn := 0 } S) rfl rfl _ _ hr) ?_
 rintro e a' w' ⟨c, st, rfl, hr', hq⟩
 have fin : ((resX st ts).fzt = some (bl true)) →
   a'.defers = [] ∧ ∃ v, (results fn a'.tmps).run P c.w = .ok v c.w ∧ Ending.returned v = .returned (.bool true) ∧ Below w.heap.size w c.w := by
  intro hr2
  have hvr : VR c (resV a'.tmps ts) (resX st ts) := by
   have many : ∀ ts : List Nat, VR c (.tuple (ts.map fun t => a'.tmps.getD t undef).toArray) (.tup (ts.map st.get)) := fun ts => by
    refine .tup _ _ (by simp) fun i v x hi hj => ?_
    rw [List.getElem?_map] at hi hj
    cases hq : ts[i]? with
    | none => rw [hq] at hi; cases hi
    | some t => rw [hq] at hi hj; cases hi; cases hj; exact hr'.tmps t
   match ts with
   | [] => exact many []
   | [t] => exact hr'.tmps t
   | t :: u :: ts => exact many (t :: u :: ts)
  have hfr : FR c.w c.S (resV a'.tmps ts) (bl true) := by
   generalize resX st ts = r at hr2 hvr
   cases r with
   | tup xs =>
    simp only [AV.fzt] at hr2
    cases hz : fzl xs with
    | none => rw [hz] at hr2; cases hr2
    | some ys => rw [hz] at hr2; cases hr2
   | _ => exact hvr.fz hr2
  have hv : resV a'.tmps ts = .bool true := by
   generalize resV a'.tmps ts = v at hfr
   cases hfr
   rfl
  exact ⟨hr'.defers, _, results_tmps ts hres a'.tmps c.w, by rw [← hv], ⟨hr'.os, hr'.tape, hr'.output, hr'.grown, fun b hb => hr'.frame b hb (Nat.not_le.2 hb)⟩⟩
 cases e with
 | normal => exact fin hq
 | ret => exact fin hq
 | _ => exact hq.elim
theorem fb_final {P : Program} {f : FuncId} {args : List AV} (h : FB P f args) (W : World) (vs : List Value) (hl : vs.length = args.length) (hr : ∀ (i : Nat) (v : Value) (x : AV), vs[i]? = some v → args[i]? = some x → FR W (fun b _ => b < W.heap.size) v x) :
  Calls P f vs.toArray W fun e W' => e = .returned (.bool true) ∧ Below W.heap.size W W' :=
 h W (fun b _ => b < W.heap.size) vs (fun _ _ h => h) ⟨hl, hr⟩
end Go.Proofs.YthldgioggjpnpaaGreat

namespace Go.Proofs.YthldgioggjpnpaaGreat
open Go.RowKit
/-- copy of elements of k cells into a row of the call's own -/
theorem run_copy_rowN {P : Program} (w : World) (dT sT ty elem : TypeId) (k : Nat) (g dLen dCap : Nat) (a : Addr) (sLen sCap : Nat) (cur : Array Value) (t : TypeId) (cs : List Value) (m : Nat)
  (hu : P.underlying dT = some (.slice elem)) (hs : (P.info? elem).map (·.size) = some k) (hm : m = Nat.min sLen dLen)
  (hg : w.heap[g]? = some (.cells cur t (0, 0))) (hn : cs.length = m * k)
  (hsrc : ∀ j v, cs[j]? = some v → w.cell? (a.add j) = some v) (hfit : cs.length ≤ cur.size) (h1 : ∀ v ∈ cs, v.oneCell' = true) :
  (Builtin.copy_ #[dT, sT] ty #[.slice (some ⟨g, 0, none⟩) dLen dCap, .slice (some a) sLen sCap]).run P w =
   .ok (goInt m) (w.setRow g (cs ++ cur.toList.drop cs.length).toArray) := by
 have hl := run_loadCells_list (P := P) w a cs hsrc
 have hst := run_storeCells_at P g 0 t cs 0 cur w hg (by simpa using hfit) h1
 simp only [Nat.add_zero, Nat.zero_add, List.take_zero, List.nil_append] at hst
 cases hq : P.info? elem with
 | none => simp [hq] at hs
 | some i =>
  have hi : i.size = k := by simpa [hq] using hs
  rw [hn] at hl
  simp [Builtin.copy_, run_underlying hu, Builtin.lenOf, Builtin.firstCells, sizeOf, typeInfo, hq, hi, ← hm, hl, hst]
theorem run_copy_noneN {P : Program} (w : World) (dT sT ty elem : TypeId) (k : Nat) (d a : Option Addr) (dLen dCap sLen sCap : Nat) (hu : P.underlying dT = some (.slice elem)) (hs : (P.info? elem).map (·.size) = some k) (hn : Nat.min sLen dLen = 0) :
  (Builtin.copy_ #[dT, sT] ty #[.slice d dLen dCap, .slice a sLen sCap]).run P w = .ok (goInt 0) w := by
 cases hq : P.info? elem with
 | none => simp [hq] at hs
 | some i =>
  have hl : ∀ (x : Addr), (loadCells x 0).run P w = .ok #[] w := fun x => by simpa using run_loadCells_list (P := P) w x [] (by simp)
  cases d <;> cases a <;> simp [Builtin.copy_, run_underlying hu, Builtin.lenOf, Builtin.firstCells, sizeOf, typeInfo, hq, hn, storeCells, hl]
theorem flat_rep (zs : List AV) : ∀ (n i : Nat), i < n * zs.length → (List.replicate n zs).flatten[i]? = zs[i % zs.length]?
 | 0, i, h => by omega
 | n + 1, i, h => by
  rw [List.replicate_succ, List.flatten_cons]
  rcases Nat.lt_or_ge i zs.length with h1 | h1
  ·rw [List.getElem?_append_left h1, Nat.mod_eq_of_lt h1]
  rw [List.getElem?_append_right h1, flat_rep zs n (i - zs.length) (by rw [Nat.add_mul, Nat.one_mul] at h; omega), ← Nat.mod_eq_sub_mod h1]
section
variable {P : Program} {E : Env} {Q : Exit → St → Prop} {ops : Array Oper} {o : Oper} {rest : List Oper} {t : List (Nat × AV)} {H : List (Nat × AObj)} {nx N d : Nat} {w : Bool}
/-- make([]T, n) -/
theorem s_makeN (hN : E.N = N) (hB : Nat.blt nx idB = true) {tt e : TypeId} {k : Nat} [hT : TElem P tt e k] {zs : List Value} [hZ : TZero P e zs] (hzk : zs.length = k) {y : Nat} (hby : (P.info? e).map (·.bytes) = some y) (hy : Nat.ble y 1000 = true) {lx cx : Operand} (ho : o.op = .makeSlice tt lx cx) {n : Nat} (hl : ev? ⟨t, H, nx⟩ lx = some (.p (.int .i64 (n : Int)))) (hc : ev? ⟨t, H, nx⟩ cx = some (.p (.int .i64 (n : Int)))) (hn : n ≤ 1000000)
  (hg : wantedA ops ⟨t, H, nx⟩ o = some w) (hw : w = true) (hd : o.dst = some d) (hdN : Nat.blt d N = true)
  (h : AOps P E ops rest Q ⟨(d, .own nx n) :: t, (nx, .arr e k (List.replicate n (zs.map .p))) :: H, nx + 1⟩) : AOps P E ops (o :: rest) Q ⟨t, H, nx⟩ := by
 subst hw hzk
 refine aops_of (.own nx n) ⟨t, (nx, .arr e zs.length (List.replicate n (zs.map .p))) :: H, nx + 1⟩ hg (dlt hN hd hdN) (fun c a hr => ?_) (by rw [hd]; exact h)
 have hy := Nat.le_of_ble_eq_true hy
 have hvl := hr.ev lx
 rw [ev_of hl] at hvl
 have hvl := hvl.p_inv
 have hvc := hr.ev cx
 rw [ev_of hc] at hvc
 have hvc := hvc.p_inv
 obtain ⟨i, hi, hsz⟩ := tySize_spec hT.size
 have hzz := hZ.h
 rw [hi] at hzz
 rw [hi] at hby
 have hby : i.bytes = y := by simpa using hby
 cases hz0 : i.zero with
 | none => simp [hz0] at hzz
 | some z =>
  have hzc : z.cells.toList = zs := by simpa [hz0] using hzz
  have hzs : z.cells.size = zs.length := by rw [← hzc]; simp
  have hmul : (i.bytes : Int) * (n : Int) ≤ 1000 * 1000000 := by
   rw [hby]
   have h1 : y * n ≤ 1000 * 1000000 := Nat.mul_le_mul hy hn
   have h2 : ((y * n : Nat) : Int) = (y : Int) * (n : Int) := Int.natCast_mul y n
   omega
  have hmk := run_make (P := P) c.w tt e i z (tyElem_spec hT.h) hi hz0 .i64 .i64 (n : Int) (n : Int) (by omega) (Int.le_refl _) (by omega) (by omega)
  obtain ⟨xs, hxs⟩ : ∃ xs, xs = madeCells z.cells (n * zs.length) := ⟨_, rfl⟩
  have hxl : xs.size = n * zs.length := by rw [hxs]; simp [madeCells]
  have hxv : ∀ (j : Nat) (u : Value), xs[j]? = some u → zs[j % zs.length]? = some u := fun j u hj => by
   obtain ⟨hjl, hju⟩ := Array.getElem?_eq_some_iff.1 hj
   have hpos : 0 < zs.length := by
    rcases Nat.eq_zero_or_pos zs.length with h0 | h0
    ·rw [hxl, h0] at hjl; omega
    exact h0
   have hm : j % zs.length < z.cells.size := by rw [hzs]; exact Nat.mod_lt _ hpos
   subst hxs
   have e1 : (madeCells z.cells (n * zs.length))[j] = z.cells[j % z.cells.size]! := by simp [madeCells]
   have hm2 : j % z.cells.size < z.cells.size := by rw [hzs]; exact Nat.mod_lt _ hpos
   rw [← hju, e1, getElem!_pos z.cells _ hm2]
   rw [← hzc, Array.length_toList, Array.getElem?_toList, Array.getElem?_eq_getElem hm2]
  have hrun : (execOp a.eval o).run P c.w = .ok (.value (.slice (some ⟨c.w.heap.size, 0, none⟩) n n)) (c.w.alloc (.cells xs e)) := by
   simp only [Int.toNat_natCast, hsz, ← hxs] at hmk
   simp [execOp, ho, hvl, hvc, hmk]
  have hown : (c.w.alloc (.cells xs e)).ownsRow 0 e zs.length (.slice (some ⟨c.w.heap.size, 0, none⟩) n n) n xs.toList :=
   ⟨by simp [hxl], .inr ⟨c.w.heap.size, n, _, rfl, Nat.zero_le _, heap_new _ _ _, Nat.le_refl _, by unfold maxLen; omega, hxl, List.take_of_length_le (by simp [hxl])⟩⟩
  obtain ⟨c', e1, e2, hle, e4, e5, hr'⟩ := hr.new (Nat.le_of_ble_eq_true hB) (below_new c.w (.cells xs e)) (.slice (some ⟨c.w.heap.size, 0, none⟩) n n) (.arr e zs.length (List.replicate n (zs.map .p)))
   (fun c' e1 e2 hle => .arr _ e zs.length _ xs.toList (by rw [e1, List.length_replicate]; exact hown) (fun e he => by rw [List.eq_of_mem_replicate he, List.length_map]) (fun j u y hj hy => by
    have hj' : xs[j]? = some u := by simpa using hj
    have hlt : j < n * (zs.map AV.p).length := by
     have := (Array.getElem?_eq_some_iff.1 hj').1
     rw [List.length_map, ← hxl]; exact this
    rw [flat_rep _ _ _ hlt, List.length_map, List.getElem?_map, hxv j u hj'] at hy
    cases hy
    exact .fr _ _ (.p _)) (fun b hb off hs => by
    rw [e2] at hs
    have : c.w.heap.size = b := by simpa [vblk] using hb
    subst this
    exact Nat.lt_irrefl _ (hr.Ssz _ _ hs))) (fun b hb => by
    have : c.w.heap.size = b := by simpa [vblk] using hb
    omega)
  refine ⟨_, c', by rw [e1]; exact hrun, hr', .own _ _ _ e4 (fun A n' cap hh => ?_)⟩
  rw [show c'.V nx = some _ from e5] at hh
  cases hh
  exact ⟨Nat.le_refl _, fun _ => rfl⟩
/-- copy of a frozen row into one's own, of the same length -/
theorem s_copyN (hN : E.N = N) {tt e : TypeId} {k : Nat} [hT : TElem P tt e k] {dx sx : Operand} (ho : o.op = .call { callee := .builtin .copy, args := #[dx, sx], argTypes := #[tt, tt] }) {q n : Nat} (hx : ev? ⟨t, H, nx⟩ dx = some (.own q n)) {te : TypeId} {es l2 : List (List AV)} (hq : look H q = some (.arr te k es)) (hn : n = es.length) (hy : ev? ⟨t, H, nx⟩ sx = some (.sl l2 none)) (h2 : l2.length = es.length) (hk2 : l2.all (okE k) = true)
  (hg : wantedA ops ⟨t, H, nx⟩ o = some w) (hw : w = true) (hd : o.dst = some d) (hdN : Nat.blt d N = true)
  (h : AOps P E ops rest Q ⟨(d, .bot) :: t, (q, .arr te k l2) :: H, nx⟩) : AOps P E ops (o :: rest) Q ⟨t, H, nx⟩ := by
 subst hw hn
 refine aops_of .bot (St.set ⟨t, H, nx⟩ q (.arr te k l2)) hg (dlt hN hd hdN) (fun c a hr => ?_) (by rw [hd]; exact h)
 have hvd := hr.ev dx
 rw [ev_of hx] at hvd
 have hvs := hr.ev sx
 rw [ev_of hy] at hvs
 obtain ⟨hk, v0, hv0, hor, -⟩ := hr.live q _ hq
 cases hor with
 | arr _ _ _ _ xs hown hke hxs hS =>
  obtain ⟨A0, cap0, hA0⟩ := own_one hown
  have hvv : a.eval dx = v0 := by
   generalize a.eval dx = v at hvd
   cases hvd with
   | fr _ _ h => cases h
   | own _ _ _ hK hV => rw [(hV A0 _ cap0 (by rw [hv0, hA0])).2 rfl, hA0]
  have hss : (P.info? e).map (·.size) = some k := hT.size
  obtain ⟨A, cc, hvs1, news, hnl, hn1, hnfr, hcells⟩ := hvs.sl_inv.news hk2
  have hke2 : ∀ e ∈ l2, e.length = k := fun e he => by
   have := List.all_eq_true.1 hk2 e he
   simp only [okE, Bool.and_eq_true, beq_iff_eq] at this
   exact this.1
  rcases hown.2 with ⟨hv, h0⟩ | ⟨g, cap, cur, hv, -, hgb, hnc, hcm, hcs, htk⟩
  ·have e2 : l2 = [] := List.eq_nil_of_length_eq_zero (by omega)
   have e1 : es = [] := List.eq_nil_of_length_eq_zero (by omega)
   subst e2 e1
   have hrun := run_copy_noneN (P := P) c.w tt tt o.type e k none A 0 0 0 cc (tyElem_spec hT.h) hss rfl
   refine ⟨goInt (0 : Nat), c, by rw [List.length_nil] at hvs1; simp [execOp, ho, resolve, invoke, builtin, hvv, hv, hvs1, hrun], ?_, .fr _ _ (.bot _)⟩
   exact hr.congr ⟨fun _ => rfl, fun o => by
    show look H o = look ((q, AObj.arr te k []) :: H) o
    rw [look_cons]; split
    ·rename_i e; subst e; exact hq
    rfl, rfl⟩
  rcases hcells with ⟨rfl, h0⟩ | ⟨ad, rfl, hsrc⟩
  ·have e2 : l2 = [] := List.eq_nil_of_length_eq_zero h0
   have e1 : es = [] := List.eq_nil_of_length_eq_zero (by omega)
   subst e2 e1
   have hrun := run_copy_noneN (P := P) c.w tt tt o.type e k (some ⟨g, 0, none⟩) none 0 cap 0 cc (tyElem_spec hT.h) hss rfl
   refine ⟨goInt (0 : Nat), c, by rw [List.length_nil] at hvs1 hv; simp [execOp, ho, resolve, invoke, builtin, hvv, hv, hvs1, hrun], ?_, .fr _ _ (.bot _)⟩
   exact hr.congr ⟨fun _ => rfl, fun o => by
    show look H o = look ((q, AObj.arr te k []) :: H) o
    rw [look_cons]; split
    ·rename_i e; subst e; exact hq
    rfl, rfl⟩
  have hcl : news.length ≤ cur.size := by
   have := Nat.mul_le_mul_right k hnc
   rw [hnl, h2, hcs]; exact this
  have hrun := run_copy_rowN (P := P) c.w tt tt o.type e k g es.length cap ad l2.length cc cur te news l2.length (tyElem_spec hT.h) hss (by rw [h2]; exact (Nat.min_self _).symm) hgb hnl hsrc hcl hn1
  have hglt : g < c.w.heap.size := (Array.getElem?_eq_some_iff.1 hgb).1
  have hblk : ∀ b, b < c.w.heap.size → vblk v0 ≠ some b → (c.w.setRow g (news ++ cur.toList.drop news.length).toArray).heap[b]? = c.w.heap[b]? := fun b hb hne => setRow_other c.w g b _ (fun e => hne (by rw [hv, e]; rfl))
  obtain ⟨c', e1, e2, hle, e4, e5, hr'⟩ := hr.upd hq (w' := c.w.setRow g (news ++ cur.toList.drop news.length).toArray) (S' := c.S) hv0 (.arr te k l2) (v' := v0) rfl rfl rfl ⟨by simp [World.setRow], Nat.le_refl _⟩ hblk
   (fun b off hs => ⟨hs, World.cell?_of_block (a := ⟨b, off, none⟩) (hblk b (hr.Ssz _ _ hs) (fun e => hS b e off hs))⟩) (fun _ _ h => .inl h) (.inl rfl) (.refl _)
   (fun c' e1 e2 hle => .arr _ te k _ news (by
     rw [e1, h2]
     refine ⟨by rw [hnl, h2], .inr ⟨g, cap, _, hv, Nat.zero_le _, by
      show (c.w.heap.modify g _)[g]? = _
      rw [Array.getElem?_modify, if_pos rfl, hgb]; rfl, hnc, hcm, by simp [hcs]; omega, by
      rw [← h2, ← hnl, List.take_append_of_le_length (Nat.le_refl _)]
      exact List.take_of_length_le (Nat.le_refl _)⟩⟩) hke2
    (fun i u y hi hy => .fr _ _ ((hnfr i u y hi hy).mono hle.S))
    (fun b hb off hs => by rw [e2] at hs; exact hS b hb off hs))
  exact ⟨goInt (l2.length : Nat), c', by rw [e1]; simp [execOp, ho, resolve, invoke, builtin, hvv, hv, hvs1, hrun], hr', .fr _ _ (.bot _)⟩
end
end Go.Proofs.YthldgioggjpnpaaGreat

namespace Go.Proofs.YthldgioggjpnpaaGreat
open Go.RowKit
section
variable {P : Program} {E : Env} {ops : Array Oper} {md : Region.Mode}
def AU (P : Program) (E : Env) (ops : Array Oper) (md : Region.Mode) (Q : Exit → St → Prop) : Nat → Array Bool → St → Prop
 | 0, listed, s => Region.ready md ops listed = [] ∧ Q .normal s
 | f + 1, listed, s => (∃ i oi x, ops[i]? = some oi ∧ (Region.ready md ops listed).contains i = true ∧ Region.free md ops listed i = true ∧ WI P E ops oi x s ∧ AU P E ops md Q f (listed.setIfInBounds i true) (s.put oi.dst x)) ∨
  ((Region.ready md ops listed = [] → Q .normal s) ∧ ∀ i ∈ Region.ready md ops listed, aOp P E ops i (AU P E ops md Q f (listed.setIfInBounds i true)) s ∨ aSt P E ops i (AU P E ops md Q f (listed.setIfInBounds i true)) s ∨ aNw P E ops i (AU P E ops md Q f (listed.setIfInBounds i true)) s)
theorem wpAny_of_AU {Q : Exit → St → Prop} (hs : Region.noSelect ops = true) (hQ : ∀ c s, Q (.panic c) s → False) : ∀ (f : Nat) (listed : Array Bool) (c : Cx) (a : Act) (s : St), Rel E c a s → AU P E ops md Q f listed s → wpAny P md ops (lift E Q) f listed a c.w
 | 0, _, c, _, s, hr, h => ⟨h.1, c, s, rfl, hr, h.2⟩
 | f + 1, listed, c, a, s, hr, h => by
  rcases h with ⟨i, oi, x, hoi, hrd, hfr, ⟨hd, hwi⟩, hk⟩ | h
  ·obtain ⟨v, hy, hv⟩ := hwi c a hr
   exact wpAny_take hoi hs hfr hrd (fun c' a' w' ⟨c2, s2, _, _, hq⟩ => (hQ c' s2 hq).elim) hy (wpAny_of_AU hs hQ f _ c _ _ (hr.put hd hv) hk)
  refine ⟨fun h0 => ⟨c, s, rfl, hr, h.1 h0⟩, fun i hi => ?_⟩
  rcases h.2 i hi with h1 | ⟨o, s', ho, hw, hd, hrun, hk⟩ | ⟨o, s', x, ho, hw, hd, hrun, hk⟩
  ·exact wpOp_of_aOp hr (fun c' a' s' hr' h' => wpAny_of_AU hs hQ f _ c' a' s' hr' h') h1
  ·unfold wpOp
   simp only [ho]
   rw [wanted_of hw hr, if_pos rfl]
   obtain ⟨c', hrun', hr'⟩ := hrun c a hr
   refine .inl ?_
   unfold Oper.wp
   rw [hrun', Oper.upon_skip, hd]
   exact wpAny_of_AU hs hQ f _ c' _ s' hr' hk
  unfold wpOp
  simp only [ho]
  rw [wanted_of hw hr, if_pos rfl]
  exact .inl (hrun c a hr _ _ fun c' v hr' hv => wpAny_of_AU hs hQ f _ c' _ _ (hr'.put hd hv) hk)
/-- THE RULE -/
theorem awp_takeN {Q : Exit → St → Prop} {st : St} {id : Nat} {l : List Oper} (n : Nat) (hn : l.toArray.size = n) (hm : P.follows .mixedOrders = true) (hs : Region.noSelect l.toArray = true) (hQ : ∀ c s, Q (.panic c) s → False) (h : AU P E l.toArray .any Q n (Array.replicate n false) st) : AWP P E (.region id l.toArray true) Q st := fun c a hr => by
 subst hn
 exact wp_region_any hm (wpAny_of_AU hs hQ _ _ _ _ _ hr.drew h)
def UAll (P : Program) (E : Env) (ops : Array Oper) (md : Region.Mode) (Q : Exit → St → Prop) (f : Nat) (listed : Array Bool) (s : St) : List Nat → Prop
 | [] => True
 | i :: r => (aOp P E ops i (AU P E ops md Q f (listed.setIfInBounds i true)) s ∨ aSt P E ops i (AU P E ops md Q f (listed.setIfInBounds i true)) s ∨ aNw P E ops i (AU P E ops md Q f (listed.setIfInBounds i true)) s) ∧ UAll P E ops md Q f listed s r
theorem au_all {Q : Exit → St → Prop} {f : Nat} {listed : Array Bool} {s : St} (rs : List Nat) (hr : Region.ready md ops listed = rs) (hne : rs.isEmpty = false) (h : UAll P E ops md Q f listed s rs) : AU P E ops md Q (f + 1) listed s := by
 have key : ∀ (rs : List Nat), UAll P E ops md Q f listed s rs → ∀ i ∈ rs, aOp P E ops i (AU P E ops md Q f (listed.setIfInBounds i true)) s ∨ aSt P E ops i (AU P E ops md Q f (listed.setIfInBounds i true)) s ∨ aNw P E ops i (AU P E ops md Q f (listed.setIfInBounds i true)) s := by
  intro rs
  induction rs with
  | nil => intro _ i hi; cases hi
  | cons j r ih =>
   rintro ⟨h1, h2⟩ i hi
   rcases List.mem_cons.1 hi with rfl | hi
   ·exact h1
   exact ih h2 i hi
 refine .inr ⟨fun h0 => ?_, fun i hi => key rs h i (hr ▸ hi)⟩
 rw [h0] at hr; subst hr; cases hne
theorem au_done {Q : Exit → St → Prop} {listed : Array Bool} {s : St} (hr : Region.ready md ops listed = []) (h : Q .normal s) : AU P E ops md Q 0 listed s := ⟨hr, h⟩
variable {o : Oper} {t : List (Nat × AV)} {H : List (Nat × AObj)} {nx N d : Nat} {w : Bool} {T : St → Prop} {i : Nat}
theorem au_take {Q : Exit → St → Prop} {f : Nat} {listed : Array Bool} (i : Nat) (hi : ops[i]? = some o) (hr : (Region.ready md ops listed).contains i = true) (hf : Region.free md ops listed i = true) {x : AV} (hd : o.dst = some d) (hy : WI P E ops o x ⟨t, H, nx⟩)
  (h : AU P E ops md Q f (listed.setIfInBounds i true) ⟨(d, x) :: t, H, nx⟩) : AU P E ops md Q (f + 1) listed ⟨t, H, nx⟩ := .inl ⟨i, o, x, hi, hr, hf, hy, by rw [hd]; exact h⟩
theorem nw_of {s s' : St} {x : AV} (hi : ops[i]? = some o) (hg : wantedA ops s o = some true) (hd : dstOk E o) (h : ∀ c a, Rel E c a s → ∃ v, ∃ c' : Cx, (execOp a.eval o).run P c.w = .ok (.value v) c'.w ∧ Rel E c' a s' ∧ VR c' v x) (hT : T (s'.put o.dst x)) : aNw P E ops i T s :=
 ⟨o, s', x, hi, hg, hd, fun c a hr K Q hK => by
  obtain ⟨v, c', h1, h2, h3⟩ := h c a hr
  unfold Oper.wp
  rw [h1, Oper.upon_value]
  exact hK c' v h2 h3, hT⟩
/-- an operation that computes and reads, behind a weakening -/
theorem nw_weak (hN : E.N = N) {s1 : St} {x : AV} (hi : ops[i]? = some o) (hg : wantedA ops ⟨t, H, nx⟩ o = some w) (hw : w = true) (hd : o.dst = some d) (hdN : Nat.blt d N = true) (hwk : Weak E ⟨t, H, nx⟩ s1) (hy : PY P E o s1 x) (h : T (s1.put (some d) x)) : aNw P E ops i T ⟨t, H, nx⟩ := by
 subst hw
 refine ⟨o, s1, x, hi, hg, dlt hN hd hdN, fun c a hr K Q hK => ?_, by rw [hd]; exact h⟩
 obtain ⟨c1, e1, hr1⟩ := hwk c a hr
 have := hy s1 (fun _ _ => rfl) (Keep.refl _) c1 a hr1 K Q hK
 rw [e1] at this
 exact this
theorem nw_bslice0 (hN : E.N = N) (hi0 : ops[i]? = some o) (hB : Nat.blt nx idB = true) {tt e : TypeId} {n : Nat} [hT : TElem P tt e n] (ho : o.op = .buildSlice tt 0 #[])
  (hg : wantedA ops ⟨t, H, nx⟩ o = some w) (hw : w = true) (hd : o.dst = some d) (hdN : Nat.blt d N = true)
  (h : T ⟨(d, .own nx 0) :: t, (nx, .arr e n []) :: H, nx + 1⟩) : aNw P E ops i T ⟨t, H, nx⟩ := by
 subst hw
 refine nw_of (s' := ⟨t, (nx, .arr e n []) :: H, nx + 1⟩) (x := .own nx 0) hi0 hg (dlt hN hd hdN) (fun c a hr => ?_) (by rw [hd]; exact h)
 obtain ⟨i, hi, hsz⟩ := tySize_spec hT.size
 have hs1 : (sizeOf e).run P c.w = .ok i.size c.w := by simp [sizeOf, typeInfo, hi]
 have hrun : (execOp a.eval o).run P c.w = .ok (.value (.slice (some ⟨c.w.heap.size, 0, none⟩) 0 0)) (c.w.alloc (.cells #[] e)) := by
  simp [execOp, ho, Sem.run_bind, Instr.buildSlice, run_underlying (tyElem_spec hT.h), Result.andThen_ok, hs1, newRow, Instr.fill]
  congr 2; apply Array.ext <;> simp
 have hown : (c.w.alloc (.cells #[] e)).ownsRow 0 e n (.slice (some ⟨c.w.heap.size, 0, none⟩) 0 0) 0 [] :=
  ⟨by simp, .inr ⟨c.w.heap.size, 0, #[], rfl, Nat.zero_le _, heap_new _ _ _, Nat.le_refl _, Nat.zero_le _, by simp, by simp⟩⟩
 obtain ⟨c', e1, e2, hle, e4, e5, hr'⟩ := hr.new (Nat.le_of_ble_eq_true hB) (below_new c.w (.cells #[] e)) (.slice (some ⟨c.w.heap.size, 0, none⟩) 0 0) (.arr e n [])
  (fun c' e1 e2 hle => .arr _ e n [] [] (by rw [e1]; exact hown) (by simp) (by simp) (fun b hb off hs => by
   rw [e2] at hs
   have : c.w.heap.size = b := by simpa [vblk] using hb
   subst this
   exact Nat.lt_irrefl _ (hr.Ssz _ _ hs))) (fun b hb => by
   have : c.w.heap.size = b := by simpa [vblk] using hb
   omega)
 refine ⟨_, c', by rw [e1]; exact hrun, hr', .own _ _ _ e4 (fun A n' cap hh => ?_)⟩
 rw [show c'.V nx = some _ from e5] at hh
 cases hh
 exact ⟨Nat.le_refl _, fun _ => rfl⟩
theorem nw_alloc (hN : E.N = N) (hi0 : ops[i]? = some o) (hB : Nat.blt nx idB = true) {tt : TypeId} (ho : o.op = .alloc tt) {zs : List Value} [hz : TZero P tt zs] (hg : wantedA ops ⟨t, H, nx⟩ o = some w) (hw : w = true) (hd : o.dst = some d) (hdN : Nat.blt d N = true)
  (h : T ⟨(d, .ptr nx 0) :: t, (nx, .var tt (zs.map .p)) :: H, nx + 1⟩) : aNw P E ops i T ⟨t, H, nx⟩ := by
 subst hw
 refine nw_of (s' := ⟨t, (nx, .var tt (zs.map .p)) :: H, nx + 1⟩) (x := .ptr nx 0) hi0 hg (dlt hN hd hdN) (fun c a hr => ?_) (by rw [hd]; exact h)
 have hzs := hz.h
 cases hi : P.info? tt with
 | none => simp [hi] at hzs
 | some i =>
  cases hz0 : i.zero with
  | none => simp [hi, hz0] at hzs
  | some z =>
   have hzc : z.cells.toList = zs := by simpa [hi, hz0] using hzs
   obtain ⟨c', e1, -, hle, hK, hV, hr'⟩ := hr.new (Nat.le_of_ble_eq_true hB) (below_new c.w (.cells z.cells tt)) (.pointer (some ⟨c.w.heap.size, 0, none⟩)) (.var tt (zs.map .p))
    (fun c' e1 e2 hle => .var c.w.heap.size z.cells tt _ (by rw [e1]; exact heap_new _ _ _) (by rw [← hzc]; simp) (fun j u y hi hj => by
     rw [← hzc, List.getElem?_map] at hj
     have hi' : z.cells.toList[j]? = some u := by simpa using hi
     rw [hi'] at hj
     cases hj
     exact .fr _ _ (.p u)) (fun off hs => by
     rw [e2] at hs
     exact Nat.lt_irrefl _ (hr.Ssz _ _ hs))) (fun b hb => by simp [vblk] at hb; omega)
   refine ⟨.pointer (some ⟨c.w.heap.size, 0, none⟩), c', ?_, hr', .ptr _ _ _ hK fun b hb => ?_⟩
   ·rw [e1]
    simp [execOp, ho, Instr.alloc, zeroValue, typeInfo, hi, hz0, newVar, newRow]
   rw [hV] at hb
   simpa using hb
theorem wi_fieldAddr (hN : E.N = N) {s0 : St} {s f : Nat} {x : Operand} (ho : o.op = .fieldAddr s x f) {off n : Nat} {row : Bool} [hT : TField P s f off n row] {ax y : AV} (hx : ev? s0 x = some ax) {ys : List AV} (hc : s0.at_ ax = some (y :: ys)) {r : AV} (hm : moved off ax = some r)
  (hg : wantedA ops s0 o = some w) (hw : w = true) (hd : o.dst = some d) (hdN : Nat.blt d N = true) : WI P E ops o r s0 := wi_of hN hg hw hd hdN fun c a hr => by
 have hv := hr.ev x
 rw [ev_of hx] at hv
 obtain ⟨b, off0, hat⟩ := hr.at_ hv hc
 obtain ⟨hp, _⟩ := hat 0 _ rfl
 rw [hp] at hv
 obtain ⟨ft, h3, h4, _⟩ := hT.h
 have hpos := hT.pos
 refine ⟨.pointer (some ⟨b, off0 + off, none⟩), fun w => ?_, hv.moved hm⟩
 unfold tyField at h3
 split at h3
 ·rename_i fs hfs
  cases hfl : fs[f]? with
  | none => rw [hfl] at h3; cases h3
  | some fl =>
   rw [hfl] at h3
   simp only [Option.map_some, Option.some.injEq, Prod.mk.injEq] at h3
   obtain ⟨e1, e2⟩ := h3
   subst e1 e2
   have hz : n ≠ 0 := by omega
   simp [execOp, ho, hp, Instr.fieldAt, run_underlying hfs, hfl, Instr.sureAddr, fieldPlace, run_sizeOf' h4, hz, Addr.add_mk]
 cases h3
theorem wi_slice (hN : E.N = N) {st : St} (t : TypeId) (x : Operand) (lo hi : Option Operand) (ho : o.op = .slice t x lo hi none) {e : TypeId} {n : Nat} [hT : TElem P t e n] (es : List (List AV)) (tk : Option Nat) (hx : st.ev x = .sl es tk)
  (l h : Nat) (hlo : lo = none ∧ l = 0 ∨ ∃ y k, lo = some y ∧ st.ev y = .p (.int k (l : Int))) (hhi : hi = none ∧ h = es.length ∨ ∃ y k, hi = some y ∧ st.ev y = .p (.int k (h : Int))) (hlh : l ≤ h) (hh : h ≤ es.length) (hn : ∀ e ∈ es, e.length = n)
  (hg : wantedA ops st o = some w) (hw : w = true) (hd : o.dst = some d) (hdN : Nat.blt d N = true) : WI P E ops o (.sl ((es.take h).drop l) none) st := wi_of hN hg hw hd hdN fun c a hr => by
 have hv := hr.ev x
 rw [hx] at hv
 have hfr := hv.sl_inv
 generalize hvx : a.eval x = vx at *
 have hlen : ((es.take h).drop l).length = h - l := by simp; omega
 cases hfr with
 | sl A m cc k' _ b off f hl hm hcc hA hk hcell hfr =>
  subst hl
  have hlv : (lo.map a.eval = none ∧ l = 0) ∨ ∃ k, lo.map a.eval = some (.int k (l : Int)) := by
   rcases hlo with ⟨e1, e2⟩ | ⟨y, k, e1, e2⟩
   ·exact .inl ⟨by rw [e1]; rfl, e2⟩
   have := hr.ev y
   rw [e2] at this
   exact .inr ⟨k, by rw [e1, Option.map_some, this.p_inv]⟩
  have hhv : (hi.map a.eval = none ∧ h = es.length) ∨ ∃ k, hi.map a.eval = some (.int k (h : Int)) := by
   rcases hhi with ⟨e1, e2⟩ | ⟨y, k, e1, e2⟩
   ·exact .inl ⟨by rw [e1]; rfl, e2⟩
   have := hr.ev y
   rw [e2] at this
   exact .inr ⟨k, by rw [e1, Option.map_some, this.p_inv]⟩
  refine ⟨.slice (if cc = l then A else A.map (·.add (l * n))) (h - l) (cc - l), fun w => ?_, .fr _ _ (.sl _ (h - l) (cc - l) n _ b (off + l * n) (fun j q => f (l + j) q) hlen (by omega) (by omega) (fun hpos => ?_) (fun j e' hj => ?_) (fun j e' q y hj hq => ?_) (fun j e' q y hj hq => ?_))⟩
  ·have hb : (Instr.sliceBounds true es.length cc (lo.map a.eval) (hi.map a.eval) none).run P w = .ok (l, h, cc) w := by
    have hle : h ≤ cc := by omega
    rcases hlv with ⟨e1, e2⟩ | ⟨k1, e1⟩ <;> rcases hhv with ⟨e3, e4⟩ | ⟨k2, e3⟩
    ·subst e2 e4; simp [Instr.sliceBounds, e1, e3]
    ·subst e2; simp [Instr.sliceBounds, e1, e3, Instr.sliceBound, asIntOf, hle]
    ·subst e4; simp [Instr.sliceBounds, e1, e3, Instr.sliceBound, asIntOf, hlh]
    simp [Instr.sliceBounds, e1, e3, Instr.sliceBound, asIntOf, hlh, hle]
   simp [execOp, ho, Instr.sliceAt, Instr.slice, hvx, run_underlying (tyElem_spec hT.h), hb, run_sizeOf' hT.size]
  ·rw [hA (by omega), if_neg (by omega), Option.map_some, Addr.add_mk]
  ·rw [List.getElem?_drop, List.getElem?_take] at hj
   split at hj
   ·exact hn e' (List.mem_of_getElem? hj)
   cases hj
  ·rw [List.getElem?_drop, List.getElem?_take] at hj
   split at hj
   ·have hk' : k' = n := by rw [← hk _ _ hj]; exact hn e' (List.mem_of_getElem? hj)
    subst hk'
    have := hcell _ _ q y hj hq
    rwa [Nat.add_mul, ← Nat.add_assoc] at this
   cases hj
  rw [List.getElem?_drop, List.getElem?_take] at hj
  split at hj
  ·exact hfr _ _ q y hj hq
  cases hj
end
end Go.Proofs.YthldgioggjpnpaaGreat

namespace Go.Proofs.YthldgioggjpnpaaGreat
open Go.RowKit
section
variable {P : Program} {E : Env} {ops : Array Oper} {o : Oper} {t : List (Nat × AV)} {H : List (Nat × AObj)} {nx N d : Nat} {w : Bool} {T : St → Prop} {i : Nat}
/-- a number is passed over -/
theorem weak_bump (hB : Nat.blt nx idB = true) : Weak E ⟨t, H, nx⟩ ⟨t, H, nx + 1⟩ := fun c _ hr =>
 ⟨c, rfl, { hr with
  tmps := hr.tmps
  live := hr.live
  dead := hr.dead
  ids := fun o hk => (hr.ids o hk).imp (fun h => Nat.lt_succ_of_lt h) id
  nxB := Nat.le_of_ble_eq_true hB }⟩
theorem nw_pre {s s1 : St} (hwk : Weak E s s1) (hi : ops[i]? = some o) (hg : wantedA ops s o = some true) (h : aNw P E ops i T s1) : aNw P E ops i T s := by
 obtain ⟨o', s', x, hi', -, hd, hrun, hT⟩ := h
 have : o' = o := Option.some.inj (hi'.symm.trans hi)
 subst this
 refine ⟨o', s', x, hi, hg, hd, fun c a hr K Q hK => ?_, hT⟩
 obtain ⟨c1, e1, hr1⟩ := hwk c a hr
 have := hrun c1 a hr1 K Q hK
 rw [e1] at this
 exact this
/-- a new variable, one number on -/
theorem nw_alloc1 (hN : E.N = N) (hi0 : ops[i]? = some o) (hB0 : Nat.blt nx idB = true) (hB : Nat.blt (nx + 1) idB = true) {tt : TypeId} (ho : o.op = .alloc tt) {zs : List Value} [hz : TZero P tt zs] (hg : wantedA ops ⟨t, H, nx⟩ o = some w) (hw : w = true) (hd : o.dst = some d) (hdN : Nat.blt d N = true)
  (h : T ⟨(d, .ptr (nx + 1) 0) :: t, (nx + 1, .var tt (zs.map .p)) :: H, nx + 2⟩) : aNw P E ops i T ⟨t, H, nx⟩ := by
 subst hw
 exact nw_pre (weak_bump hB0) hi0 hg (nw_alloc hN hi0 hB ho hg rfl hd hdN h)
theorem wi_extract (hN : E.N = N) {s : St} {x : Operand} {j : Nat} (ho : o.op = .extract x j) {xs : List AV} (hx : ev? s x = some (.tup xs)) {r : AV} (hj : xs[j]? = some r) (hg : wantedA ops s o = some w) (hw : w = true) (hd : o.dst = some d) (hdN : Nat.blt d N = true) : WI P E ops o r s := wi_of hN hg hw hd hdN fun c a hr => by
 have hv := hr.ev x
 rw [ev_of hx] at hv
 generalize hvx : a.eval x = vx at *
 have key : ∃ vs : List Value, vx = .tuple vs.toArray ∧ vs.length = xs.length ∧ ∀ (i : Nat) (v : Value) (x : AV), vs[i]? = some v → xs[i]? = some x → VR c v x := by
  cases hv with
  | fr _ _ h => cases h with | tup vs _ hl h => exact ⟨vs, rfl, hl, fun i v x h1 h2 => .fr _ _ (h i v x h1 h2)⟩
  | tup vs _ hl h => exact ⟨vs, rfl, hl, h⟩
 obtain ⟨vs, rfl, hl, hp⟩ := key
 have hiv : j < vs.length := by have := (List.getElem?_eq_some_iff.1 hj).1; omega
 exact ⟨vs[j], fun w => by simp [execOp, ho, hvx, Instr.extract, hiv], hp j _ _ (List.getElem?_eq_getElem hiv) hj⟩
variable {α : Type} {f : α → List AV} {l : List α} {n : Nat} {s : St}
theorem wi_to (hN : E.N = N) {tt : TypeId} {x y : Operand} (ho : o.op = .slice tt x none (some y) none) {e : TypeId} [hT : TElem P tt e n] {tk : Option Nat} (hx : ev? s x = some (.sl (l.map f) tk)) {k : IntKind} {j : Int} (hy : ev? s y = some (.p (.int k j)))
  (h : Nat) (hi : j = (h : Int)) (hh : h ≤ l.length) (hn : ∀ a, (f a).length = n) (hg : wantedA ops s o = some w) (hw : w = true) (hd : o.dst = some d) (hdN : Nat.blt d N = true) : WI P E ops o (.sl ((l.take h).map f) none) s := by
 have := wi_slice (P := P) (E := E) (ops := ops) hN tt x none (some y) ho (l.map f) tk (ev_of hx) 0 h (.inl ⟨rfl, rfl⟩) (.inr ⟨y, k, rfl, by rw [ev_of hy, hi]⟩) (Nat.zero_le _) (by simpa using hh) (len_map hn) hg hw hd hdN
 simpa [List.map_take] using this
theorem wi_from (hN : E.N = N) {tt : TypeId} {x y : Operand} (ho : o.op = .slice tt x (some y) none none) {e : TypeId} [hT : TElem P tt e n] {tk : Option Nat} (hx : ev? s x = some (.sl (l.map f) tk)) {k : IntKind} {j : Int} (hy : ev? s y = some (.p (.int k j)))
  (h : Nat) (hi : j = (h : Int)) (hh : h ≤ l.length) (hn : ∀ a, (f a).length = n) (hg : wantedA ops s o = some w) (hw : w = true) (hd : o.dst = some d) (hdN : Nat.blt d N = true) : WI P E ops o (.sl ((l.drop h).map f) none) s := by
 have := wi_slice (P := P) (E := E) (ops := ops) hN tt x (some y) none ho (l.map f) tk (ev_of hx) h (l.map f).length (.inr ⟨y, k, rfl, by rw [ev_of hy, hi]⟩) (.inl ⟨rfl, rfl⟩) (by simpa using hh) (Nat.le_refl _) (len_map hn) hg hw hd hdN
 rw [List.take_length] at this
 simpa [List.map_drop] using this
end
end Go.Proofs.YthldgioggjpnpaaGreat

namespace Go.Proofs.YthldgioggjpnpaaGreat
open Go.RowKit
/-- as FC, without a word on draws -/
def FCb (P : Program) (f : FuncId) (args : List AV) (res : AV) : Prop :=
 ∀ (w : World) (S : Nat → Nat → Prop) (vs : List Value), (∀ b o, S b o → b < w.heap.size) → FRs w S vs args →
  Calls P f vs.toArray w fun e w' => ∃ v S', e = .returned v ∧ Below w.heap.size w w' ∧ (∀ b o, S b o → S' b o) ∧
   (∀ b o, S' b o → S b o ∨ (w.heap.size ≤ b ∧ b < w'.heap.size)) ∧ FR w' S' v res
theorem FC.b {P : Program} {f : FuncId} {args : List AV} {res : AV} (h : FC P f args res) : FCb P f args res := fun w S vs hS hv =>
 (h w S vs hS hv).mono fun _ _ ⟨v, S', h1, h2, h3, h4, h5⟩ => ⟨v, S', h1, h2.toBelow, h3, h4, h5⟩
theorem below_cellB {w w' : World} (hw : Below w.heap.size w w') {b off : Nat} (hb : b < w.heap.size) : w'.cell? ⟨b, off, none⟩ = w.cell? ⟨b, off, none⟩ := Below.cell hw (p := ⟨b, off, none⟩) hb
section
variable {c : Cx} {E : Env} {a : Act} {st : St}
theorem Rel.extB2 (hz : E.w0.drawn = 0) (h : Rel E c a st) {w' : World} {S' : Nat → Nat → Prop} (hw : Below c.w.heap.size c.w w') (hS : ∀ b o, c.S b o → S' b o)
  (hS' : ∀ b o, S' b o → c.S b o ∨ (c.w.heap.size ≤ b ∧ b < w'.heap.size)) : c.le ⟨w', S', c.V, c.K⟩ ∧ Rel E ⟨w', S', c.V, c.K⟩ a st := by
 have hc : c.le ⟨w', S', c.V, c.K⟩ := ⟨fun b o hs => ⟨hS b o hs, below_cellB hw (h.Ssz b o hs)⟩, fun _ h => h, fun _ _ => .refl _⟩
 refine ⟨hc, ?_⟩
 have hsz := hw.size
 exact {
  defers := h.defers, size := h.size, tmps := fun i => (h.tmps i).mono hc
  live := fun o ob ho => by
   obtain ⟨hk, v, hv, hor, hwr⟩ := h.live o ob ho
   refine ⟨hk, v, hv, hor.extB hw hc (fun b hb off hs => ?_), hwr⟩
   rcases hS' b off hs with h1 | ⟨h1, _⟩
   ·exact h1
   have := hor.lt hb; omega
  dead := h.dead, apart := h.apart, ids := h.ids, nxB := h.nxB, kbs := h.kbs, V0 := h.V0
  Ssz := fun b off hs => by
   rcases hS' b off hs with h1 | ⟨_, h1⟩
   ·exact Nat.lt_of_lt_of_le (h.Ssz b off h1) hsz
   exact h1
  os := hw.os.trans h.os, tape := hw.tape.trans h.tape, output := hw.output.trans h.output
  drawn := by rw [hz]; exact Nat.zero_le _
  grown := Nat.le_trans h.grown hsz
  frame := fun b hb hn => (hw.block b (Nat.lt_of_lt_of_le hb h.grown)).trans (h.frame b hb hn)
  S0 := fun b off hs => ⟨hS _ _ (h.S0 b off hs).1, (below_cellB hw (h.Ssz _ _ (h.S0 b off hs).1)).trans (h.S0 b off hs).2⟩
  Snew := fun b off hs => by
   rcases hS' b off hs with h1 | ⟨h1, _⟩
   ·exact h.Snew b off h1
   exact .inr (E.new b (Nat.le_trans h.grown h1)) }
end
section
variable {P : Program} {E : Env} {o : Oper} {st : St}
theorem py_fcb (hz : E.w0.drawn = 0) (f : FuncId) (xs : Array Operand) (ts : Array TypeId) (ho : o.op = .call { callee := .value (.func f), args := xs, argTypes := ts }) [hf : TFn P f]
  (az bs : List AV) (ha : xs.toList.map st.ev = az) (hb : fzl az = some bs) (r : AV) (hc : FCb P f bs r) : PY P E o st r := by
 intro st' h1 h2 c a hr K Q hK
 have hev : xs.toList.map st'.ev = az := by
  rw [← ha]
  refine List.map_congr_left fun y hy => h1 y ?_
  simp only [ho, Op.operands, Call.operands]
  simp [Array.mem_toList_iff.1 hy]
 obtain ⟨h3, h4⟩ := fzl_spec hb
 have hl : az.length = xs.size := by rw [← ha]; simp
 have hfrs : FRs c.w c.S (xs.toList.map a.eval) bs := by
  refine ⟨by simp [h3, hl], fun i v y hi hj => ?_⟩
  have hix : i < az.length := by have := (List.getElem?_eq_some_iff.1 hj).1; omega
  have hvx : VR c v az[i] := by
   rw [List.getElem?_map] at hi
   cases hq : xs.toList[i]? with
   | none => rw [hq] at hi; cases hi
   | some q =>
    rw [hq] at hi; cases hi
    have : az[i]? = some (st'.ev q) := by rw [← hev, List.getElem?_map, hq]; rfl
    rw [List.getElem?_eq_getElem hix] at this
    rw [Option.some.inj this]
    exact hr.ev q
  exact hvx.fz (h4 i _ y (List.getElem?_eq_getElem hix) hj)
 have hcall := hc c.w c.S _ hr.Ssz hfrs
 have hrun : (execOp a.eval o).run P c.w = .ok (.enter f (xs.toList.map a.eval).toArray) c.w := by
  have e1 : a.eval (.func f) = .func (.func f) #[] #[] := rfl
  have e2 : (xs.toList.map a.eval).toArray = xs.map a.eval := by apply Array.ext'; simp
  simp [execOp, ho, resolve, invoke, e1, Deferred.ofValue, hf.h, e2]
 unfold Oper.wp
 rw [hrun, Oper.upon_enter]
 refine hcall.mono ?_
 rintro e w' ⟨v, S', rfl, hw, hS, hS', hv⟩
 obtain ⟨hle, hr'⟩ := hr.extB2 hz hw hS hS'
 exact hK ⟨w', S', c.V, c.K⟩ v hr' (.fr _ _ hv)
theorem q_callb (hz : E.w0.drawn = 0) {f : FuncId} {xs : Array Operand} {ts : Array TypeId} {bs : List AV} {r : AV} (hc : FCb P f bs r) (ho : o.op = .call { callee := .value (.func f), args := xs, argTypes := ts }) [hf : TFn P f] {az : List AV} (ha : evl st xs.toList = some az) (hb : fzl az = some bs) : PY P E o st r :=
 py_fcb hz f xs ts ho az bs (evl_of ha) hb r hc
end
theorem fcb_of_awp {P : Program} {f : FuncId} {fn : Func} {code : Code} {args : List AV} {res : AV} (ts : List Nat) (hf : P.funcs[f]? = some fn) (hb : fn.body = some code) (hres : fn.results = (ts.map ResultVar.tmp).toArray) (N : Nat) (hN : fn.ntmps = N) (hle : args.length ≤ N)
  (h : ∀ E : Env, E.N = N → E.w0.drawn = 0 → AWP P E code (retA ts res) ⟨argT 0 args, [], 0⟩) : FCb P f args res := by
 intro w S vs hS hv
 have hvl : vs.length = args.length := hv.1
 refine calls_of_wp hf hb ?_
 have hr : Rel (Env.at_ N { w with drawn := 0 } S) ⟨w, S, fun _ => none, fun _ => False⟩ { tmps := vs.toArray ++ Array.replicate (fn.ntmps - vs.toArray.size) undef, defers := [] } ⟨argT 0 args, [], 0⟩ := {
  defers := rfl
  size := by show (vs.toArray ++ Array.replicate (fn.ntmps - vs.toArray.size) undef).size = N; simp; omega
  tmps := fun i => by
   show VR _ ((vs.toArray ++ Array.replicate (fn.ntmps - vs.toArray.size) undef).getD i undef) ((look (argT 0 args) i).getD .bot)
   rw [look_argT]
   simp only [Nat.zero_le, if_true, Nat.sub_zero]
   rcases Nat.lt_or_ge i args.length with hlt | hge
   ·have hlt' : i < vs.length := by omega
    have e : (vs.toArray ++ Array.replicate (fn.ntmps - vs.toArray.size) undef).getD i undef = vs[i] := by
     simp [Array.getElem?_append, hlt']
    rw [e, List.getElem?_eq_getElem hlt]
    exact .fr _ _ (hv.2 i _ _ (List.getElem?_eq_getElem hlt') (List.getElem?_eq_getElem hlt))
   rw [List.getElem?_eq_none hge]
   exact .fr _ _ (.bot _)
  live := fun o ob h => by cases h
  dead := fun _ _ => rfl
  apart := fun o o' v v' b h => by cases h
  ids := fun _ h => h.elim, nxB := Nat.zero_le _, kbs := fun _ h => h.elim, V0 := fun _ h => h.elim
  Ssz := hS
  os := rfl, tape := rfl, output := rfl, drawn := Nat.zero_le _, grown := Nat.le_refl _
  frame := fun _ _ _ => rfl
  S0 := fun _ _ h => ⟨h, rfl⟩
  Snew := fun _ _ h => .inl h }
 refine wp_mono (h (Env.at_ N { w with drawn := 0 } S) rfl rfl _ _ hr) ?_
 rintro e a' w' ⟨c, st, rfl, hr', hq⟩
 have fin : ((resX st ts).fzt = some res) →
   a'.defers = [] ∧ ∃ v, (results fn a'.tmps).run P c.w = .ok v c.w ∧ ∃ v' S', Ending.returned v = .returned v' ∧ Below w.heap.size w c.w ∧ (∀ b o, S b o → S' b o) ∧ (∀ b o, S' b o → S b o ∨ (w.heap.size ≤ b ∧ b < c.w.heap.size)) ∧ FR c.w S' v' res := by
  intro hr2
  refine ⟨hr'.defers, _, results_tmps ts hres a'.tmps c.w, _, c.S, rfl, ⟨hr'.os, hr'.tape, hr'.output, hr'.grown, fun b hb => hr'.frame b hb (Nat.not_le.2 hb)⟩, fun b o h => (hr'.S0 b o h).1, fun b o h => ?_, ?_⟩
  ·rcases hr'.Snew b o h with h1 | h1
   ·exact .inl h1
   exact .inr ⟨h1, hr'.Ssz b o h⟩
  have hvr : VR c (resV a'.tmps ts) (resX st ts) := by
   have many : ∀ ts : List Nat, VR c (.tuple (ts.map fun t => a'.tmps.getD t undef).toArray) (.tup (ts.map st.get)) := fun ts => by
    refine .tup _ _ (by simp) fun i v x hi hj => ?_
    rw [List.getElem?_map] at hi hj
    cases hq : ts[i]? with
    | none => rw [hq] at hi; cases hi
    | some t => rw [hq] at hi hj; cases hi; cases hj; exact hr'.tmps t
   match ts with
   | [] => exact many []
   | [t] => exact hr'.tmps t
   | t :: u :: ts => exact many (t :: u :: ts)
  generalize resX st ts = r at hr2 hvr
  cases r with
  | tup xs =>
   simp only [AV.fzt] at hr2
   cases hz : fzl xs with
   | none => rw [hz] at hr2; cases hr2
   | some ys => rw [hz] at hr2; cases hr2; exact hvr.tup_fz hz
  | _ => exact hvr.fz hr2
 cases e with
 | normal => exact fin hq
 | ret => exact fin hq
 | _ => exact hq.elim

end Go.Proofs.YthldgioggjpnpaaGreat

namespace Go.Proofs.YthldgioggjpnpaaGreat
open Go.RowKit
theorem weak_nil {E : Env} {t : List (Nat × AV)} {H : List (Nat × AObj)} {nx : Nat} (i : Nat) (h : look t i = some (.p (.slice none 0 0))) : Weak E ⟨t, H, nx⟩ ⟨(i, .sl [] none) :: t, H, nx⟩ := fun c a hr => by
 refine ⟨c, rfl, { hr with live := hr.live, dead := hr.dead, tmps := fun j => ?_ }⟩
 have hj := hr.tmps j
 show VR c _ ((look ((i, AV.sl [] none) :: t) j).getD .bot)
 rw [look_cons]
 split
 ·rename_i e
  subst e
  rw [show St.get ⟨t, H, nx⟩ j = .p (.slice none 0 0) by simp [St.get, h]] at hj
  rw [hj.p_inv]
  exact .fr _ _ (.nil _ _ _ _ (Nat.zero_le _))
 exact hj
end Go.Proofs.YthldgioggjpnpaaGreat

namespace Go.Proofs.YthldgioggjpnpaaGreat
open Go.RowKit
theorem fcb_of_awpR {P : Program} {f : FuncId} {fn : Func} {code : Code} {args : List AV} {res : AV} (rs : List RS) (hok : RS.okL P rs) (hf : P.funcs[f]? = some fn) (hb : fn.body = some code) (hres : fn.results = (rs.map RS.var).toArray) (N : Nat) (hN : fn.ntmps = N) (hle : args.length ≤ N)
  (h : ∀ E : Env, E.N = N → E.w0.drawn = 0 → AWP P E code (retR rs res) ⟨argT 0 args, [], 0⟩) : FCb P f args res := by
 intro w S vs hS hv
 have hvl : vs.length = args.length := hv.1
 refine calls_of_wp hf hb ?_
 have hr : Rel (Env.at_ N { w with drawn := 0 } S) ⟨w, S, fun _ => none, fun _ => False⟩ { tmps := vs.toArray ++ Array.replicate (fn.ntmps - vs.toArray.size) undef, defers := [] } ⟨argT 0 args, [], 0⟩ := {
  defers := rfl
  size := by show (vs.toArray ++ Array.replicate (fn.ntmps - vs.toArray.size) undef).size = N; simp; omega
  tmps := fun i => by
   show VR _ ((vs.toArray ++ Array.replicate (fn.ntmps - vs.toArray.size) undef).getD i undef) ((look (argT 0 args) i).getD .bot)
   rw [look_argT]
   simp only [Nat.zero_le, if_true, Nat.sub_zero]
   rcases Nat.lt_or_ge i args.length with hlt | hge
   ·have hlt' : i < vs.length := by omega
    have e : (vs.toArray ++ Array.replicate (fn.ntmps - vs.toArray.size) undef).getD i undef = vs[i] := by
     simp [Array.getElem?_append, hlt']
    rw [e, List.getElem?_eq_getElem hlt]
    exact .fr _ _ (hv.2 i _ _ (List.getElem?_eq_getElem hlt') (List.getElem?_eq_getElem hlt))
   rw [List.getElem?_eq_none hge]
   exact .fr _ _ (.bot _)
  live := fun o ob h => by cases h
  dead := fun _ _ => rfl
  apart := fun o o' v v' b h => by cases h
  ids := fun _ h => h.elim, nxB := Nat.zero_le _, kbs := fun _ h => h.elim, V0 := fun _ h => h.elim
  Ssz := hS
  os := rfl, tape := rfl, output := rfl, drawn := Nat.zero_le _, grown := Nat.le_refl _
  frame := fun _ _ _ => rfl
  S0 := fun _ _ h => ⟨h, rfl⟩
  Snew := fun _ _ h => .inl h }
 refine wp_mono (h (Env.at_ N { w with drawn := 0 } S) rfl rfl _ _ hr) ?_
 rintro e a' w' ⟨c, st, rfl, hr', hq⟩
 have fin : ((resY st rs).bind AV.fzt = some res) →
   a'.defers = [] ∧ ∃ v, (results fn a'.tmps).run P c.w = .ok v c.w ∧ ∃ v' S', Ending.returned v = .returned v' ∧ Below w.heap.size w c.w ∧ (∀ b o, S b o → S' b o) ∧ (∀ b o, S' b o → S b o ∨ (w.heap.size ≤ b ∧ b < c.w.heap.size)) ∧ FR c.w S' v' res := by
  intro hr2
  cases hx : resY st rs with
  | none => rw [hx] at hr2; cases hr2
  | some x =>
   rw [hx] at hr2
   replace hr2 : x.fzt = some res := hr2
   obtain ⟨v, g1, g2⟩ := hr'.resY hok hres hx
   refine ⟨hr'.defers, v, g1, v, c.S, rfl, ⟨hr'.os, hr'.tape, hr'.output, hr'.grown, fun b hb => hr'.frame b hb (Nat.not_le.2 hb)⟩, fun b o h => (hr'.S0 b o h).1, fun b o h => ?_, ?_⟩
   ·rcases hr'.Snew b o h with h1 | h1
    ·exact .inl h1
    exact .inr ⟨h1, hr'.Ssz b o h⟩
   cases x with
   | tup xs =>
    simp only [AV.fzt] at hr2
    cases hz : fzl xs with
    | none => rw [hz] at hr2; cases hr2
    | some ys => rw [hz] at hr2; cases hr2; exact g2.tup_fz hz
   | _ => exact g2.fz hr2
 cases e with
 | normal => exact fin hq
 | ret => exact fin hq
 | _ => exact hq.elim
end Go.Proofs.YthldgioggjpnpaaGreat

namespace Go.Proofs.YthldgioggjpnpaaGreat
open Go.RowKit
section
variable {P : Program} {E : Env} {ops : Array Oper} {md : Region.Mode} {Q : Exit → St → Prop} {f : Nat} {listed : Array Bool} {o : Oper} {t : List (Nat × AV)} {H : List (Nat × AObj)} {nx N d : Nat} {w : Bool} {x : Operand} {r : AV}
theorem yM (i : Nat) (h : AU P E ops md Q f (listed.setIfInBounds i true) ⟨(d, r) :: t, H, nx⟩) (hi : ops[i]? = some o := by rfl) (hN : E.N = N := by assumption) (hr : (Region.ready md ops listed).contains i = true := by kernel_rfl) (hf : Region.free md ops listed i = true := by kernel_rfl) (ho : o.op = .move x := by rfl) (hx : ev? ⟨t, H, nx⟩ x = some r := by rfl) (hg : wantedA ops ⟨t, H, nx⟩ o = some true := by rfl) (hd : o.dst = some d := by rfl) (hdN : Nat.blt d N = true := by rfl) : AU P E ops md Q (f + 1) listed ⟨t, H, nx⟩ := au_take i hi hr hf hd (wi_move hN ho hx hg rfl hd hdN) h
theorem yA (i : Nat) (h : AU P E ops md Q f (listed.setIfInBounds i true) ⟨(d, r) :: t, H, nx⟩) (hi : ops[i]? = some o := by rfl) (hN : E.N = N := by assumption) (hr : (Region.ready md ops listed).contains i = true := by kernel_rfl) (hf : Region.free md ops listed i = true := by kernel_rfl) (ho : o.op = .assign x := by rfl) (hx : ev? ⟨t, H, nx⟩ x = some r := by rfl) (hg : wantedA ops ⟨t, H, nx⟩ o = some true := by rfl) (hd : o.dst = some d := by rfl) (hdN : Nat.blt d N = true := by rfl) : AU P E ops md Q (f + 1) listed ⟨t, H, nx⟩ := au_take i hi hr hf hd (wi_assign hN ho hx hg rfl hd hdN) h
theorem yX (i : Nat) {xs : List AV} {j : Nat} (h : AU P E ops md Q f (listed.setIfInBounds i true) ⟨(d, r) :: t, H, nx⟩) (hi : ops[i]? = some o := by rfl) (hN : E.N = N := by assumption) (hr : (Region.ready md ops listed).contains i = true := by kernel_rfl) (hf : Region.free md ops listed i = true := by kernel_rfl) (ho : o.op = .extract x j := by rfl) (hx : ev? ⟨t, H, nx⟩ x = some (.tup xs) := by rfl) (hxj : xs[j]? = some r := by rfl) (hg : wantedA ops ⟨t, H, nx⟩ o = some true := by rfl) (hd : o.dst = some d := by rfl) (hdN : Nat.blt d N = true := by rfl) : AU P E ops md Q (f + 1) listed ⟨t, H, nx⟩ := au_take i hi hr hf hd (wi_extract hN ho hx hxj hg rfl hd hdN) h
theorem yS (i : Nat) {tt : TypeId} {x y : Operand} {n : Nat} {row : Bool} {q off : Nat} {t' : TypeId} {cs : List AV} {ay : AV} {ys cs' : List AV} (h : AU P E ops md Q f (listed.setIfInBounds i true) ⟨t, (q, .var t' cs') :: H, nx⟩) (hr : Region.ready md ops listed = [i] := by kernel_rfl) (hi : ops[i]? = some o := by rfl) (ho : o.op = .store tt x y := by rfl) (hT : TVar P tt n row := by infer_instance) (hx : ev? ⟨t, H, nx⟩ x = some (.ptr q off) := by rfl) (hq : look H q = some (.var t' cs) := by rfl) (hy : ev? ⟨t, H, nx⟩ y = some ay := by rfl) (hc : St.cells1 ⟨t, H, nx⟩ ay = some ys := by rfl) (hn : ys.length = n := by rfl) (hle : off + ys.length ≤ cs.length := by exact Nat.le_of_ble_eq_true rfl) (hg : wantedA ops ⟨t, H, nx⟩ o = some true := by rfl) (hd : o.dst = none := by rfl) (hs : splice cs off ys = cs' := by rfl) : AU P E ops md Q (f + 1) listed ⟨t, H, nx⟩ :=
 au_all [i] hr rfl ⟨.inr (.inl (ao_store hi ho hx hq hy hc hn hle hg rfl hd hs h)), trivial⟩
theorem yP (i : Nat) (hi : ops[i]? = some o) (hy : PY P E o ⟨t, H, nx⟩ r) (h : AU P E ops md Q f (listed.setIfInBounds i true) ⟨(d, r) :: t, H, nx⟩) (hN : E.N = N := by assumption) (hr : Region.ready md ops listed = [i] := by kernel_rfl) (hg : wantedA ops ⟨t, H, nx⟩ o = some true := by rfl) (hd : o.dst = some d := by rfl) (hdN : Nat.blt d N = true := by rfl) : AU P E ops md Q (f + 1) listed ⟨t, H, nx⟩ :=
 au_all [i] hr rfl ⟨.inl (ao_py hi (zp hy h hN hg hd hdN)), trivial⟩
theorem yL (i : Nat) {tt : TypeId} {n : Nat} {row : Bool} {ax : AV} {cs : List AV} (h : AU P E ops md Q f (listed.setIfInBounds i true) ⟨(d, r) :: t, H, nx⟩) (hr : Region.ready md ops listed = [i] := by kernel_rfl) (hi : ops[i]? = some o := by rfl) (hN : E.N = N := by assumption) (ho : o.op = .load tt x := by rfl) (hT : TVar P tt n row := by infer_instance) (hx : ev? ⟨t, H, nx⟩ x = some ax := by rfl) (hc : St.at_ ⟨t, H, nx⟩ ax = some cs := by rfl) (hl : loaded row n cs = some r := by rfl) (hn : Nat.blt 0 n = true := by rfl) (hg : wantedA ops ⟨t, H, nx⟩ o = some true := by rfl) (hd : o.dst = some d := by rfl) (hdN : Nat.blt d N = true := by rfl) : AU P E ops md Q (f + 1) listed ⟨t, H, nx⟩ :=
 au_all [i] hr rfl ⟨.inl (ao_py hi (d_py hN (q_load ho hx hc hl hn) hg rfl hd hdN h)), trivial⟩
theorem yD (h : Q .normal ⟨t, H, nx⟩) (hr : Region.ready md ops listed = [] := by kernel_rfl) : AU P E ops md Q 0 listed ⟨t, H, nx⟩ := au_done hr h
end
end Go.Proofs.YthldgioggjpnpaaGreat
