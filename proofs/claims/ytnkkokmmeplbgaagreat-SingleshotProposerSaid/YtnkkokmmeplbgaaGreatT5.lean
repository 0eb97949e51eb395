/-
  Calls of which only what they leave unturned is known (not t
-/
import Derived.Test.YtnkkokmmeplbgaaGreatA8
import Derived.Test.YtnkkokmmeplbgaaGreatA7
import Derived.Test.YtnkkokmmeplbgaaGreatA4
import Derived.Test.YtnkkokmmeplbgaaGreatA3
namespace Go.Proofs.YtnkkokmmeplbgaaGreat
open Go.RowKit
section
variable {c : Cx} {E : Jn} {a : Act} {st : St}
end
section
variable {P : Program} {E : Jn} {Q : Exit → St → Prop} {ops : Array Oper} {o : Oper} {rest : List Oper} {t : List (Nat × AV)} {H : List (Nat × Qx)} {nx N d : Nat} {w : Bool}
end
theorem QgJ (zs : List AV) : ∀ (n i : Nat), i < n * zs.length → (List.replicate n zs).flatten[i]? = zs[i % zs.length]?
 | 0, i, h => by omega
 | n + 1, i, h => by
  rw [List.replicate_succ, List.flatten_cons]
  rcases Nat.lt_or_ge i zs.length with h1 | h1
  ·rw [List.getElem?_append_left h1, Nat.mod_eq_of_lt h1]
  rw [List.getElem?_append_right h1, QgJ zs n (i - zs.length) (by rw [Nat.add_mul, Nat.one_mul] at h; omega), ← Nat.mod_eq_sub_mod h1]
section
variable {P : Program} {E : Jn} {Q : Exit → St → Prop} {ops : Array Oper} {o : Oper} {rest : List Oper} {t : List (Nat × AV)} {H : List (Nat × Qx)} {nx N d : Nat} {w : Bool}
theorem Ql4 (hN : E.N = N) (hB : Nat.blt nx QB = true) {tt e : TypeId} {k : Nat} [hT : JJ P tt e k] {zs : List Value} [hZ : Q7 P e zs] (hzk : zs.length = k) {y : Nat} (hby : (P.info? e).map (·.bytes) = some y) (hy : Nat.ble y 1000 = true) {lx cx : Operand} (ho : o.op = .makeSlice tt lx cx) {n : Nat} (hl : Jh ⟨t, H, nx⟩ lx = some (.p (.int .i64 (n : Int)))) (hc : Jh ⟨t, H, nx⟩ cx = some (.p (.int .i64 (n : Int)))) (hn : n ≤ 1000000)
  (hg : Qp ops ⟨t, H, nx⟩ o = some w) (hw : w = true) (hd : o.dst = some d) (hdN : Nat.blt d N = true)
  (h : Qj P E ops rest Q ⟨(d, .own nx n) :: t, (nx, .arr e k (List.replicate n (zs.map .p))) :: H, nx + 1⟩) : Qj P E ops (o :: rest) Q ⟨t, H, nx⟩ := by
 subst hw hzk
 refine QaN (.own nx n) ⟨t, (nx, .arr e zs.length (List.replicate n (zs.map .p))) :: H, nx + 1⟩ hg (dlt hN hd hdN) (fun c a hr => ?_) (by rw [hd]; exact h)
 have hy := Nat.le_of_ble_eq_true hy
 have hvl := hr.ev lx
 rw [Q6 hl] at hvl
 have hvl := hvl.p_inv
 have hvc := hr.ev cx
 rw [Q6 hc] at hvc
 have hvc := hvc.p_inv
 obtain ⟨i, hi, hsz⟩ := Jt hT.size
 have hzz := hZ.h
 rw [hi] at hzz
 rw [hi] at hby
 have hby : i.bytes = y := by simpa using hby
 cases hz0 : i.zero with
 | none => simp [hz0] at hzz
 | some z =>
  have hzc : z.cells.toList = zs := by simpa [hz0] using hzz
  have hzs : z.cells.size = zs.length := by rw [← hzc]; simp
  have hmul : (i.bytes : Int) * (n : Int) ≤ 1000 * 1000000 := by
   rw [hby]
   have h1 : y * n ≤ 1000 * 1000000 := Nat.mul_le_mul hy hn
   have h2 : ((y * n : Nat) : Int) = (y : Int) * (n : Int) := Int.natCast_mul y n
   omega
  have hmk := run_make (P := P) c.w tt e i z (Xk hT.h) hi hz0 .i64 .i64 (n : Int) (n : Int) (by omega) (Int.le_refl _) (by omega) (by omega)
  obtain ⟨xs, hxs⟩ : ∃ xs, xs = madeCells z.cells (n * zs.length) := ⟨_, rfl⟩
  have hxl : xs.size = n * zs.length := by rw [hxs]; simp [madeCells]
  have hxv : ∀ (j : Nat) (u : Value), xs[j]? = some u → zs[j % zs.length]? = some u := fun j u hj => by
   obtain ⟨hjl, hju⟩ := Array.getElem?_eq_some_iff.1 hj
   have hpos : 0 < zs.length := by
    rcases Nat.eq_zero_or_pos zs.length with h0 | h0
    ·rw [hxl, h0] at hjl; omega
    exact h0
   have hm : j % zs.length < z.cells.size := by rw [hzs]; exact Nat.mod_lt _ hpos
   subst hxs
   have e1 : (madeCells z.cells (n * zs.length))[j] = z.cells[j % z.cells.size]! := by simp [madeCells]
   have hm2 : j % z.cells.size < z.cells.size := by rw [hzs]; exact Nat.mod_lt _ hpos
   rw [← hju, e1, getElem!_pos z.cells _ hm2]
   rw [← hzc, Array.length_toList, Array.getElem?_toList, Array.getElem?_eq_getElem hm2]
  have hrun : (execOp a.eval o).run P c.w = .ok (.value (.slice (some ⟨c.w.heap.size, 0, none⟩) n n)) (c.w.alloc (.cells xs e)) := by
   simp only [Int.toNat_natCast, hsz, ← hxs] at hmk
   simp [execOp, ho, hvl, hvc, hmk]
  have hown : (c.w.alloc (.cells xs e)).ownsRow 0 e zs.length (.slice (some ⟨c.w.heap.size, 0, none⟩) n n) n xs.toList :=
   ⟨by simp [hxl], .inr ⟨c.w.heap.size, n, _, rfl, Nat.zero_le _, WV _ _ _, Nat.le_refl _, by unfold maxLen; omega, hxl, List.take_of_length_le (by simp [hxl])⟩⟩
  obtain ⟨c', e1, e2, hle, e4, e5, hr'⟩ := hr.new (Nat.le_of_ble_eq_true hB) (KS c.w (.cells xs e)) (.slice (some ⟨c.w.heap.size, 0, none⟩) n n) (.arr e zs.length (List.replicate n (zs.map .p)))
   (fun c' e1 e2 hle => .arr _ e zs.length _ xs.toList (by rw [e1, List.length_replicate]; exact hown) (fun e he => by rw [List.eq_of_mem_replicate he, List.length_map]) (fun j u y hj hy => by
    have hj' : xs[j]? = some u := by simpa using hj
    have hlt : j < n * (zs.map AV.p).length := by
     have := (Array.getElem?_eq_some_iff.1 hj').1
     rw [List.length_map, ← hxl]; exact this
    rw [QgJ _ _ _ hlt, List.length_map, List.getElem?_map, hxv j u hj'] at hy
    cases hy
    exact .fr _ _ (.p _)) (fun b hb off hs => by
    rw [e2] at hs
    have : c.w.heap.size = b := by simpa [Xi] using hb
    subst this
    exact Nat.lt_irrefl _ (hr.Ssz _ _ hs))) (fun b hb => by
    have : c.w.heap.size = b := by simpa [Xi] using hb
    omega)
  refine ⟨_, c', by rw [e1]; exact hrun, hr', .own _ _ _ e4 (fun A n' cap hh => ?_)⟩
  rw [show c'.V nx = some _ from e5] at hh
  cases hh
  exact ⟨Nat.le_refl _, fun _ => rfl⟩
end
section
variable {P : Program} {E : Jn} {ops : Array Oper} {md : Region.Mode}
def AU (P : Program) (E : Jn) (ops : Array Oper) (md : Region.Mode) (Q : Exit → St → Prop) : Nat → Array Bool → St → Prop
 | 0, listed, s => Region.ready md ops listed = [] ∧ Q .normal s
 | f + 1, listed, s => (∃ i oi x, ops[i]? = some oi ∧ (Region.ready md ops listed).contains i = true ∧ Region.free md ops listed i = true ∧ WI P E ops oi x s ∧ AU P E ops md Q f (listed.setIfInBounds i true) (s.put oi.dst x)) ∨
  ((Region.ready md ops listed = [] → Q .normal s) ∧ ∀ i ∈ Region.ready md ops listed, aOp P E ops i (AU P E ops md Q f (listed.setIfInBounds i true)) s ∨ aSt P E ops i (AU P E ops md Q f (listed.setIfInBounds i true)) s ∨ aNw P E ops i (AU P E ops md Q f (listed.setIfInBounds i true)) s)
def Qss (P : Program) (E : Jn) (ops : Array Oper) (md : Region.Mode) (Q : Exit → St → Prop) (f : Nat) (listed : Array Bool) (s : St) : List Nat → Prop
 | [] => True
 | i :: r => (aOp P E ops i (AU P E ops md Q f (listed.setIfInBounds i true)) s ∨ aSt P E ops i (AU P E ops md Q f (listed.setIfInBounds i true)) s ∨ aNw P E ops i (AU P E ops md Q f (listed.setIfInBounds i true)) s) ∧ Qss P E ops md Q f listed s r
theorem Ww {Q : Exit → St → Prop} {f : Nat} {listed : Array Bool} {s : St} (rs : List Nat) (hr : Region.ready md ops listed = rs) (hne : rs.isEmpty = false) (h : Qss P E ops md Q f listed s rs) : AU P E ops md Q (f + 1) listed s := by
 have key : ∀ (rs : List Nat), Qss P E ops md Q f listed s rs → ∀ i ∈ rs, aOp P E ops i (AU P E ops md Q f (listed.setIfInBounds i true)) s ∨ aSt P E ops i (AU P E ops md Q f (listed.setIfInBounds i true)) s ∨ aNw P E ops i (AU P E ops md Q f (listed.setIfInBounds i true)) s := by
  intro rs
  induction rs with
  | nil => intro _ i hi; cases hi
  | cons j r ih =>
   rintro ⟨h1, h2⟩ i hi
   rcases List.mem_cons.1 hi with rfl | hi
   ·exact h1
   exact ih h2 i hi
 refine .inr ⟨fun h0 => ?_, fun i hi => key rs h i (hr ▸ hi)⟩
 rw [h0] at hr; subst hr; cases hne
theorem QqT {Q : Exit → St → Prop} {listed : Array Bool} {s : St} (hr : Region.ready md ops listed = []) (h : Q .normal s) : AU P E ops md Q 0 listed s := ⟨hr, h⟩
variable {o : Oper} {t : List (Nat × AV)} {H : List (Nat × Qx)} {nx N d : Nat} {w : Bool} {T : St → Prop} {i : Nat}
end
section
variable {P : Program} {E : Jn} {ops : Array Oper} {o : Oper} {t : List (Nat × AV)} {H : List (Nat × Qx)} {nx N d : Nat} {w : Bool} {T : St → Prop} {i : Nat}
variable {α : Type} {f : α → List AV} {l : List α} {n : Nat} {s : St}
end
def FCb (P : Program) (f : FuncId) (args : List AV) (res : AV) : Prop :=
 ∀ (w : World) (S : Nat → Nat → Prop) (vs : List Value), (∀ b o, S b o → b < w.heap.size) → FRs w S vs args →
  Calls P f vs.toArray w fun e w' => ∃ v S', e = .returned v ∧ Below w.heap.size w w' ∧ (∀ b o, S b o → S' b o) ∧
   (∀ b o, S' b o → S b o ∨ (w.heap.size ≤ b ∧ b < w'.heap.size)) ∧ FR w' S' v res
theorem FC.b {P : Program} {f : FuncId} {args : List AV} {res : AV} (h : FC P f args res) : FCb P f args res := fun w S vs hS hv =>
 (h w S vs hS hv).mono fun _ _ ⟨v, S', h1, h2, h3, h4, h5⟩ => ⟨v, S', h1, h2.toBelow, h3, h4, h5⟩
section
variable {c : Cx} {E : Jn} {a : Act} {st : St}
end
section
variable {P : Program} {E : Jn} {o : Oper} {st : St}
end
section
variable {P : Program} {E : Jn} {ops : Array Oper} {md : Region.Mode} {Q : Exit → St → Prop} {f : Nat} {listed : Array Bool} {o : Oper} {t : List (Nat × AV)} {H : List (Nat × Qx)} {nx N d : Nat} {w : Bool} {x : Operand} {r : AV}
theorem yD (h : Q .normal ⟨t, H, nx⟩) (hr : Region.ready md ops listed = [] := by kernel_rfl) : AU P E ops md Q 0 listed ⟨t, H, nx⟩ := QqT hr h
end
end Go.Proofs.YtnkkokmmeplbgaaGreat
