/-
  Contracts of the reference: clocks, descriptions.
-/
import Derived.Test.YtnkkokmmeplbgaaGreatC1
import Derived.Test.YtnkkokmmeplbgaaGreatB3
namespace Go.Proofs.YtnkkokmmeplbgaaGreat
set_option maxRecDepth 100000
set_option maxHeartbeats 1000000
open Go.RowKit
theorem QvI {P : Program} {E : Jp} {st : St} {o : Oper} {tt ty : TypeId} {x y : Operand} (ho : o.op = .binOp .neq tt x y ty) [hT : QnD P tt] {a1 a2 b1 b2 : Int} (hx : Jj st x = some (.agg [.p (.int .i64 a1), .p (.int .i64 a2)])) (hy : Jj st y = some (.agg [.p (.int .i64 b1), .p (.int .i64 b2)])) {b : Bool} (hb : (!(a1 == b1 && a2 == b2)) = b) : PY P E o st (.p (.bool b)) := by
 subst hb
 refine Y5 fun st' h1 h2 c a hr => ?_
 have hvx := hr.ev x
 rw [h1 x (by simp [ho, Op.operands]), Q5 hx] at hvx
 have hvy := hr.ev y
 rw [h1 y (by simp [ho, Op.operands]), Q5 hy] at hvy
 have two : ∀ {v : Value} {p q : Int}, VR c v (.agg [.p (.int .i64 p), .p (.int .i64 q)]) → v = .agg #[.int .i64 p, .int .i64 q] := by
  intro v p q h
  have key : ∃ vs : List Value, v = .agg vs.toArray ∧ vs.length = 2 ∧ ∀ (i : Nat) (v : Value) (x : AV), vs[i]? = some v → [AV.p (.int .i64 p), .p (.int .i64 q)][i]? = some x → VR c v x := by
   cases h with
   | fr _ _ h => cases h with | agg vs _ hl h => exact ⟨vs, rfl, hl, fun i v x h1 h2 => .fr _ _ (h i v x h1 h2)⟩
   | agg vs _ hl h => exact ⟨vs, rfl, hl, h⟩
  obtain ⟨vs, rfl, hl, hp⟩ := key
  match vs, hl with
  | [v1, v2], _ => rw [(hp 0 v1 _ rfl rfl).p_inv, (hp 1 v2 _ rfl rfl).p_inv]
 refine ⟨_, ?_, .fr _ _ (.p _)⟩;rw [execOp, ho]
 simp only [two hvx, two hvy]
 have hg := run_eqGuard_agg (P := P) c.w .neq tt x y #[.int .i64 a1, .int .i64 a2] #[.int .i64 b1, .int .i64 b2] hT.hm
 have hfs := hT.f
 generalize hfl : (P.fieldsOf tt).toList = fs at hfs
 obtain ⟨f1, f2, rfl⟩ : ∃ f1 f2, fs = [f1, f2] := by
  have h2 : fs.length = 2 := by simpa using congrArg List.length hfs
  match fs, h2 with
  | [f1, f2], _ => exact ⟨f1, f2, rfl⟩
 simp only [List.map_cons, List.map_nil, List.cons.injEq, Prod.mk.injEq, and_true] at hfs
 obtain ⟨⟨n1, i1, o1⟩, n2, i2, o2⟩ := hfs
 have m1 : f1.name ≠ "_" := by simpa using n1
 have m2 : f2.name ≠ "_" := by simpa using n2
 have p1 := fun w => Wy (P := P) i1 (cs := #[.int .i64 a1, .int .i64 a2]) (v := .int .i64 a1) (by rw [o1]; rfl) w
 have p2 := fun w => Wy (P := P) i2 (cs := #[.int .i64 a1, .int .i64 a2]) (v := .int .i64 a2) (by rw [o2]; rfl) w
 have r1 := fun w => Wy (P := P) i1 (cs := #[.int .i64 b1, .int .i64 b2]) (v := .int .i64 b1) (by rw [o1]; rfl) w
 have r2 := fun w => Wy (P := P) i2 (cs := #[.int .i64 b1, .int .i64 b2]) (v := .int .i64 b2) (by rw [o2]; rfl) w
 have he := run_neq_struct (P := P) c.w tt #[.int .i64 a1, .int .i64 a2] #[.int .i64 b1, .int .i64 b2]
 rw [run_equalIn_agg _ _ _ _ _ hT.u hT.hp, hfl] at he
 have e1 := fun w => run_equalIn_int (P := P) w 9998 f1.type .i64 .i64 a1 b1 (Wk i1)
 have e2 := fun w => run_equalIn_int (P := P) w 9998 f2.type .i64 .i64 a2 b2 (Wk i2)
 cases hc1 : (a1 == b1) <;> cases hc2 : (a2 == b2) <;>
  simp [Op.eqFields, m1, m2, p1, p2, r1, r2, e1, e2, hc1, hc2] at he <;> simp [hg, he]
instance tpairTick : QnD Tryz.prog 192 := ⟨by kernel_rfl, by kernel_rfl, by kernel_rfl, by kernel_rfl⟩
theorem QnM (l : List Int) : ∀ e ∈ l.map iv1, fzs e = some e := fun e he => by
 obtain ⟨x, -, rfl⟩ := List.mem_map.1 he
 rfl
def Qe6 (l : List Tk) (k : Nat) : Int := match k with
 | 0 => -1
 | k + 1 => match l[k]? with
  | some y => y.1
  | none => -1
theorem Wj {l : List Tk} {k : Nat} {x : Tk} (h : l[k]? = some x) : Qe6 l (k + 1) = x.1 := by
 show (match l[k]? with | some y => y.1 | none => -1) = x.1
 rw [h]
theorem Qmu {last : Int} {t : Tk} (hl : -1 ≤ last) : Qdd last t = (!(decide (t.1 < 0) || decide (t.1 > 63) || decide (t.2 < 1) || decide (t.2 > 1000000000000000)) && !(decide (0 ≤ last) && decide (t.1 ≤ last))) := by
 unfold Qdd
 by_cases h1 : t.1 ≤ last <;> by_cases h2 : t.1 < 0 <;> by_cases h3 : 0 ≤ last <;> simp [h1, h2, h3] <;> omega
def QhR (c : List Tk) : List Int := (List.range 64).map fun (p : Nat) => QgH c ((p : Nat) : Int)
theorem QeI {c : List Tk} : (QhR c).length = 64 := by simp [QhR]
theorem Qgm {c : List Tk} {k : Nat} (h : k < 64) : (QhR c)[k]? = some (QgH c (k : Int)) := by unfold QhR; rw [List.getElem?_map, List.getElem?_range h]; rfl
def Qom (a b : List Tk) : Bool := (List.range 64).all fun (p : Nat) => decide (QgH a ((p : Nat) : Int) ≤ QgH b ((p : Nat) : Int))
def K5 (a b : List Tk) : Bool := QV (-1) a && QV (-1) b && Qom a b && !Qom b a
theorem QrH {k : Nat} (h : k < 64) : (List.range 64)[k]? = some k := List.getElem?_range h
theorem Qs7 {a b : List Tk} {k : Nat} (h : ∀ i, i < k → a[i]? = b[i]?) (hl : a.length = b.length) (hk : a.length ≤ k) : a = b := by
 apply List.ext_getElem?
 intro i
 by_cases hi : i < k
 ·exact h i hi
 rw [List.getElem?_eq_none (by omega), List.getElem?_eq_none (by omega)]
theorem Qv1 {x y : Tk} (h : (!(x.1 == y.1 && x.2 == y.2)) = false) : x = y := by
 simp only [Bool.not_eq_false', Bool.and_eq_true, beq_iff_eq] at h
 exact Prod.ext h.1 h.2
theorem Qwe {x y : Tk} (h : (!(x.1 == y.1 && x.2 == y.2)) = true) : x ≠ y := fun e => by subst e; simp at h
theorem Qcl (l : List Tk) : FC Tryz.prog 181 [tks l] (bl (QV (-1) l)) := by
 refine Qh [2] Tryz.func181 rfl rfl 56 Tryz.ntmps181 (Nat.le_of_ble_eq_true rfl) ?_
 intro E hN;refine Jq 0 rfl (fun hl0 => ?_);refine Xs ?_;refine Qm (fun x : {k : Nat // k ≤ l.length ∧ QV (Qe6 l k) (l.drop k) = QV (-1) l ∧ -1 ≤ Qe6 l k ∧ (0 < k → 0 ≤ Qe6 l k)} => ⟨[(0, tks l), (3, i64 (x.1 : Nat))], [], 0⟩) (fun x => l.length - x.1) (⟨0, Nat.zero_le _, rfl, Int.le_refl _, fun h => absurd h (Nat.lt_irrefl 0)⟩) ?_ ?_
 ·exact Qa rfl (Yf trivial) trivial
 rintro ⟨k, hk, hg, hl1, hl2⟩;dsimp only;refine Xo ?_
 refine zq ?_ ?_ <;> intro h5
 rotate_left
 ·have hge : (l).length ≤ k := by simpa using h5
  refine QC ?_;refine zQ ?_;exact Qo (by rw [← hg, List.drop_of_length_le hge]; rfl)
 have hlt : k < (l).length := by simpa using h5
 obtain ⟨x, hx⟩ := Qq hlt
 have hs := Qnj hg hx
 have hsp := Qmu (t := x) hl1
 refine Xo ?_;refine zP (Qf rfl rfl rfl k rfl _ (Qi hx) rfl) ?_;refine QC ?_
 refine zc 16 ?_ ?_ <;> intro h9
 ·refine QaZ ?_;refine QC ?_;refine zQ ?_;exact Qo (by rw [hs, hsp]; simp_all)
 refine QH ?_;refine uP (X0 h9) (Qf rfl rfl rfl k rfl _ (Qi hx) rfl) ?_;refine Qy ?_
 refine zc 24 ?_ ?_ <;> intro h13
 ·refine Qdb ?_;refine zQ ?_;exact Qo (by rw [hs, hsp]; simp_all)
 refine QH ?_;refine uP (X0 h13) (Qf rfl rfl rfl k rfl _ (Qi hx) rfl) ?_;refine Qy ?_
 refine zc 32 ?_ ?_ <;> intro h17
 ·refine Jx ?_;refine zQ ?_;exact Qo (by rw [hs, hsp]; simp_all)
 refine QH ?_;refine uP (X0 h17) (Qf rfl rfl rfl k rfl _ (Qi hx) rfl) ?_;refine Qy ?_
 refine zq ?_ ?_ <;> intro h21
 ·refine QD ?_;refine zQ ?_;exact Qo (by rw [hs, hsp]; simp_all)
 have h4 : x.1 ≥ 0 ∧ x.1 ≤ 63 ∧ x.2 ≥ 1 ∧ x.2 ≤ 1000000000000000 := by simp at *; omega
 have h0 : 0 ≤ x.1 := h4.1
 refine QH ?_;refine zD 15 ?_;refine QD ?_
 refine zd 42 ?_ ?_ <;> intro h22
 rotate_left
 ·have hk0 : k = 0 := by have := of_decide_eq_false h22; omega
  have hlz : Qe6 l k = -1 := by rw [hk0]; rfl
  have hok : Qdd (Qe6 l k) x = true := by
   rw [hlz] at hsp;rw [hlz, hsp]
   simp
   omega
  refine Qdb ?_;refine Qb ?_;exact ⟨⟨k + 1, hlt, by rw [hs, hok, Wj hx]; rfl, by rw [Wj hx]; omega, fun _ => by rw [Wj hx]; exact h0⟩, Qa rfl (XE ⟨X5, rfl, trivial⟩) trivial, by dsimp only; omega⟩
 have hk0 : 0 < k := by have := of_decide_eq_true h22; omega
 obtain ⟨y, hy⟩ := Qq (show k - 1 < l.length by omega)
 have hlast : Qe6 l k = y.1 := by
  have e : k = k - 1 + 1 := by omega
  rw [e, Wj hy]
 have hl3 : 0 ≤ y.1 := by rw [← hlast]; exact hl2 hk0
 refine QH ?_;refine vP (XO h22) (Qf rfl rfl rfl k rfl _ (Qi hx) rfl) ?_;refine QC ?_;refine vP (XO h22) (Kb rfl rfl rfl (by omega)) ?_;refine vP (XO h22) (Qf rfl rfl rfl (k - 1) (by omega) _ (Qi hy) rfl) ?_;refine Qy ?_
 refine zq ?_ ?_ <;> intro h30
 ·have hno : Qdd (Qe6 l k) x = false := by
   rw [hlast] at hsp; rw [hlast, hsp]
   have := of_decide_eq_true h30
   simp [hl3, this]
  refine QD ?_;refine zQ ?_;exact Qo (by rw [hs, hno]; rfl)
 have hok : Qdd (Qe6 l k) x = true := by
  rw [hlast] at hsp; rw [hlast, hsp]
  have := of_decide_eq_false h30
  simp [this]
  omega
 refine Qy ?_;refine Qb ?_;exact ⟨⟨k + 1, hlt, by rw [hs, hok, Wj hx]; rfl, by rw [Wj hx]; omega, fun _ => by rw [Wj hx]; exact h0⟩, Qa rfl (XE ⟨X5, rfl, trivial⟩) trivial, by dsimp only; omega⟩
theorem QqG (l : List Tk) (q : Int) : FC Tryz.prog 238 [tks l, i64 q] (i64 (QgH l q)) := by
 refine Qh [4] Tryz.func238 rfl rfl 27 Tryz.ntmps238 (Nat.le_of_ble_eq_true rfl) ?_
 intro E hN;refine Jq 0 rfl (fun hl0 => ?_);refine Xo ?_;refine zP (Qd (Qcl l) rfl rfl rfl) ?_;refine QH ?_
 refine zq ?_ ?_ <;> intro h3
 ·have h1 := h3
  refine QD ?_;refine zQ ?_;exact QZ (by simp_all [QgH])
 have h1 := h3
 refine Xg ?_;refine Qm (fun x : {k : Nat // k ≤ (l).length ∧ QdH (l.drop k) q = QdH l q} => ⟨[(0, tks l), (1, i64 q), (5, i64 (x.1 : Nat))], [], 0⟩) (fun x => (l).length - x.1) (⟨0, Nat.zero_le _, by simp⟩) ?_ ?_
 ·exact Qa rfl (JZ trivial) trivial
 rintro ⟨k, hk, hg⟩;dsimp only;refine Xo ?_
 refine zq ?_ ?_ <;> intro h8
 rotate_left
 ·have hge : (l).length ≤ k := by simpa using h8
  refine QC ?_;refine zQ ?_;exact QZ (by rw [QgH, if_pos (by simpa using h1), ← hg, List.drop_of_length_le hge]; rfl)
 have hlt : k < (l).length := by simpa using h8
 obtain ⟨x, hx⟩ := Qq hlt;refine Xg ?_;refine zP (Qf rfl rfl rfl k rfl _ (Qi hx) rfl) ?_;refine Qy ?_
 refine zq ?_ ?_ <;> intro h12
 ·have h6 := h12
  refine QC ?_;refine zP (Qf rfl rfl rfl k rfl _ (Qi hx) rfl) ?_;refine QD ?_;refine zQ ?_;exact QZ (by rw [QgH, if_pos (by simpa using h1), ← hg, XC hx]; simp_all [QdH])
 have h6 := h12
 refine Qy ?_;refine Qb ?_;exact ⟨⟨k + 1, hlt, by rw [← hg, XC hx]; simp_all [QdH]⟩, Qa rfl (Yf ⟨X5, rfl, trivial⟩) trivial, by dsimp only; omega⟩
theorem Qne (c : List Tk) : FC Tryz.prog 227 [tks c] (ivs (QhR c)) := by
 refine Qh [2] Tryz.func227 rfl rfl 16 Tryz.ntmps227 (Nat.le_of_ble_eq_true rfl) ?_
 intro E hN;refine YI ?_;refine Qx (Wd rfl 3 2 1 rfl) ?_;refine Qm (fun x : {k : Nat // k ≤ 64} => ⟨[(0, tks c), (3, .own 0 ((QhR c).take x.1).length), (4, i64 (x.1 : Nat))], [(0, .arr 2 1 (((QhR c).take x.1).map iv1))], 1⟩) (fun x => 64 - x.1) (⟨0, by decide⟩) ?_ ?_
 ·exact Qa rfl (JZ trivial) ⟨rfl, rfl, (Q4 (fun _ => rfl) _), trivial⟩
 rintro ⟨k, hk⟩;dsimp only;refine Xk ?_
 refine zq ?_ ?_ <;> intro h5
 rotate_left
 ·have hge : 64 ≤ k := by have := of_decide_eq_false h5; omega
  rw [List.take_of_length_le (show (QhR c).length ≤ k by rw [QeI]; exact hge)];refine Xk ?_;refine Qx (Xl 2 0 rfl rfl (by simp) (QP (fun _ => rfl) _) (QnM _) rfl) ?_;refine zR ?_
  rfl
 have hlt : k < 64 := by have := of_decide_eq_true h5; omega
 refine Xg ?_;refine zP (Qd (QqG c (k : Int)) rfl rfl rfl) ?_;refine zP (QG rfl rfl rfl rfl (by exact rfl) (by decide) (by decide)) ?_;refine QS hN rfl rfl rfl (by simp) rfl rfl rfl (by simp [Qz, QeI]; omega) rfl rfl rfl rfl ?_;refine Xk ?_;refine Qb ?_;exact ⟨⟨k + 1, by omega⟩, Qa rfl (XE ⟨(cgO (by rw [List.take_add_one, Qgm hlt]; simp [Qz])), rfl, X5, rfl, trivial⟩) ⟨(cgA (by rw [List.take_add_one, Qgm hlt]; simp [Qz, iv1])), rfl, (Q4 (fun _ => rfl) _), trivial⟩, by dsimp only; omega⟩
theorem QlP (a b : List Tk) : FC Tryz.prog 211 [tks a, tks b] (bl (Qom a b)) := by
 refine Qh [4] Tryz.func211 rfl rfl 27 Tryz.ntmps211 (Nat.le_of_ble_eq_true rfl) ?_
 intro E hN;refine Xg ?_;refine zP (Qd (Qne a) rfl rfl rfl) ?_;refine zM ?_;refine zP (Qd (Qne b) rfl rfl rfl) ?_;refine X3 ?_;refine Qm (fun x : {k : Nat // k ≤ 64 ∧ ((List.range 64).drop k).all (fun (p : Nat) => decide (QgH a ((p : Nat) : Int) ≤ QgH b ((p : Nat) : Int))) = Qom a b} => ⟨[(5, ivs (QhR a)), (6, ivs (QhR b)), (7, i64 (x.1 : Nat))], [], 0⟩) (fun x => 64 - x.1) (⟨0, by decide, rfl⟩) ?_ ?_
 ·exact Qa rfl (JZ trivial) trivial
 rintro ⟨k, hk, hg⟩;dsimp only;refine Xo ?_
 refine zq ?_ ?_ <;> intro h9
 rotate_left
 ·have hge : 64 ≤ k := by have := of_decide_eq_false h9; simp [QeI] at this; omega
  refine QC ?_;refine zQ ?_;exact Qo (X4 hg (by simpa using hge)).symm
 have hlt : k < 64 := by have := of_decide_eq_true h9; simp [QeI] at this; omega
 refine QC ?_;refine zD 8 ?_;refine QH ?_;refine zp (Qf rfl rfl rfl k rfl _ (Qi (Qgm hlt)) rfl) ?_;refine QD ?_;refine zp (Qf rfl rfl rfl k rfl _ (Qi (Qgm hlt)) rfl) ?_;refine QD ?_
 refine zq ?_ ?_ <;> intro h14
 ·have h5 := h14
  refine QD ?_;refine zQ ?_;exact Qo (Q6 hg (QrH hlt) (by have := of_decide_eq_true h5; exact decide_eq_false (by omega))).symm
 have h5 := h14
 refine Qy ?_;refine Qb ?_;exact ⟨⟨k + 1, by omega, XG hg (QrH hlt) (by have := of_decide_eq_false h5; exact decide_eq_true (by omega))⟩, Qa rfl (Yf ⟨X5, rfl, trivial⟩) trivial, by dsimp only; omega⟩
theorem Qdq (a b : List Tk) : FC Tryz.prog 182 [tks a, tks b] (bl (K5 a b)) := by
 refine Qh [4] Tryz.func182 rfl rfl 22 Tryz.ntmps182 (Nat.le_of_ble_eq_true rfl) ?_
 intro E hN;refine Xg ?_;refine zP (Qd (Qcl a) rfl rfl rfl) ?_;refine zM ?_
 refine zc 7 ?_ ?_ <;> intro h3
 rotate_left
 ·refine QdK ?_;refine zQ ?_;exact Qo (by simp_all [K5])
 refine JB ?_;refine uP (XO h3) (Qd (Qcl b) rfl rfl rfl) ?_;refine QH ?_
 refine zc 11 ?_ ?_ <;> intro h4
 rotate_left
 ·refine Xn ?_;refine zQ ?_;exact Qo (by simp_all [K5])
 refine QH ?_;refine uP (XO h4) (Qd (QlP a b) rfl rfl rfl) ?_;refine QH ?_
 refine zc 16 ?_ ?_ <;> intro h5
 ·refine QH ?_;refine uP (XO h5) (Qd (QlP b a) rfl rfl rfl) ?_;refine QD ?_;refine zQ ?_;exact Qo (by simp_all [K5])
 refine Xk ?_;refine zQ ?_;exact Qo (by simp_all [K5])
theorem Qpp (a b : List Tk) : FC Tryz.prog 188 [tks a, tks b] (bl (decide (a = b))) := by
 refine Qh [4] Tryz.func188 rfl rfl 26 Tryz.ntmps188 (Nat.le_of_ble_eq_true rfl) ?_
 intro E hN;refine Jq 0 rfl (fun hl0 => ?_);refine WV ?_
 refine zq ?_ ?_ <;> intro h5
 ·have h1 : a.length ≠ b.length := by intro e; simp [e] at h5
  refine QD ?_;refine zQ ?_;exact Qo (decide_eq_false fun e => h1 (by rw [e])).symm
 have h1 : a.length = b.length := by have e := h5; simp at e; omega
 refine Xg ?_;refine Qm (fun x : {k : Nat // k ≤ (a).length ∧ ∀ i, i < k → a[i]? = b[i]?} => ⟨[(0, tks a), (1, tks b), (5, i64 (x.1 : Nat))], [], 0⟩) (fun x => (a).length - x.1) (⟨0, Nat.zero_le _, fun _ h => absurd h (Nat.not_lt_zero _)⟩) ?_ ?_
 ·exact Qa rfl (JZ trivial) trivial
 rintro ⟨k, hk, hg⟩;dsimp only;refine Xo ?_
 refine zq ?_ ?_ <;> intro h10
 rotate_left
 ·have hge : (a).length ≤ k := by simpa using h10
  refine QC ?_;refine zQ ?_;exact Qo (decide_eq_true (Qs7 hg h1 hge)).symm
 have hlt : k < (a).length := by simpa using h10
 obtain ⟨x, hx⟩ := Qq hlt;obtain ⟨y, hy⟩ := Qq (show k < b.length by omega);refine QC ?_;refine zD 8 ?_;refine QH ?_;refine zp (Qf rfl rfl rfl k rfl _ (Qi hx) rfl) ?_;refine QD ?_;refine zp (Qf rfl rfl rfl k rfl _ (Qi hy) rfl) ?_;refine zl ?_;refine zP (QvI rfl rfl rfl rfl) ?_;refine zN ?_
 refine zq ?_ ?_ <;> intro h15
 ·have h6 := h15
  refine QD ?_;refine zQ ?_;exact Qo (decide_eq_false fun e => Qwe h6 (by rw [e, hy] at hx; cases hx; rfl)).symm
 have h6 := h15
 refine Qy ?_;refine Qb ?_
 exact ⟨⟨k + 1, hlt, fun i hi => by
  by_cases e : i = k
  ·subst e; rw [hx, hy, Qv1 h6]
  exact hg i (by omega)⟩, Qa rfl (Yf ⟨X5, rfl, trivial⟩) trivial, by dsimp only; omega⟩
theorem Qik (s : Nm) : FC Tryz.prog 207 [sv s] (bl (XP s)) := by
 refine Qh [2] Tryz.func207 rfl rfl 56 Tryz.ntmps207 (Nat.le_of_ble_eq_true rfl) ?_
 intro E hN;refine Xn ?_
 refine zc 7 ?_ ?_ <;> intro h3
 ·have hv := Wx (s := s) (.inl (by have := of_decide_eq_true h3; omega))
  refine Qes ?_;refine zQ ?_;exact Qo hv.symm
 obtain ⟨c0, hc0, hh⟩ := QnZ (s := s) (by have := of_decide_eq_false h3; omega);refine Qy ?_
 refine zc 12 ?_ ?_ <;> intro h5
 ·have hv := Wx (s := s) (.inr (.inl (by have := of_decide_eq_true h5; omega)))
  refine YI ?_;refine zQ ?_;exact Qo hv.symm
 have h16 : s.length ≤ 16 := by have := of_decide_eq_false h5; omega
 refine JB ?_;refine uP (X0 h5) (Ku rfl rfl rfl 0 rfl _ hc0) ?_;refine QD ?_
 refine zc 17 ?_ ?_ <;> intro h7
 ·have hv := Wx (s := s) (.inr (.inr (by rw [hh]; have := of_decide_eq_true h7; rw [decide_eq_false (by omega)]; rfl)))
  refine X3 ?_;refine zQ ?_;exact Qo hv.symm
 have h97 : 97 ≤ (c0.toNat : Int) := by have := of_decide_eq_false h7; omega
 refine JB ?_;refine uP (X0 h7) (Ku rfl rfl rfl 0 rfl _ hc0) ?_;refine QD ?_
 refine zq ?_ ?_ <;> intro h9
 ·have hv := Wx (s := s) (.inr (.inr (by rw [hh]; have := of_decide_eq_true h9; rw [decide_eq_false (show ¬ (c0.toNat : Int) ≤ 122 by omega), Bool.and_false])))
  refine QD ?_;refine zQ ?_;exact Qo hv.symm
 have hv : XP s = s.all (fun c => X7 c.toNat) := by
  have := of_decide_eq_false h9
  rw [XP, hh, decide_eq_true h16, decide_eq_true h97, decide_eq_true (by omega)]; rfl
 refine Xg ?_;refine Qm (fun x : {k : Nat // k ≤ (s).length ∧ (s.drop k).all (fun c => X7 c.toNat) = s.all (fun c => X7 c.toNat)} => ⟨[(0, sv s), (3, i64 (x.1 : Nat))], [], 0⟩) (fun x => (s).length - x.1) (⟨0, Nat.zero_le _, by simp⟩) ?_ ?_
 ·exact Qa rfl (Yf trivial) trivial
 rintro ⟨k, hk, hg⟩;dsimp only;refine Xo ?_
 refine zq ?_ ?_ <;> intro h13
 rotate_left
 ·have hge : (s).length ≤ k := by simpa using h13
  refine QC ?_;refine zQ ?_;exact Qo (by rw [hv, X4 hg hge])
 have hlt : k < (s).length := by simpa using h13
 obtain ⟨x, hx⟩ := Qq hlt;refine Xg ?_;refine zP (Ku rfl rfl rfl k rfl _ hx) ?_;refine QH ?_
 refine zc 32 ?_ ?_ <;> intro h15
 ·refine Xo ?_;refine zP (Ku rfl rfl rfl k rfl _ hx) ?_;refine QH ?_
  refine zc 43 ?_ ?_ <;> intro h17
  ·refine X3 ?_;refine zP (Ku rfl rfl rfl k rfl _ hx) ?_;refine QD ?_
   refine zq ?_ ?_ <;> intro h19
   ·refine QD ?_;refine zQ ?_;exact Qo (by rw [hv, Q6 hg hx (by first | (simp_all; done) | (simp_all [X7]; done) | (simp_all [X7]; omega))])
   refine Qy ?_;refine Qb ?_;exact ⟨⟨k + 1, hlt, XG hg hx (by first | (simp_all; done) | (simp_all [X7]; done) | (simp_all [X7]; omega))⟩, Qa rfl (XE ⟨X5, rfl, trivial⟩) trivial, by dsimp only; omega⟩
  refine QH ?_;refine uP (X0 h17) (Ku rfl rfl rfl k rfl _ hx) ?_;refine QC ?_
  refine zc 50 ?_ ?_ <;> intro h22
  ·refine QH ?_;refine uP (XO h22) (Ku rfl rfl rfl k rfl _ hx) ?_;refine QD ?_
   refine zq ?_ ?_ <;> intro h24
   ·refine QD ?_;refine zQ ?_;exact Qo (by rw [hv, Q6 hg hx (by first | (simp_all; done) | (simp_all [X7]; done) | (simp_all [X7]; omega))])
   refine Qy ?_;refine Qb ?_;exact ⟨⟨k + 1, hlt, XG hg hx (by first | (simp_all; done) | (simp_all [X7]; done) | (simp_all [X7]; omega))⟩, Qa rfl (XE ⟨X5, rfl, trivial⟩) trivial, by dsimp only; omega⟩
  refine Jx ?_;refine Qb ?_;exact ⟨⟨k + 1, hlt, XG hg hx (by first | (simp_all; done) | (simp_all [X7]; done) | (simp_all [X7]; omega))⟩, Qa rfl (XE ⟨X5, rfl, trivial⟩) trivial, by dsimp only; omega⟩
 refine QH ?_;refine uP (X0 h15) (Ku rfl rfl rfl k rfl _ hx) ?_;refine QD ?_
 refine zc 38 ?_ ?_ <;> intro h28
 rotate_left
 ·refine QaZ ?_;refine Qb ?_;exact ⟨⟨k + 1, hlt, XG hg hx (by first | (simp_all; done) | (simp_all [X7]; done) | (simp_all [X7]; omega))⟩, Qa rfl (XE ⟨X5, rfl, trivial⟩) trivial, by dsimp only; omega⟩
 refine QH ?_;refine uP (XO h28) (Ku rfl rfl rfl k rfl _ hx) ?_;refine QH ?_
 refine zc 43 ?_ ?_ <;> intro h30
 ·refine QC ?_;refine uP (XO h28) (XF rfl rfl h30 rfl) ?_;refine QC ?_;refine zP (Ku rfl rfl rfl k rfl _ hx) ?_;refine QD ?_
  refine zq ?_ ?_ <;> intro h32
  ·refine QD ?_;refine zQ ?_;exact Qo (by rw [hv, Q6 hg hx (by first | (simp_all; done) | (simp_all [X7]; done) | (simp_all [X7]; omega))])
  refine Qy ?_;refine Qb ?_;exact ⟨⟨k + 1, hlt, XG hg hx (by first | (simp_all; done) | (simp_all [X7]; done) | (simp_all [X7]; omega))⟩, Qa rfl (XE ⟨X5, rfl, trivial⟩) trivial, by dsimp only; omega⟩
 refine QH ?_;refine uP (X0 h30) (Ku rfl rfl rfl k rfl _ hx) ?_;refine JB ?_;refine uP (XO h28) (Xx rfl rfl h30 rfl) ?_;refine QH ?_
 refine zc 50 ?_ ?_ <;> intro h35
 ·refine QH ?_;refine uP (XO h35) (Ku rfl rfl rfl k rfl _ hx) ?_;refine QD ?_
  refine zq ?_ ?_ <;> intro h37
  ·refine QD ?_;refine zQ ?_;exact Qo (by rw [hv, Q6 hg hx (by first | (simp_all; done) | (simp_all [X7]; done) | (simp_all [X7]; omega))])
  refine Qy ?_;refine Qb ?_;exact ⟨⟨k + 1, hlt, XG hg hx (by first | (simp_all; done) | (simp_all [X7]; done) | (simp_all [X7]; omega))⟩, Qa rfl (XE ⟨X5, rfl, trivial⟩) trivial, by dsimp only; omega⟩
 refine Jx ?_;refine Qb ?_;exact ⟨⟨k + 1, hlt, XG hg hx (by first | (simp_all; done) | (simp_all [X7]; done) | (simp_all [X7]; omega))⟩, Qa rfl (XE ⟨X5, rfl, trivial⟩) trivial, by dsimp only; omega⟩
theorem Qjs (l : List Nm) (s : Nm) : FC Tryz.prog 208 [XS l, sv s] (bl (X6 l s)) := by
 refine Qh [4] Tryz.func208 rfl rfl 18 Tryz.ntmps208 (Nat.le_of_ble_eq_true rfl) ?_
 intro E hN;refine Jq 0 rfl (fun hl0 => ?_);refine Xs ?_;refine Qm (fun x : {k : Nat // k ≤ (l).length ∧ (l.drop k).any (s == ·) = l.any (s == ·)} => ⟨[(0, XS l), (1, sv s), (5, i64 (x.1 : Nat))], [], 0⟩) (fun x => (l).length - x.1) (⟨0, Nat.zero_le _, by simp⟩) ?_ ?_
 ·exact Qa rfl (JZ trivial) trivial
 rintro ⟨k, hk, hg⟩;dsimp only;refine Xo ?_
 refine zq ?_ ?_ <;> intro h7
 rotate_left
 ·have hge : (l).length ≤ k := by simpa using h7
  refine QC ?_;refine zQ ?_;exact Qo (Qgd hg hge).symm
 have hlt : k < (l).length := by simpa using h7
 obtain ⟨x, hx⟩ := Qq hlt;refine Xg ?_;refine zP (Qf rfl rfl rfl k rfl _ (Qi hx) rfl) ?_;refine QC ?_
 refine zq ?_ ?_ <;> intro h10
 ·have hxs : x = s := by simpa using h10
  refine QD ?_;refine zQ ?_;exact Qo (Qgn hg hx (by rw [hxs]; simp)).symm
 have hxs : x ≠ s := by simpa using h10
 refine Qy ?_;refine Qb ?_;exact ⟨⟨k + 1, hlt, QjB hg hx (beq_eq_false_iff_ne.2 fun e => hxs e.symm)⟩, Qa rfl (Yf ⟨X5, rfl, trivial⟩) trivial, by dsimp only; omega⟩
theorem QoB {l : List Nm} {k : Nat} {x y : Nm} (hk : 0 < k) (hg : Qt (l.drop (k - 1)) = Qt l) (hy : l[k - 1]? = some y) (hx : l[k]? = some x) : Qt l = (Op.bytesLess y x && Qt (l.drop (k + 1 - 1))) := by
 rw [Qdu hk hg hy hx, Nat.add_sub_cancel]
def QcA (l : List Nm) : Bool := l.all XP && Qt l
theorem Qnq (l : List Nm) : FC Tryz.prog 209 [XS l] (bl (QcA l)) := by
 refine Qh [2] Tryz.func209 rfl rfl 32 Tryz.ntmps209 (Nat.le_of_ble_eq_true rfl) ?_
 intro E hN;refine Jq 0 rfl (fun hl0 => ?_);refine Xs ?_;refine Qm (fun x : {k : Nat // k ≤ l.length ∧ (l.drop k).all XP = l.all XP ∧ Qt (l.drop (k - 1)) = Qt l} => ⟨[(0, XS l), (3, i64 (x.1 : Nat))], [], 0⟩) (fun x => l.length - x.1) (⟨0, Nat.zero_le _, rfl, rfl⟩) ?_ ?_
 ·exact Qa rfl (Yf trivial) trivial
 rintro ⟨k, hk, hg, hg2⟩;dsimp only;refine Xo ?_
 refine zq ?_ ?_ <;> intro h5
 rotate_left
 ·have hge : (l).length ≤ k := by simpa using h5
  refine QC ?_;refine zQ ?_;exact Qo (by rw [QcA, X4 hg hge, Qeh hg2 hge]; rfl)
 have hlt : k < (l).length := by simpa using h5
 obtain ⟨x, hx⟩ := Qq hlt;refine QC ?_;refine zD 21 ?_;refine QH ?_;refine zp (Qf rfl rfl rfl k rfl _ (Qi hx) rfl) ?_;refine zl ?_;refine zp (Qd (Qik x) rfl rfl rfl) ?_;refine QH ?_
 refine zd 16 ?_ ?_ <;> intro h8
 ·have hno : QcA l = false := by rw [QcA, Q6 hg hx (n1 h8)]; rfl
  refine Qdb ?_;refine zQ ?_;exact Qo hno.symm
 have hv : XP x = true := n0 h8
 refine QD ?_
 refine zd 19 ?_ ?_ <;> intro h9
 rotate_left
 ·have hk0 : k = 0 := by have := of_decide_eq_false h9; omega
  have hnx : Qt (l.drop (k + 1 - 1)) = Qt l := by rw [hk0]; rfl
  refine Xs ?_;refine vP (X0 (m1 (n0 h8))) (Xx rfl rfl h9 rfl) ?_;refine Xo ?_;refine Qb ?_;exact ⟨⟨k + 1, hlt, XG hg hx hv, hnx⟩, Qa rfl (XE ⟨X5, rfl, trivial⟩) trivial, by dsimp only; omega⟩
 have hk0 : 0 < k := by have := of_decide_eq_true h9; omega
 obtain ⟨y, hy⟩ := Qq (show k - 1 < l.length by omega)
 have hrs := QoB hk0 hg2 hy hx
 refine QH ?_;refine vP (XO h9) (Kb rfl rfl rfl (by omega)) ?_;refine vP (XO h9) (Qf rfl rfl rfl (k - 1) (by omega) _ (Qi hy) rfl) ?_;refine QD ?_;refine vP (XO h9) (Qf rfl rfl rfl k rfl _ (Qi hx) rfl) ?_;refine QH ?_;refine vP (X0 (m1 (n0 h8))) (XF rfl rfl h9 rfl) ?_;refine QH ?_
 refine zq ?_ ?_ <;> intro h15
 ·have hno : QcA l = false := by rw [QcA, hrs]; simp_all
  refine QD ?_;refine zQ ?_;exact Qo hno.symm
 have hnx : Qt (l.drop (k + 1 - 1)) = Qt l := by rw [hrs]; simp_all
 refine Qy ?_;refine Qb ?_;exact ⟨⟨k + 1, hlt, XG hg hx hv, hnx⟩, Qa rfl (XE ⟨X5, rfl, trivial⟩) trivial, by dsimp only; omega⟩
theorem QoO (l : Qv) (ih : ∀ q ∈ l.ps, FC Tryz.prog 178 [.agg (Q2 q)] (bl (chainB q))) : FC Tryz.prog 178 [.agg (Q2 l)] (bl (chainB l)) := by
 refine Qh [2] Tryz.func178 rfl rfl 29 Tryz.ntmps178 (Nat.le_of_ble_eq_true rfl) ?_
 intro E hN;refine Jx ?_;refine JT (⟨[(1, .ptr 0 0), (4, i64 l.k), (5, bl (l.k == 1 || l.k == 2 || l.k == 3))], [(0, .var 26 (Q2 l))], 1⟩) ?_ ?_
 ·refine Qy ?_
  refine zq ?_ ?_ <;> intro h5
  ·refine QO ?_;exact Qa rfl (Yf ⟨(Kk (by simp_all)), rfl, trivial⟩) ⟨rfl, rfl, rfl, trivial⟩
  refine Qy ?_
  refine zq ?_ ?_ <;> intro h6
  ·refine QO ?_;exact Qa rfl (Yf ⟨(Kk (by simp_all)), rfl, trivial⟩) ⟨rfl, rfl, rfl, trivial⟩
  refine QD ?_;refine Qb ?_;exact Qa rfl (Yf ⟨(Kk (by simp_all)), rfl, trivial⟩) ⟨rfl, rfl, rfl, trivial⟩
 refine zq ?_ ?_ <;> intro h10
 ·have h123 := h10
  refine QD ?_;refine zQ ?_;exact Qo (Qeo h123).symm
 have h123 : (l.k == 1 || l.k == 2 || l.k == 3) = false := h10
 refine Qy ?_
 refine zq ?_ ?_ <;> intro h11
 rotate_left
 ·have h7 := h11
  refine QC ?_;refine zQ ?_
  exact Qo (by
   simp only [Bool.or_eq_false_iff] at h123
   exact (Yy h123.1.1 h123.1.2 h123.2 (.inl h7)).symm)
 have h7 := h11
 refine Xg ?_
 refine zc 15 ?_ ?_ <;> intro h15
 rotate_left
 ·have h72 : chainB l = false := by
   have e := h15
   simp only [Bool.or_eq_false_iff] at h123
   exact Yy h123.1.1 h123.1.2 h123.2 (.inr (by intro e2; simp [e2] at e))
  refine YI ?_;refine zQ ?_;exact Qo (by first | exact h72.symm | (rw [h72]; simp_all))
 obtain ⟨a, b, hps⟩ : ∃ a b, l.ps = [a, b] := by
  have h2 : l.ps.length = 2 := by have e := h15; simp at e; omega
  match l.ps, h2 with
  | [a, b], _ => exact ⟨a, b, rfl⟩
 have ha : l.ps[0]? = some a := by rw [hps]; rfl
 have hb : l.ps[1]? = some b := by rw [hps]; rfl
 have h72 := Qc7 h7 hps
 refine QH ?_;refine uP (XO h15) (Qf rfl rfl rfl 0 rfl _ (XK ha) rfl) ?_;refine JB ?_;refine uP (XO h15) (Qd (ih a (List.mem_of_getElem? ha)) rfl rfl rfl) ?_;refine QH ?_
 refine zc 22 ?_ ?_ <;> intro h20
 ·refine QH ?_;refine uP (XO h20) (Qf rfl rfl rfl 1 rfl _ (XK hb) rfl) ?_;refine JB ?_;refine uP (XO h20) (Qd (ih b (List.mem_of_getElem? hb)) rfl rfl rfl) ?_;refine QH ?_;refine zQ ?_;exact Qo (by first | exact h72.symm | (rw [h72]; simp_all))
 refine Xg ?_;refine zQ ?_;exact Qo (by first | exact h72.symm | (rw [h72]; simp_all))
theorem QdZ (l : Qv) : FC Tryz.prog 178 [.agg (Q2 l)] (bl (chainB l)) := QoO l (fun q hq => QdZ q)
termination_by l
decreasing_by exact Qv.sizeOf_ps ‹_›
end Go.Proofs.YtnkkokmmeplbgaaGreat
