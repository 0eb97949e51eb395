/-
  Contracts of the reference: clocks, descriptions.
-/
import Derived.Test.YtnkkokmmeplbgaaGreatC1
import Derived.Test.YtnkkokmmeplbgaaGreatB3
namespace Go.Proofs.YtnkkokmmeplbgaaGreat
set_option maxRecDepth 100000
set_option maxHeartbeats 1000000
open Go.RowKit
theorem QtD {P : Program} {E : Jn} {st : St} {o : Oper} {tt ty : TypeId} {x y : Operand} (ho : o.op = .binOp .neq tt x y ty) [hT : QmP P tt] {a1 a2 b1 b2 : Int} (hx : Jh st x = some (.agg [.p (.int .i64 a1), .p (.int .i64 a2)])) (hy : Jh st y = some (.agg [.p (.int .i64 b1), .p (.int .i64 b2)])) {b : Bool} (hb : (!(a1 == b1 && a2 == b2)) = b) : PY P E o st (.p (.bool b)) := by
 subst hb
 refine Kg fun st' h1 h2 c a hr => ?_
 have hvx := hr.ev x
 rw [h1 x (by simp [ho, Op.operands]), Q6 hx] at hvx
 have hvy := hr.ev y
 rw [h1 y (by simp [ho, Op.operands]), Q6 hy] at hvy
 have two : ∀ {v : Value} {p q : Int}, VR c v (.agg [.p (.int .i64 p), .p (.int .i64 q)]) → v = .agg #[.int .i64 p, .int .i64 q] := by
  intro v p q h
  have key : ∃ vs : List Value, v = .agg vs.toArray ∧ vs.length = 2 ∧ ∀ (i : Nat) (v : Value) (x : AV), vs[i]? = some v → [AV.p (.int .i64 p), .p (.int .i64 q)][i]? = some x → VR c v x := by
   cases h with
   | fr _ _ h => cases h with | agg vs _ hl h => exact ⟨vs, rfl, hl, fun i v x h1 h2 => .fr _ _ (h i v x h1 h2)⟩
   | agg vs _ hl h => exact ⟨vs, rfl, hl, h⟩
  obtain ⟨vs, rfl, hl, hp⟩ := key
  match vs, hl with
  | [v1, v2], _ => rw [(hp 0 v1 _ rfl rfl).p_inv, (hp 1 v2 _ rfl rfl).p_inv]
 refine ⟨_, ?_, .fr _ _ (.p _)⟩
 rw [execOp, ho]
 simp only [two hvx, two hvy]
 have hg := run_eqGuard_agg (P := P) c.w .neq tt x y #[.int .i64 a1, .int .i64 a2] #[.int .i64 b1, .int .i64 b2] hT.hm
 have hfs := hT.f
 generalize hfl : (P.fieldsOf tt).toList = fs at hfs
 obtain ⟨f1, f2, rfl⟩ : ∃ f1 f2, fs = [f1, f2] := by
  have h2 : fs.length = 2 := by simpa using congrArg List.length hfs
  match fs, h2 with
  | [f1, f2], _ => exact ⟨f1, f2, rfl⟩
 simp only [List.map_cons, List.map_nil, List.cons.injEq, Prod.mk.injEq, and_true] at hfs
 obtain ⟨⟨n1, i1, o1⟩, n2, i2, o2⟩ := hfs
 have m1 : f1.name ≠ "_" := by simpa using n1
 have m2 : f2.name ≠ "_" := by simpa using n2
 have p1 := fun w => KT (P := P) i1 (cs := #[.int .i64 a1, .int .i64 a2]) (v := .int .i64 a1) (by rw [o1]; rfl) w
 have p2 := fun w => KT (P := P) i2 (cs := #[.int .i64 a1, .int .i64 a2]) (v := .int .i64 a2) (by rw [o2]; rfl) w
 have r1 := fun w => KT (P := P) i1 (cs := #[.int .i64 b1, .int .i64 b2]) (v := .int .i64 b1) (by rw [o1]; rfl) w
 have r2 := fun w => KT (P := P) i2 (cs := #[.int .i64 b1, .int .i64 b2]) (v := .int .i64 b2) (by rw [o2]; rfl) w
 have he := run_neq_struct (P := P) c.w tt #[.int .i64 a1, .int .i64 a2] #[.int .i64 b1, .int .i64 b2]
 rw [run_equalIn_agg _ _ _ _ _ hT.u hT.hp, hfl] at he
 have e1 := fun w => run_equalIn_int (P := P) w 9998 f1.type .i64 .i64 a1 b1 (KL i1)
 have e2 := fun w => run_equalIn_int (P := P) w 9998 f2.type .i64 .i64 a2 b2 (KL i2)
 cases hc1 : (a1 == b1) <;> cases hc2 : (a2 == b2) <;>
  simp [Op.eqFields, m1, m2, p1, p2, r1, r2, e1, e2, hc1, hc2] at he <;> simp [hg, he]
instance tpairTick : QmP Tryz.prog 192 := ⟨by kernel_rfl, by kernel_rfl, by kernel_rfl, by kernel_rfl⟩
theorem Qmc (l : List Int) : ∀ e ∈ l.map iv1, fzs e = some e := fun e he => by
 obtain ⟨x, -, rfl⟩ := List.mem_map.1 he
 rfl
def Qec (l : List Tk) (k : Nat) : Int := match k with
 | 0 => -1
 | k + 1 => match l[k]? with
  | some y => y.1
  | none => -1
theorem KI {l : List Tk} {k : Nat} {x : Tk} (h : l[k]? = some x) : Qec l (k + 1) = x.1 := by
 show (match l[k]? with | some y => y.1 | none => -1) = x.1
 rw [h]
theorem Qlb {last : Int} {t : Tk} (hl : -1 ≤ last) : Qcv last t = (!(decide (t.1 < 0) || decide (t.1 > 63) || decide (t.2 < 1) || decide (t.2 > 1000000000000000)) && !(decide (0 ≤ last) && decide (t.1 ≤ last))) := by
 unfold Qcv
 by_cases h1 : t.1 ≤ last <;> by_cases h2 : t.1 < 0 <;> by_cases h3 : 0 ≤ last <;> simp [h1, h2, h3] <;> omega
def Qg8 (c : List Tk) : List Int := (List.range 64).map fun (p : Nat) => Qgm c ((p : Nat) : Int)
theorem Qd4 {c : List Tk} : (Qg8 c).length = 64 := by simp [Qg8]
theorem QfV {c : List Tk} {k : Nat} (h : k < 64) : (Qg8 c)[k]? = some (Qgm c (k : Int)) := by unfold Qg8; rw [List.getElem?_map, List.getElem?_range h]; rfl
def Qni (a b : List Tk) : Bool := (List.range 64).all fun (p : Nat) => decide (Qgm a ((p : Nat) : Int) ≤ Qgm b ((p : Nat) : Int))
def Kw (a b : List Tk) : Bool := QP (-1) a && QP (-1) b && Qni a b && !Qni b a
theorem Qpo {k : Nat} (h : k < 64) : (List.range 64)[k]? = some k := List.getElem?_range h
theorem Qrr {a b : List Tk} {k : Nat} (h : ∀ i, i < k → a[i]? = b[i]?) (hl : a.length = b.length) (hk : a.length ≤ k) : a = b := by
 apply List.ext_getElem?
 intro i
 by_cases hi : i < k
 ·exact h i hi
 rw [List.getElem?_eq_none (by omega), List.getElem?_eq_none (by omega)]
theorem Qts {x y : Tk} (h : (!(x.1 == y.1 && x.2 == y.2)) = false) : x = y := by
 simp only [Bool.not_eq_false', Bool.and_eq_true, beq_iff_eq] at h
 exact Prod.ext h.1 h.2
theorem QtA {x y : Tk} (h : (!(x.1 == y.1 && x.2 == y.2)) = true) : x ≠ y := fun e => by subst e; simp at h
theorem Qbx (l : List Tk) : FC Tryz.prog 181 [tks l] (bl (QP (-1) l)) := by
 refine Qg [2] Tryz.func181 rfl rfl 56 Tryz.ntmps181 (Nat.le_of_ble_eq_true rfl) ?_
 intro E hN
 refine Jj 0 rfl (fun hl0 => ?_)
 refine XB ?_
 refine Ql (fun x : {k : Nat // k ≤ l.length ∧ QP (Qec l k) (l.drop k) = QP (-1) l ∧ -1 ≤ Qec l k ∧ (0 < k → 0 ≤ Qec l k)} => ⟨[(0, tks l), (3, i64 (x.1 : Nat))], [], 0⟩) (fun x => l.length - x.1) (⟨0, Nat.zero_le _, rfl, Int.le_refl _, fun h => absurd h (Nat.lt_irrefl 0)⟩) ?_ ?_
 ·
  exact Qa rfl (JI trivial) trivial
 rintro ⟨k, hk, hg, hl1, hl2⟩
 dsimp only
 refine XN ?_
 refine zq ?_ ?_ <;> intro h5
 rotate_left
 ·
  have hge : (l).length ≤ k := by simpa using h5
  refine Qv ?_; refine zQ ?_
  exact Qm (by rw [← hg, List.drop_of_length_le hge]; rfl)
 have hlt : k < (l).length := by simpa using h5
 obtain ⟨x, hx⟩ := Qn hlt
 have hs := QmT hg hx
 have hsp := Qlb (t := x) hl1
 refine XN ?_; refine zP (Qf rfl rfl rfl k rfl _ (Qk hx) rfl) ?_; refine Qv ?_
 refine zc 16 ?_ ?_ <;> intro h9
 ·
  refine QaA ?_; refine Qv ?_; refine zQ ?_
  exact Qm (by rw [hs, hsp]; simp_all)
 refine Qu ?_; refine uP (Xj h9) (Qf rfl rfl rfl k rfl _ (Qk hx) rfl) ?_; refine QF ?_
 refine zc 24 ?_ ?_ <;> intro h13
 ·
  refine Qlr ?_; refine zQ ?_
  exact Qm (by rw [hs, hsp]; simp_all)
 refine Qu ?_; refine uP (Xj h13) (Qf rfl rfl rfl k rfl _ (Qk hx) rfl) ?_; refine QF ?_
 refine zc 32 ?_ ?_ <;> intro h17
 ·
  refine X6 ?_; refine zQ ?_
  exact Qm (by rw [hs, hsp]; simp_all)
 refine Qu ?_; refine uP (Xj h17) (Qf rfl rfl rfl k rfl _ (Qk hx) rfl) ?_; refine QF ?_
 refine zq ?_ ?_ <;> intro h21
 ·
  refine Qs ?_; refine zQ ?_
  exact Qm (by rw [hs, hsp]; simp_all)
 have h4 : x.1 ≥ 0 ∧ x.1 ≤ 63 ∧ x.2 ≥ 1 ∧ x.2 ≤ 1000000000000000 := by simp at *; omega
 have h0 : 0 ≤ x.1 := h4.1
 refine Qu ?_; refine Qd 15 (by kernel_rfl) (by kernel_rfl) ?_; refine Qs ?_
 refine zd 42 ?_ ?_ <;> intro h22
 rotate_left
 ·
  have hk0 : k = 0 := by have := of_decide_eq_false h22; omega
  have hlz : Qec l k = -1 := by rw [hk0]; rfl
  have hok : Qcv (Qec l k) x = true := by
   rw [hlz] at hsp
   rw [hlz, hsp]
   simp
   omega
  refine X6 ?_; change Qj _ _ _ _ _ _; refine XN ?_; refine Qb ?_
  exact ⟨⟨k + 1, hlt, by rw [hs, hok, KI hx]; rfl, by rw [KI hx]; omega, fun _ => by rw [KI hx]; exact h0⟩, Qa rfl (Xv ⟨(Q0 (by dsimp only; omega)), rfl, trivial⟩) trivial, by dsimp only; omega⟩
 have hk0 : 0 < k := by have := of_decide_eq_true h22; omega
 obtain ⟨y, hy⟩ := Qn (show k - 1 < l.length by omega)
 have hlast : Qec l k = y.1 := by
  have e : k = k - 1 + 1 := by omega
  rw [e, KI hy]
 have hl3 : 0 ≤ y.1 := by rw [← hlast]; exact hl2 hk0
 refine Qu ?_; refine vP (XG h22) (Qf rfl rfl rfl k rfl _ (Qk hx) rfl) ?_; refine Qv ?_
 refine vP (XG h22) (KM rfl rfl rfl (by omega)) ?_; refine vP (XG h22) (Qf rfl rfl rfl (k - 1) (by omega) _ (Qk hy) rfl) ?_
 refine Qs ?_; change Qj _ _ _ _ _ _; refine Qu ?_
 refine zq ?_ ?_ <;> intro h30
 ·
  have hno : Qcv (Qec l k) x = false := by
   rw [hlast] at hsp; rw [hlast, hsp]
   have := of_decide_eq_true h30
   simp [hl3, this]
  refine Qs ?_; refine zQ ?_
  exact Qm (by rw [hs, hno]; rfl)
 have hok : Qcv (Qec l k) x = true := by
  rw [hlast] at hsp; rw [hlast, hsp]
  have := of_decide_eq_false h30
  simp [this]
  omega
 refine QF ?_; refine Qb ?_
 exact ⟨⟨k + 1, hlt, by rw [hs, hok, KI hx]; rfl, by rw [KI hx]; omega, fun _ => by rw [KI hx]; exact h0⟩, Qa rfl (Xv ⟨(Q0 (by dsimp only; omega)), rfl, trivial⟩) trivial, by dsimp only; omega⟩
theorem Qom (l : List Tk) (q : Int) : FC Tryz.prog 238 [tks l, i64 q] (i64 (Qgm l q)) := by
 refine Qg [4] Tryz.func238 rfl rfl 27 Tryz.ntmps238 (Nat.le_of_ble_eq_true rfl) ?_
 intro E hN
 refine Jj 0 rfl (fun hl0 => ?_)
 refine XN ?_; refine zP (Qc (Qbx l) rfl rfl rfl) ?_; refine Qu ?_
 refine zq ?_ ?_ <;> intro h3
 ·
  have h1 := h3
  refine Qs ?_; refine zQ ?_
  exact QS (by simp_all [Qgm])
 have h1 := h3
 refine Q4 ?_
 refine Ql (fun x : {k : Nat // k ≤ (l).length ∧ Qc9 (l.drop k) q = Qc9 l q} => ⟨[(0, tks l), (1, i64 q), (5, i64 (x.1 : Nat))], [], 0⟩) (fun x => (l).length - x.1) (⟨0, Nat.zero_le _, by simp⟩) ?_ ?_
 ·
  exact Qa rfl (JO trivial) trivial
 rintro ⟨k, hk, hg⟩
 dsimp only
 refine XN ?_
 refine zq ?_ ?_ <;> intro h8
 rotate_left
 ·
  have hge : (l).length ≤ k := by simpa using h8
  refine Qv ?_; refine zQ ?_
  exact QS (by rw [Qgm, if_pos (by simpa using h1), ← hg, List.drop_of_length_le hge]; rfl)
 have hlt : k < (l).length := by simpa using h8
 obtain ⟨x, hx⟩ := Qn hlt
 refine Q4 ?_; refine zP (Qf rfl rfl rfl k rfl _ (Qk hx) rfl) ?_; refine QF ?_
 refine zq ?_ ?_ <;> intro h12
 ·
  have h6 := h12
  refine Qv ?_; refine zP (Qf rfl rfl rfl k rfl _ (Qk hx) rfl) ?_; refine Qs ?_; refine zQ ?_
  exact QS (by rw [Qgm, if_pos (by simpa using h1), ← hg, XA hx]; simp_all [Qc9])
 have h6 := h12
 refine QF ?_; refine Qb ?_
 exact ⟨⟨k + 1, hlt, by rw [← hg, XA hx]; simp_all [Qc9]⟩, Qa rfl (JI ⟨(Q0 (by dsimp only; omega)), rfl, trivial⟩) trivial, by dsimp only; omega⟩
theorem Qmg (c : List Tk) : FC Tryz.prog 227 [tks c] (ivs (Qg8 c)) := by
 refine Qg [2] Tryz.func227 rfl rfl 16 Tryz.ntmps227 (Nat.le_of_ble_eq_true rfl) ?_
 intro E hN
 refine Ki ?_; refine QI (WT rfl 3 2 1 rfl) ?_
 refine Ql (fun x : {k : Nat // k ≤ 64} => ⟨[(0, tks c), (3, .own 0 ((Qg8 c).take x.1).length), (4, i64 (x.1 : Nat))], [(0, .arr 2 1 (((Qg8 c).take x.1).map iv1))], 1⟩) (fun x => 64 - x.1) (⟨0, by decide⟩) ?_ ?_
 ·
  exact Qa rfl (JO trivial) ⟨rfl, rfl, (QT (fun _ => rfl) _), trivial⟩
 rintro ⟨k, hk⟩
 dsimp only
 refine Q8 ?_
 refine zq ?_ ?_ <;> intro h5
 rotate_left
 ·
  have hge : 64 ≤ k := by have := of_decide_eq_false h5; omega
  rw [List.take_of_length_le (show (Qg8 c).length ≤ k by rw [Qd4]; exact hge)]
  refine Q8 ?_; refine QI (Ju 2 0 rfl rfl (by simp) (QN (fun _ => rfl) _) (Qmc _) rfl) ?_; refine zR ?_
  rfl
 have hlt : k < 64 := by have := of_decide_eq_true h5; omega
 refine Q4 ?_; refine zP (Qc (Qom c (k : Int)) rfl rfl rfl) ?_
 refine zP (QE rfl rfl rfl rfl (by exact rfl) (by decide) (by decide)) ?_
 refine Xm hN rfl rfl rfl (by simp) rfl rfl rfl (by simp [QA, Qd4]; omega) rfl rfl rfl rfl ?_
 refine Q8 ?_; refine Qb ?_
 exact ⟨⟨k + 1, by omega⟩, Qa rfl (Xv ⟨(cgO (by rw [List.take_add_one, QfV hlt]; simp [QA])), rfl, (Q0 (by dsimp only; omega)), rfl, trivial⟩) ⟨(cgA (by rw [List.take_add_one, QfV hlt]; simp [QA, iv1])), rfl, (QT (fun _ => rfl) _), trivial⟩, by dsimp only; omega⟩
theorem QkF (a b : List Tk) : FC Tryz.prog 211 [tks a, tks b] (bl (Qni a b)) := by
 refine Qg [4] Tryz.func211 rfl rfl 27 Tryz.ntmps211 (Nat.le_of_ble_eq_true rfl) ?_
 intro E hN
 refine Q4 ?_; refine zP (Qc (Qmg a) rfl rfl rfl) ?_; refine zM ?_; refine zP (Qc (Qmg b) rfl rfl rfl) ?_; refine JA ?_
 refine Ql (fun x : {k : Nat // k ≤ 64 ∧ ((List.range 64).drop k).all (fun (p : Nat) => decide (Qgm a ((p : Nat) : Int) ≤ Qgm b ((p : Nat) : Int))) = Qni a b} => ⟨[(5, ivs (Qg8 a)), (6, ivs (Qg8 b)), (7, i64 (x.1 : Nat))], [], 0⟩) (fun x => 64 - x.1) (⟨0, by decide, rfl⟩) ?_ ?_
 ·
  exact Qa rfl (JO trivial) trivial
 rintro ⟨k, hk, hg⟩
 dsimp only
 refine XN ?_
 refine zq ?_ ?_ <;> intro h9
 rotate_left
 ·
  have hge : 64 ≤ k := by have := of_decide_eq_false h9; simp [Qd4] at this; omega
  refine Qv ?_; refine zQ ?_
  exact Qm (XU hg (by simpa using hge)).symm
 have hlt : k < 64 := by have := of_decide_eq_true h9; simp [Qd4] at this; omega
 refine Qv ?_; refine Qd 8 (by kernel_rfl) (by kernel_rfl) ?_; refine Qu ?_
 refine zp (Qf rfl rfl rfl k rfl _ (Qk (QfV hlt)) rfl) ?_; refine Qs ?_
 refine zp (Qf rfl rfl rfl k rfl _ (Qk (QfV hlt)) rfl) ?_; refine zl ?_; change Qj _ _ _ _ _ _; refine Qu ?_
 refine zq ?_ ?_ <;> intro h14
 ·
  have h5 := h14
  refine Qs ?_; refine zQ ?_
  exact Qm (Q3 hg (Qpo hlt) (by have := of_decide_eq_true h5; exact decide_eq_false (by omega))).symm
 have h5 := h14
 refine QF ?_; refine Qb ?_
 exact ⟨⟨k + 1, by omega, Xx hg (Qpo hlt) (by have := of_decide_eq_false h5; exact decide_eq_true (by omega))⟩, Qa rfl (JI ⟨(Q0 (by dsimp only; omega)), rfl, trivial⟩) trivial, by dsimp only; omega⟩
theorem Qc7 (a b : List Tk) : FC Tryz.prog 182 [tks a, tks b] (bl (Kw a b)) := by
 refine Qg [4] Tryz.func182 rfl rfl 22 Tryz.ntmps182 (Nat.le_of_ble_eq_true rfl) ?_
 intro E hN
 refine Q4 ?_; refine zP (Qc (Qbx a) rfl rfl rfl) ?_; refine zM ?_
 refine zc 7 ?_ ?_ <;> intro h3
 rotate_left
 ·
  refine QdD ?_; refine zQ ?_
  exact Qm (by simp_all [Kw])
 refine Jk ?_; refine uP (XG h3) (Qc (Qbx b) rfl rfl rfl) ?_; refine Qu ?_
 refine zc 11 ?_ ?_ <;> intro h4
 rotate_left
 ·
  refine Jv ?_; refine zQ ?_
  exact Qm (by simp_all [Kw])
 refine Qu ?_; refine uP (XG h4) (Qc (QkF a b) rfl rfl rfl) ?_; refine Qu ?_
 refine zc 16 ?_ ?_ <;> intro h5
 ·
  refine Qu ?_; refine uP (XG h5) (Qc (QkF b a) rfl rfl rfl) ?_; refine Qs ?_; refine zQ ?_
  exact Qm (by simp_all [Kw])
 refine Q8 ?_; refine zQ ?_
 exact Qm (by simp_all [Kw])
theorem QnR (a b : List Tk) : FC Tryz.prog 188 [tks a, tks b] (bl (decide (a = b))) := by
 refine Qg [4] Tryz.func188 rfl rfl 26 Tryz.ntmps188 (Nat.le_of_ble_eq_true rfl) ?_
 intro E hN
 refine Jj 0 rfl (fun hl0 => ?_)
 refine YR ?_
 refine zq ?_ ?_ <;> intro h5
 ·
  have h1 : a.length ≠ b.length := by intro e; simp [e] at h5
  refine Qs ?_; refine zQ ?_
  exact Qm (decide_eq_false fun e => h1 (by rw [e])).symm
 have h1 : a.length = b.length := by have e := h5; simp at e; omega
 refine Q4 ?_
 refine Ql (fun x : {k : Nat // k ≤ (a).length ∧ ∀ i, i < k → a[i]? = b[i]?} => ⟨[(0, tks a), (1, tks b), (5, i64 (x.1 : Nat))], [], 0⟩) (fun x => (a).length - x.1) (⟨0, Nat.zero_le _, fun _ h => absurd h (Nat.not_lt_zero _)⟩) ?_ ?_
 ·
  exact Qa rfl (JO trivial) trivial
 rintro ⟨k, hk, hg⟩
 dsimp only
 refine XN ?_
 refine zq ?_ ?_ <;> intro h10
 rotate_left
 ·
  have hge : (a).length ≤ k := by simpa using h10
  refine Qv ?_; refine zQ ?_
  exact Qm (decide_eq_true (Qrr hg h1 hge)).symm
 have hlt : k < (a).length := by simpa using h10
 obtain ⟨x, hx⟩ := Qn hlt
 obtain ⟨y, hy⟩ := Qn (show k < b.length by omega)
 refine Qv ?_; refine Qd 8 (by kernel_rfl) (by kernel_rfl) ?_; refine Qu ?_; refine zp (Qf rfl rfl rfl k rfl _ (Qk hx) rfl) ?_
 refine Qs ?_; refine zp (Qf rfl rfl rfl k rfl _ (Qk hy) rfl) ?_; refine zl ?_; change Qj _ _ _ _ _ _; refine zP (QtD rfl rfl rfl rfl) ?_
 refine zN ?_
 refine zq ?_ ?_ <;> intro h15
 ·
  have h6 := h15
  refine Qs ?_; refine zQ ?_
  exact Qm (decide_eq_false fun e => QtA h6 (by rw [e, hy] at hx; cases hx; rfl)).symm
 have h6 := h15
 refine QF ?_; refine Qb ?_
 exact ⟨⟨k + 1, hlt, fun i hi => by
  by_cases e : i = k
  ·subst e; rw [hx, hy, Qts h6]
  exact hg i (by omega)⟩, Qa rfl (JI ⟨(Q0 (by dsimp only; omega)), rfl, trivial⟩) trivial, by dsimp only; omega⟩
theorem Qhn (s : Nm) : FC Tryz.prog 207 [sv s] (bl (XM s)) := by
 refine Qg [2] Tryz.func207 rfl rfl 56 Tryz.ntmps207 (Nat.le_of_ble_eq_true rfl) ?_
 intro E hN
 refine Jv ?_
 refine zc 7 ?_ ?_ <;> intro h3
 ·
  have hv := K1 (s := s) (.inl (by have := of_decide_eq_true h3; omega))
  refine QiL ?_; refine zQ ?_
  exact Qm hv.symm
 obtain ⟨c0, hc0, hh⟩ := QmM (s := s) (by have := of_decide_eq_false h3; omega)
 refine QF ?_
 refine zc 12 ?_ ?_ <;> intro h5
 ·
  have hv := K1 (s := s) (.inr (.inl (by have := of_decide_eq_true h5; omega)))
  refine Ki ?_; refine zQ ?_
  exact Qm hv.symm
 have h16 : s.length ≤ 16 := by have := of_decide_eq_false h5; omega
 refine Jk ?_; refine uP (Xj h5) (Y0 rfl rfl rfl 0 rfl _ hc0) ?_; refine Qs ?_
 refine zc 17 ?_ ?_ <;> intro h7
 ·
  have hv := K1 (s := s) (.inr (.inr (by rw [hh]; have := of_decide_eq_true h7; rw [decide_eq_false (by omega)]; rfl)))
  refine JA ?_; refine zQ ?_
  exact Qm hv.symm
 have h97 : 97 ≤ (c0.toNat : Int) := by have := of_decide_eq_false h7; omega
 refine Jk ?_; refine uP (Xj h7) (Y0 rfl rfl rfl 0 rfl _ hc0) ?_; refine Qs ?_
 refine zq ?_ ?_ <;> intro h9
 ·
  have hv := K1 (s := s) (.inr (.inr (by rw [hh]; have := of_decide_eq_true h9; rw [decide_eq_false (show ¬ (c0.toNat : Int) ≤ 122 by omega), Bool.and_false])))
  refine Qs ?_; refine zQ ?_
  exact Qm hv.symm
 have hv : XM s = s.all (fun c => X5 c.toNat) := by
  have := of_decide_eq_false h9
  rw [XM, hh, decide_eq_true h16, decide_eq_true h97, decide_eq_true (by omega)]; rfl
 refine Q4 ?_
 refine Ql (fun x : {k : Nat // k ≤ (s).length ∧ (s.drop k).all (fun c => X5 c.toNat) = s.all (fun c => X5 c.toNat)} => ⟨[(0, sv s), (3, i64 (x.1 : Nat))], [], 0⟩) (fun x => (s).length - x.1) (⟨0, Nat.zero_le _, by simp⟩) ?_ ?_
 ·
  exact Qa rfl (JI trivial) trivial
 rintro ⟨k, hk, hg⟩
 dsimp only
 refine XN ?_
 refine zq ?_ ?_ <;> intro h13
 rotate_left
 ·
  have hge : (s).length ≤ k := by simpa using h13
  refine Qv ?_; refine zQ ?_
  exact Qm (by rw [hv, XU hg hge])
 have hlt : k < (s).length := by simpa using h13
 obtain ⟨x, hx⟩ := Qn hlt
 refine Q4 ?_; refine zP (Y0 rfl rfl rfl k rfl _ hx) ?_; refine Qu ?_
 refine zc 32 ?_ ?_ <;> intro h15
 ·
  refine XN ?_; refine zP (Y0 rfl rfl rfl k rfl _ hx) ?_; refine Qu ?_
  refine zc 43 ?_ ?_ <;> intro h17
  ·
   refine JA ?_; refine zP (Y0 rfl rfl rfl k rfl _ hx) ?_; refine Qs ?_
   refine zq ?_ ?_ <;> intro h19
   ·
    refine Qs ?_; refine zQ ?_
    exact Qm (by rw [hv, Q3 hg hx (by first | (simp_all; done) | (simp_all [X5]; done) | (simp_all [X5]; omega))])
   refine QF ?_; refine Qb ?_
   exact ⟨⟨k + 1, hlt, Xx hg hx (by first | (simp_all; done) | (simp_all [X5]; done) | (simp_all [X5]; omega))⟩, Qa rfl (Xv ⟨(Q0 (by dsimp only; omega)), rfl, trivial⟩) trivial, by dsimp only; omega⟩
  refine Qu ?_; refine uP (Xj h17) (Y0 rfl rfl rfl k rfl _ hx) ?_; refine Qv ?_
  refine zc 50 ?_ ?_ <;> intro h22
  ·
   refine Qu ?_; refine uP (XG h22) (Y0 rfl rfl rfl k rfl _ hx) ?_; refine Qs ?_
   refine zq ?_ ?_ <;> intro h24
   ·
    refine Qs ?_; refine zQ ?_
    exact Qm (by rw [hv, Q3 hg hx (by first | (simp_all; done) | (simp_all [X5]; done) | (simp_all [X5]; omega))])
   refine QF ?_; refine Qb ?_
   exact ⟨⟨k + 1, hlt, Xx hg hx (by first | (simp_all; done) | (simp_all [X5]; done) | (simp_all [X5]; omega))⟩, Qa rfl (Xv ⟨(Q0 (by dsimp only; omega)), rfl, trivial⟩) trivial, by dsimp only; omega⟩
  refine X6 ?_; refine Qb ?_
  exact ⟨⟨k + 1, hlt, Xx hg hx (by first | (simp_all; done) | (simp_all [X5]; done) | (simp_all [X5]; omega))⟩, Qa rfl (Xv ⟨(Q0 (by dsimp only; omega)), rfl, trivial⟩) trivial, by dsimp only; omega⟩
 refine Qu ?_; refine uP (Xj h15) (Y0 rfl rfl rfl k rfl _ hx) ?_; refine Qs ?_
 refine zc 38 ?_ ?_ <;> intro h28
 rotate_left
 ·
  refine QaA ?_; refine Qb ?_
  exact ⟨⟨k + 1, hlt, Xx hg hx (by first | (simp_all; done) | (simp_all [X5]; done) | (simp_all [X5]; omega))⟩, Qa rfl (Xv ⟨(Q0 (by dsimp only; omega)), rfl, trivial⟩) trivial, by dsimp only; omega⟩
 refine Qu ?_; refine uP (XG h28) (Y0 rfl rfl rfl k rfl _ hx) ?_; refine Qu ?_
 refine zc 43 ?_ ?_ <;> intro h30
 ·
  refine Qv ?_; refine uP (XG h28) (Xu rfl rfl h30 rfl) ?_; refine Qv ?_; refine zP (Y0 rfl rfl rfl k rfl _ hx) ?_; refine Qs ?_
  refine zq ?_ ?_ <;> intro h32
  ·
   refine Qs ?_; refine zQ ?_
   exact Qm (by rw [hv, Q3 hg hx (by first | (simp_all; done) | (simp_all [X5]; done) | (simp_all [X5]; omega))])
  refine QF ?_; refine Qb ?_
  exact ⟨⟨k + 1, hlt, Xx hg hx (by first | (simp_all; done) | (simp_all [X5]; done) | (simp_all [X5]; omega))⟩, Qa rfl (Xv ⟨(Q0 (by dsimp only; omega)), rfl, trivial⟩) trivial, by dsimp only; omega⟩
 refine Qu ?_; refine uP (Xj h30) (Y0 rfl rfl rfl k rfl _ hx) ?_; refine Jk ?_; refine uP (XG h28) (Xw rfl rfl h30 rfl) ?_; refine Qu ?_
 refine zc 50 ?_ ?_ <;> intro h35
 ·
  refine Qu ?_; refine uP (XG h35) (Y0 rfl rfl rfl k rfl _ hx) ?_; refine Qs ?_
  refine zq ?_ ?_ <;> intro h37
  ·
   refine Qs ?_; refine zQ ?_
   exact Qm (by rw [hv, Q3 hg hx (by first | (simp_all; done) | (simp_all [X5]; done) | (simp_all [X5]; omega))])
  refine QF ?_; refine Qb ?_
  exact ⟨⟨k + 1, hlt, Xx hg hx (by first | (simp_all; done) | (simp_all [X5]; done) | (simp_all [X5]; omega))⟩, Qa rfl (Xv ⟨(Q0 (by dsimp only; omega)), rfl, trivial⟩) trivial, by dsimp only; omega⟩
 refine X6 ?_; refine Qb ?_
 exact ⟨⟨k + 1, hlt, Xx hg hx (by first | (simp_all; done) | (simp_all [X5]; done) | (simp_all [X5]; omega))⟩, Qa rfl (Xv ⟨(Q0 (by dsimp only; omega)), rfl, trivial⟩) trivial, by dsimp only; omega⟩
theorem Qi5 (l : List Nm) (s : Nm) : FC Tryz.prog 208 [X1 l, sv s] (bl (X2 l s)) := by
 refine Qg [4] Tryz.func208 rfl rfl 18 Tryz.ntmps208 (Nat.le_of_ble_eq_true rfl) ?_
 intro E hN
 refine Jj 0 rfl (fun hl0 => ?_)
 refine XB ?_
 refine Ql (fun x : {k : Nat // k ≤ (l).length ∧ (l.drop k).any (s == ·) = l.any (s == ·)} => ⟨[(0, X1 l), (1, sv s), (5, i64 (x.1 : Nat))], [], 0⟩) (fun x => (l).length - x.1) (⟨0, Nat.zero_le _, by simp⟩) ?_ ?_
 ·
  exact Qa rfl (JO trivial) trivial
 rintro ⟨k, hk, hg⟩
 dsimp only
 refine XN ?_
 refine zq ?_ ?_ <;> intro h7
 rotate_left
 ·
  have hge : (l).length ≤ k := by simpa using h7
  refine Qv ?_; refine zQ ?_
  exact Qm (QfB hg hge).symm
 have hlt : k < (l).length := by simpa using h7
 obtain ⟨x, hx⟩ := Qn hlt
 refine Q4 ?_; refine zP (Qf rfl rfl rfl k rfl _ (Qk hx) rfl) ?_; refine Qv ?_
 refine zq ?_ ?_ <;> intro h10
 ·
  have hxs : x = s := by simpa using h10
  refine Qs ?_; refine zQ ?_
  exact Qm (Qf0 hg hx (by rw [hxs]; simp)).symm
 have hxs : x ≠ s := by simpa using h10
 refine QF ?_; refine Qb ?_
 exact ⟨⟨k + 1, hlt, Qin hg hx (beq_eq_false_iff_ne.2 fun e => hxs e.symm)⟩, Qa rfl (JI ⟨(Q0 (by dsimp only; omega)), rfl, trivial⟩) trivial, by dsimp only; omega⟩
theorem Qm5 {l : List Nm} {k : Nat} {x y : Nm} (hk : 0 < k) (hg : Qq (l.drop (k - 1)) = Qq l) (hy : l[k - 1]? = some y) (hx : l[k]? = some x) : Qq l = (Op.bytesLess y x && Qq (l.drop (k + 1 - 1))) := by
 rw [Qc8 hk hg hy hx, Nat.add_sub_cancel]
def Qb0 (l : List Nm) : Bool := l.all XM && Qq l
theorem Qmd (l : List Nm) : FC Tryz.prog 209 [X1 l] (bl (Qb0 l)) := by
 refine Qg [2] Tryz.func209 rfl rfl 32 Tryz.ntmps209 (Nat.le_of_ble_eq_true rfl) ?_
 intro E hN
 refine Jj 0 rfl (fun hl0 => ?_)
 refine XB ?_
 refine Ql (fun x : {k : Nat // k ≤ l.length ∧ (l.drop k).all XM = l.all XM ∧ Qq (l.drop (k - 1)) = Qq l} => ⟨[(0, X1 l), (3, i64 (x.1 : Nat))], [], 0⟩) (fun x => l.length - x.1) (⟨0, Nat.zero_le _, rfl, rfl⟩) ?_ ?_
 ·
  exact Qa rfl (JI trivial) trivial
 rintro ⟨k, hk, hg, hg2⟩
 dsimp only
 refine XN ?_
 refine zq ?_ ?_ <;> intro h5
 rotate_left
 ·
  have hge : (l).length ≤ k := by simpa using h5
  refine Qv ?_; refine zQ ?_
  exact Qm (by rw [Qb0, XU hg hge, QdF hg2 hge]; rfl)
 have hlt : k < (l).length := by simpa using h5
 obtain ⟨x, hx⟩ := Qn hlt
 refine Qv ?_; refine Qd 21 (by kernel_rfl) (by kernel_rfl) ?_; refine Qu ?_; refine zp (Qf rfl rfl rfl k rfl _ (Qk hx) rfl) ?_
 refine zl ?_; refine zp (Qc (Qhn x) rfl rfl rfl) ?_; refine Qu ?_
 refine zd 16 ?_ ?_ <;> intro h8
 ·
  have hno : Qb0 l = false := by rw [Qb0, Q3 hg hx (n1 h8)]; rfl
  refine Ki ?_; change Qj _ _ _ _ _ _; refine Q8 ?_; refine zQ ?_
  exact Qm hno.symm
 have hv : XM x = true := n0 h8
 refine Qs ?_
 refine zd 19 ?_ ?_ <;> intro h9
 rotate_left
 ·
  have hk0 : k = 0 := by have := of_decide_eq_false h9; omega
  have hnx : Qq (l.drop (k + 1 - 1)) = Qq l := by rw [hk0]; rfl
  refine XB ?_; refine vP (Xj (m1 (n0 h8))) (Xw rfl rfl h9 rfl) ?_; change Qj _ _ _ _ _ _; refine XN ?_; refine Qb ?_
  exact ⟨⟨k + 1, hlt, Xx hg hx hv, hnx⟩, Qa rfl (Xv ⟨(Q0 (by dsimp only; omega)), rfl, trivial⟩) trivial, by dsimp only; omega⟩
 have hk0 : 0 < k := by have := of_decide_eq_true h9; omega
 obtain ⟨y, hy⟩ := Qn (show k - 1 < l.length by omega)
 have hrs := Qm5 hk0 hg2 hy hx
 refine Qu ?_; refine vP (XG h9) (KM rfl rfl rfl (by omega)) ?_; refine vP (XG h9) (Qf rfl rfl rfl (k - 1) (by omega) _ (Qk hy) rfl) ?_
 refine Qs ?_; refine vP (XG h9) (Qf rfl rfl rfl k rfl _ (Qk hx) rfl) ?_; refine Qu ?_
 refine vP (Xj (m1 (n0 h8))) (Xu rfl rfl h9 rfl) ?_; change Qj _ _ _ _ _ _; refine Qu ?_
 refine zq ?_ ?_ <;> intro h15
 ·
  have hno : Qb0 l = false := by rw [Qb0, hrs]; simp_all
  refine Qs ?_; refine zQ ?_
  exact Qm hno.symm
 have hnx : Qq (l.drop (k + 1 - 1)) = Qq l := by rw [hrs]; simp_all
 refine QF ?_; refine Qb ?_
 exact ⟨⟨k + 1, hlt, Xx hg hx hv, hnx⟩, Qa rfl (Xv ⟨(Q0 (by dsimp only; omega)), rfl, trivial⟩) trivial, by dsimp only; omega⟩
theorem Qn0 (l : QD) (ih : ∀ q ∈ l.ps, FC Tryz.prog 178 [.agg (Q2 q)] (bl (chainB q))) : FC Tryz.prog 178 [.agg (Q2 l)] (bl (chainB l)) := by
 refine Qg [2] Tryz.func178 rfl rfl 29 Tryz.ntmps178 (Nat.le_of_ble_eq_true rfl) ?_
 intro E hN
 refine X6 ?_
 refine Wm (⟨[(1, .ptr 0 0), (4, i64 l.k), (5, bl (l.k == 1 || l.k == 2 || l.k == 3))], [(0, .var 26 (Q2 l))], 1⟩) ?_ ?_
 ·
  refine QF ?_
  refine zq ?_ ?_ <;> intro h5
  ·
   refine Xn ?_
   exact Qa rfl (JI ⟨(YT (by simp_all)), rfl, trivial⟩) ⟨rfl, rfl, rfl, trivial⟩
  refine QF ?_
  refine zq ?_ ?_ <;> intro h6
  ·
   refine Xn ?_
   exact Qa rfl (JI ⟨(YT (by simp_all)), rfl, trivial⟩) ⟨rfl, rfl, rfl, trivial⟩
  refine Qs ?_; refine Qb ?_
  exact Qa rfl (JI ⟨(YT (by simp_all)), rfl, trivial⟩) ⟨rfl, rfl, rfl, trivial⟩
 refine zq ?_ ?_ <;> intro h10
 ·
  have h123 := h10
  refine Qs ?_; refine zQ ?_
  exact Qm (Qd1 h123).symm
 have h123 : (l.k == 1 || l.k == 2 || l.k == 3) = false := h10
 refine QF ?_
 refine zq ?_ ?_ <;> intro h11
 rotate_left
 ·
  have h7 := h11
  refine Qv ?_; refine zQ ?_
  exact Qm (by
   simp only [Bool.or_eq_false_iff] at h123
   exact (Yh h123.1.1 h123.1.2 h123.2 (.inl h7)).symm)
 have h7 := h11
 refine Q4 ?_
 refine zc 15 ?_ ?_ <;> intro h15
 rotate_left
 ·
  have h72 : chainB l = false := by
   have e := h15
   simp only [Bool.or_eq_false_iff] at h123
   exact Yh h123.1.1 h123.1.2 h123.2 (.inr (by intro e2; simp [e2] at e))
  refine Ki ?_; refine zQ ?_
  exact Qm (by first | exact h72.symm | (rw [h72]; simp_all))
 obtain ⟨a, b, hps⟩ : ∃ a b, l.ps = [a, b] := by
  have h2 : l.ps.length = 2 := by have e := h15; simp at e; omega
  match l.ps, h2 with
  | [a, b], _ => exact ⟨a, b, rfl⟩
 have ha : l.ps[0]? = some a := by rw [hps]; rfl
 have hb : l.ps[1]? = some b := by rw [hps]; rfl
 have h72 := Qck h7 hps
 refine Qu ?_; refine uP (XG h15) (Qf rfl rfl rfl 0 rfl _ (XK ha) rfl) ?_; refine Jk ?_
 refine uP (XG h15) (Qc (ih a (List.mem_of_getElem? ha)) rfl rfl rfl) ?_; refine Qu ?_
 refine zc 22 ?_ ?_ <;> intro h20
 ·
  refine Qu ?_; refine uP (XG h20) (Qf rfl rfl rfl 1 rfl _ (XK hb) rfl) ?_; refine Jk ?_
  refine uP (XG h20) (Qc (ih b (List.mem_of_getElem? hb)) rfl rfl rfl) ?_; refine Qu ?_; refine zQ ?_
  exact Qm (by first | exact h72.symm | (rw [h72]; simp_all))
 refine Q4 ?_; refine zQ ?_
 exact Qm (by first | exact h72.symm | (rw [h72]; simp_all))
theorem Qdx (l : QD) : FC Tryz.prog 178 [.agg (Q2 l)] (bl (chainB l)) := Qn0 l (fun q hq => Qdx q)
termination_by l
decreasing_by exact QD.sizeOf_ps ‹_›
end Go.Proofs.YtnkkokmmeplbgaaGreat
