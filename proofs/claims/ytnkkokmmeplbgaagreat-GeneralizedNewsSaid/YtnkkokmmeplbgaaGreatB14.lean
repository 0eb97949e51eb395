/-
  Contracts: Join, JoinAll, Meet, Comparable, Maximal.
-/
import Derived.Test.YtnkkokmmeplbgaaGreatB10
import Derived.Test.YtnkkokmmeplbgaaGreatA4
import Derived.Test.YtnkkokmmeplbgaaGreatB11
import Derived.Test.YtnkkokmmeplbgaaGreatB1
namespace Go.Proofs.YtnkkokmmeplbgaaGreat
set_option maxRecDepth 100000
set_option maxHeartbeats 1000000
open Go.RowKit
theorem QlO {l : List En} {k : Nat} {x : En} (h : l[k]? = some x) : ((l.take k).map K6) ++ X2 2 1 (K6 x) = ((l.take (k + 1)).map K6) := by
 rw [Qj6, List.take_add_one, h]; simp
theorem cgE {tt : TypeId} {a b d : AV} {es es' : List (List AV)} {tk : Option Nat} (h : es = es') : some (Qi.var tt [a, b, d, .sl es tk]) = some (Qi.var tt [a, b, d, .sl es' tk]) := by rw [h]
theorem QjH (v : Qt) (h1 : v.nm.length ≤ 1000000) (h2 : v.ps.length ≤ 1000000) (h3 : v.es.length ≤ 1000000) (h4 : ∀ e ∈ v.es, e.1.length ≤ 64) (ih : ∀ p ∈ v.ps, FC Tryz.prog 160 [.agg (QH p)] (.agg (QH p))) : FC Tryz.prog 160 [.agg (QH v)] (.agg (QH v)) := by
 refine X9 [.c 2 30 4 true] ⟨⟨inferInstance, rfl⟩, trivial⟩ Tryz.func160 rfl rfl 49 Tryz.ntmps160 (Nat.le_of_ble_eq_true rfl) ?_
 intro E hN
 refine Xk ?_; refine QbZ [0, 1, 2, 3, 4, 5] 6 [7] rfl (by kernel_rfl) (by kernel_rfl) ?_; refine Qz ?_
 refine zp (Qb (Qhs v.nm h1) rfl rfl rfl) ?_; refine zp (Ko rfl rfl rfl) ?_
 change FK _ _ _ _ _ _
 refine Qii hN rfl rfl rfl rfl rfl rfl rfl ?_; change Ql _ _ _ _ _ _; refine Jc ?_
 refine QF (JG rfl 2 2 30 4 rfl rfl rfl) ?_
 refine Qo (fun x : {k : Nat // k ≤ (v.ps).length ∧ True} => ⟨[(1, .ptr 0 0), (2, .ptr 1 0), (3, .ptr 2 0), (15, J8 v.ps), (16, i64 v.ps.length), (17, i64 (x.1 : Nat))], [(0, .var 30 (QH v)), (1, .var 30 [i64 0, .p (.slice none 0 0), .p (.slice none 0 0), .p (.slice none 0 0)]), (2, .var 30 [i64 v.N, XN v.nm, .sl ((v.ps.take x.1).map YR) (some 3), .p (.slice none 0 0)]), (3, .tok 30 4 ((v.ps.take x.1).map YR).length)], 4⟩) (fun x => (v.ps).length - x.1) (⟨0, Nat.zero_le _, by simp⟩) ?_ ?_
 ·
  exact Qa rfl (Yg ⟨(Xe (by simp)), rfl, (Xr trivial)⟩) ⟨rfl, rfl, rfl, rfl, rfl, rfl, rfl, rfl, rfl, rfl, rfl, rfl, trivial⟩
 rintro ⟨k, hk, hg⟩
 dsimp only
 refine QA ?_
 refine zq ?_ ?_ <;> intro h21
 ·
  have hlt : k < (v.ps).length := by simpa using h21
  obtain ⟨x, hx⟩ := Qr hlt
  refine QA ?_; refine zP (Qf rfl rfl rfl k rfl _ (Q9 hx) rfl) ?_; refine Qz ?_; refine Qg 5 (by kernel_rfl) (by kernel_rfl) ?_
  refine Qx ?_; refine zp (Qb (ih x (List.mem_of_getElem? hx)) rfl rfl rfl) ?_
  refine zp (QJ rfl rfl rfl rfl (by exact rfl) (by decide) (by decide)) ?_; change Ql _ _ _ _ _ _
  refine QM hN rfl rfl rfl (by simp) rfl rfl (Q2 Kl _) rfl (by simp [X3]; omega) rfl rfl rfl rfl ?_
  refine Xk ?_; refine Qc ?_
  exact ⟨⟨k + 1, hlt, trivial⟩, Qa rfl (Yg (Xr ⟨(Xe (by dsimp only; omega)), rfl, trivial⟩)) ⟨rfl, rfl, rfl, rfl, rfl, rfl, (cgV (Qia hx)), rfl, rfl, (cgT (by simp [X3]; omega)), rfl, rfl, trivial⟩, by dsimp only; omega⟩
 have hge : (v.ps).length ≤ k := by simpa using h21
 rw [List.take_of_length_le hge]
 refine XM ?_; refine QF (JG rfl 2 3 149 2 rfl rfl rfl) ?_
 refine Qo (fun x : {k : Nat // k ≤ (v.es).length ∧ True} => ⟨[(2, .ptr 1 0), (3, .ptr 2 0), (30, KU v.es), (31, i64 v.es.length), (32, i64 (x.1 : Nat))], [(1, .var 30 [i64 0, .p (.slice none 0 0), .p (.slice none 0 0), .p (.slice none 0 0)]), (2, .var 30 [i64 v.N, XN v.nm, .sl (v.ps.map YR) (some 3), .sl ((v.es.take x.1).map K6) (some 4)]), (4, .tok 149 2 ((v.es.take x.1).map K6).length)], 5⟩) (fun x => (v.es).length - x.1) (⟨0, Nat.zero_le _, by simp⟩) ?_ ?_
 ·
  exact Qa rfl (Ya ⟨(Xe (by simp)), rfl, (Xr trivial)⟩) ⟨rfl, rfl, rfl, rfl, rfl, rfl, rfl, rfl, rfl, trivial⟩
 rintro ⟨k, hk, hg⟩
 dsimp only
 refine QA ?_
 refine zq ?_ ?_ <;> intro h43
 rotate_left
 ·
  have hge : (v.es).length ≤ k := by simpa using h43
  rw [List.take_of_length_le hge]
  refine Xk ?_; refine Qj ?_
  change (resY _ _).bind AV.fzt = some _
  refine Xs rfl ?_
  rfl
 have hlt : k < (v.es).length := by simpa using h43
 obtain ⟨x, hx⟩ := Qr hlt
 refine QA ?_; refine zP (Qf rfl rfl rfl k rfl _ (Qu hx) rfl) ?_; refine Qz ?_; refine Qg 9 (by kernel_rfl) (by kernel_rfl) ?_
 refine Qz ?_
 refine zp (Qb (Qhz x.1 (by have := h4 x (List.mem_of_getElem? hx); omega)) rfl rfl rfl) ?_
 refine QC ?_; refine zp (Ko rfl rfl rfl) ?_; refine zp (QJ rfl rfl rfl rfl (by exact rfl) (by decide) (by decide)) ?_
 change Ql _ _ _ _ _ _
 refine QM hN rfl rfl rfl (by simp) rfl rfl (Q2 QhM _) rfl (by simp [QI]; omega) rfl rfl rfl rfl ?_
 refine Xk ?_; refine Qc ?_
 exact ⟨⟨k + 1, hlt, trivial⟩, Qa rfl (Yg ⟨(Xe (by dsimp only; omega)), rfl, trivial⟩) ⟨rfl, rfl, rfl, (cgE (QlO hx)), rfl, rfl, (cgT (by simp [QI]; omega)), rfl, rfl, trivial⟩, by dsimp only; omega⟩
theorem Qel (v : Qt) (h : Wc 1000000 v) : FC Tryz.prog 160 [.agg (QH v)] (.agg (QH v)) := QjH v h.nm h.ps h.es h.en (fun p hp => Qel p (h.part p hp))
termination_by v
decreasing_by exact Qt.sizeOf_ps ‹_›
inductive JoL : Qs → Prop
 | mk (l : Qs) (h : l.k = 10 → ∀ s, Qn s = true → (∀ x ∈ s, x ∈ l.nm) → FC Tryz.prog 195 [XN l.nm, rus l.rs, XN s] (.tup [XN (YE l.nm l.rs s), i64 0])) (hp : ∀ p ∈ l.ps, JoL p) : JoL l
theorem JoL.close {l : Qs} (h : JoL l) : l.k = 10 → ∀ s, Qn s = true → (∀ x ∈ s, x ∈ l.nm) → FC Tryz.prog 195 [XN l.nm, rus l.rs, XN s] (.tup [XN (YE l.nm l.rs s), i64 0]) := by cases h; assumption
theorem JoL.part {l : Qs} (h : JoL l) : ∀ p ∈ l.ps, JoL p := by cases h; assumption
theorem Qjd {l : Qs} (hO : Ys l) (hk : l.k = 10) : l.nm ≠ [] := by
 have h := hO.shape
 unfold QU at h
 rw [if_pos (by rw [hk]; decide)] at h
 intro e
 rw [show Jq l = true by unfold Jq; rw [hk, e]; rfl, Bool.or_true] at h
 simp [X4] at h
theorem Wx {l : Qs} {v : Qt} (hO : Ys l) (hk : l.k = 10) (hv : Qv v l = true) : ∀ s ∈ v.nm, s ∈ l.nm := fun s hs => by
 obtain ⟨-, -, -, -, h, -⟩ := J5 hv (.inr hk)
 have h1 := h s hs
 have h2 : ((l.nm.length : Int) > 0) := by
  have := List.length_pos_iff.2 (Qjd hO hk)
  omega
 simp only [Yk, h2, decide_true, Bool.true_and, Bool.and_eq_true, Bool.not_eq_true', Bool.not_eq_false'] at h1
 exact Yf.1 (by simpa using h1.2)
theorem JB {l : Qs} {a b : Qt} (h4 : l.k ≠ 4) (h10 : l.k ≠ 10) (h9 : l.k ≠ 9) (h5 : l.k ≠ 5) (h6 : l.k ≠ 6) (hx : l.k = 7 → KA l.ps a.ps b.ps = none) :
  QD l a b = if Q0 l a b then b else if Q0 l b a then a else .mk 2 [] [] [] := by
 rw [XA]
 simp only [beq_eq_false_iff_ne.2 h4, beq_eq_false_iff_ne.2 h10, beq_eq_false_iff_ne.2 h9, beq_eq_false_iff_ne.2 h5, beq_eq_false_iff_ne.2 h6, Bool.false_eq_true, if_false]
 by_cases h7 : l.k = 7
 ·rw [if_pos (beq_iff_eq.2 h7), hx h7]
 rw [if_neg (by simpa using h7)]
section
variable {a b : Qt} {q : Qs} {x : Nm}
theorem Qbx {v : Qt} (hl : v.nm.length = v.ps.length) (h : decide (Xd x v.nm 0 < 0) = false) : ∃ (i : Nat) (y : Qt), Xd x v.nm 0 = (i : Int) ∧ v.ps[i]? = some y ∧ Je v x = some y := by
 rcases QbT x v.nm 0 with h1 | ⟨j, -, h2, h3⟩
 ·rw [h1] at h; cases h
 obtain ⟨y, hy⟩ := Qr (show j < v.ps.length by omega)
 exact ⟨j, y, h3, hy, Qcp h3 hy⟩
theorem jc_b (hm : x ∈ a.nm ∨ x ∈ b.nm) (h : decide (Xd x a.nm 0 < 0) = true) (lb : b.nm.length = b.ps.length) : ∃ (j : Nat) (y : Qt), Xd x b.nm 0 = (j : Int) ∧ b.ps[j]? = some y ∧ Jd q a b x = y := by
 have h0 := of_decide_eq_true h
 have hb : x ∈ b.nm := by
  rcases hm with hm | hm
  ·have := Qap x a.nm 0
   rw [Yf.2 hm] at this
   have := of_decide_eq_true this
   omega
  exact hm
 have h1 : decide (Xd x b.nm 0 < 0) = false := by
  have := Qap x b.nm 0
  rw [Yf.2 hb] at this
  have := of_decide_eq_true this
  exact decide_eq_false (by omega)
 obtain ⟨j, y, g1, g2, g3⟩ := Qbx lb h1
 exact ⟨j, y, g1, g2, QoD (Qaf h0) g3⟩
theorem jc_a (h1 : decide (Xd x a.nm 0 < 0) = false) (h2 : decide (Xd x b.nm 0 < 0) = true) (la : a.nm.length = a.ps.length) : ∃ (j : Nat) (y : Qt), Xd x a.nm 0 = (j : Int) ∧ a.ps[j]? = some y ∧ Jd q a b x = y := by
 obtain ⟨j, y, g1, g2, g3⟩ := Qbx la h1
 exact ⟨j, y, g1, g2, QoR g3 (Qaf (of_decide_eq_true h2))⟩
theorem jc_2 (h1 : decide (Xd x a.nm 0 < 0) = false) (h2 : decide (Xd x b.nm 0 < 0) = false) (la : a.nm.length = a.ps.length) (lb : b.nm.length = b.ps.length) :
  ∃ (i : Nat) (x1 : Qt) (j : Nat) (y : Qt), Xd x a.nm 0 = (i : Int) ∧ a.ps[i]? = some x1 ∧ Xd x b.nm 0 = (j : Int) ∧ b.ps[j]? = some y ∧ Jd q a b x = QD q x1 y := by
 obtain ⟨i, x1, g1, g2, g3⟩ := Qbx la h1
 obtain ⟨j, y, k1, k2, k3⟩ := Qbx lb h2
 exact ⟨i, x1, j, y, g1, g2, k1, k2, Qo2 g3 k3⟩
end
theorem QnV (l : Qs) (hO : Ys l) (hJ : JoL l) (ih : ∀ q ∈ l.ps, ∀ x y, Qv x q = true → Qv y q = true → Wc 500000 x → Wc 500000 y → FC Tryz.prog 159 [.agg (QP q), .agg (QH x), .agg (QH y)] (.agg (QH (QD q x y)))) (a b : Qt) (ha : Qv a l = true) (hb : Qv b l = true) (sa : Wc 500000 a) (sb : Wc 500000 b) : FC Tryz.prog 159 [.agg (QP l), .agg (QH a), .agg (QH b)] (.agg (QH (QD l a b))) := by
 have na := sa.nm
 have nb := sb.nm
 have nea := sa.es
 have neb := sb.es
 have npl := hO.small
 refine X9 [.c 6 30 4 true] ⟨⟨inferInstance, rfl⟩, trivial⟩ Tryz.func159 rfl rfl 195 Tryz.ntmps159 (Nat.le_of_ble_eq_true rfl) ?_
 intro E hN
 refine QeN ?_
 refine zq ?_ ?_ <;> intro h10
 ·
  have hk : l.k = 4 := by simpa using h10
  obtain ⟨-, -, -, hsa, -, -⟩ := J5 ha (.inl hk)
  obtain ⟨-, -, -, hsb, -, -⟩ := J5 hb (.inl hk)
  have hE : QD l a b = .mk 0 (WJ a.nm b.nm) [] [] := by rw [XA, hk]; rfl
  refine Xk ?_; refine zP (Qb (QdB _ _ hsa hsb (by omega)) rfl rfl rfl) ?_; refine Qx ?_; refine Qj ?_
  change (resY _ _).bind AV.fzt = some _
  refine Xs rfl ?_
  rw [hE]; rfl
 have hk4 : l.k ≠ 4 := by simpa using h10
 refine QA ?_
 refine zq ?_ ?_ <;> intro h18
 ·
  have hk : l.k = 10 := by simpa using h18
  obtain ⟨-, -, -, hsa, -, -⟩ := J5 ha (.inr hk)
  obtain ⟨-, -, -, hsb, -, -⟩ := J5 hb (.inr hk)
  have hE : QD l a b = .mk 0 (YE l.nm l.rs (WJ a.nm b.nm)) [] [] := by rw [XA, hk]; rfl
  refine Yb ?_; refine Qg 14 (by kernel_rfl) (by kernel_rfl) ?_; refine Jf ?_
  refine zp (Qb (QdB _ _ hsa hsb (by omega)) rfl rfl rfl) ?_
  refine QaC hN (Qb (hJ.close hk _ (QaS hsa hsb) (fun x hx => by
     rcases (Qaw hsa hsb).1 hx with hx | hx
     ·exact Wx hO hk ha x hx
     exact Wx hO hk hb x hx)) rfl rfl rfl) rfl rfl rfl rfl ?_
  refine Qx ?_; refine zp (XB rfl rfl) ?_; change Ql _ _ _ _ _ _; refine Jf ?_; refine Qj ?_
  change (resY _ _).bind AV.fzt = some _
  refine Xs rfl ?_
  rw [hE]; rfl
 have hk10 : l.k ≠ 10 := by simpa using h18
 refine QA ?_
 refine zq ?_ ?_ <;> intro h33
 ·
  have hk : l.k = 9 := by simpa using h33
  have hE : QD l a b = .mk 0 [] [] (XR a.es b.es) := by rw [XA, hk]; rfl
  refine Xk ?_; refine zP (Qb (QiS _ _ (by omega)) rfl rfl rfl) ?_; refine Qx ?_; refine Qj ?_
  change (resY _ _).bind AV.fzt = some _
  refine Xs rfl ?_
  rw [hE]; rfl
 have hk9 : l.k ≠ 9 := by simpa using h33
 refine QA ?_
 refine zq ?_ ?_ <;> intro h41
 ·
  have hk : l.k = 5 := by simpa using h41
  obtain ⟨q, hps⟩ := Y5 hO hk
  have hq0 : l.ps[0]? = some q := by rw [hps]; rfl
  obtain ⟨-, -, hla, hsa, -, hea⟩ := Yp ha hk hps
  obtain ⟨-, -, hlb, hsb, -, heb⟩ := Yp hb hk hps
  have hul := QeS hsa hsb
  have hE : QD l a b = .mk 0 (WJ a.nm b.nm) ((WJ a.nm b.nm).map (Jd q a b)) [] := by rw [XA, hk, hps, Qb7]; rfl
  refine XM ?_; refine zP (Qb (QdB _ _ hsa hsb (by omega)) rfl rfl rfl) ?_; refine Jn ?_
  refine QF (JG rfl 4 2 30 4 rfl rfl rfl) ?_
  refine Qo (fun x : {k : Nat // k ≤ (WJ a.nm b.nm).length ∧ True} => ⟨[(3, .ptr 0 0), (4, .ptr 1 0), (5, .ptr 2 0), (6, .ptr 3 0), (9, .ptr 4 0), (61, XN (WJ a.nm b.nm)), (62, i64 (WJ a.nm b.nm).length), (63, i64 (x.1 : Nat))], [(0, .var 26 (QP l)), (1, .var 30 (QH a)), (2, .var 30 (QH b)), (3, .var 30 [i64 0, .p (.slice none 0 0), .p (.slice none 0 0), .p (.slice none 0 0)]), (4, .var 30 [i64 0, XN (WJ a.nm b.nm), .sl ((((WJ a.nm b.nm).take x.1).map (Jd q a b)).map YR) (some 5), .p (.slice none 0 0)]), (5, .tok 30 4 ((((WJ a.nm b.nm).take x.1).map (Jd q a b)).map YR).length)], 6⟩) (fun x => (WJ a.nm b.nm).length - x.1) (⟨0, Nat.zero_le _, by simp⟩) ?_ ?_
  ·
   exact Qa rfl (Yg (Yv ⟨(Xe (by simp)), rfl, (Xr trivial)⟩)) ⟨rfl, rfl, rfl, rfl, rfl, rfl, rfl, rfl, rfl, rfl, rfl, rfl, rfl, rfl, rfl, rfl, rfl, rfl, trivial⟩
  rintro ⟨k, hk, hg⟩
  dsimp only
  refine QA ?_
  refine zq ?_ ?_ <;> intro h61
  rotate_left
  ·
   have hge : (WJ a.nm b.nm).length ≤ k := by simpa using h61
   rw [List.take_of_length_le hge]
   refine Xk ?_; refine Qj ?_
   change (resY _ _).bind AV.fzt = some _
   refine Xs rfl ?_
   rw [hE]; rfl
  have hlt : k < (WJ a.nm b.nm).length := by simpa using h61
  obtain ⟨x, hx⟩ := Qr hlt
  have hxm := (Qaw hsa hsb).1 (List.mem_of_getElem? hx)
  refine QA ?_; refine zP (Qf rfl rfl rfl k rfl _ (Qu hx) rfl) ?_; refine Qz ?_; refine Qg 9 (by kernel_rfl) (by kernel_rfl) ?_
  refine Qx ?_; refine zp (Qb (Qa7 _ _) rfl rfl rfl) ?_; refine Qx ?_; refine zp (Qb (Qa7 _ _) rfl rfl rfl) ?_
  refine zp (XB rfl rfl) ?_; change Ql _ _ _ _ _ _; refine Jy ?_
  refine zq ?_ ?_ <;> intro h70
  ·
   obtain ⟨j, y, hj, hy, hF⟩ := jc_b (q := q) hxm h70 hlb
   refine Qg 8 (by kernel_rfl) (by kernel_rfl) ?_; refine QA ?_; refine zp (Qf rfl rfl rfl j hj _ (Q9 hy) rfl) ?_; refine zl ?_
   refine zp (QJ rfl rfl rfl rfl (by exact rfl) (by decide) (by decide)) ?_; change Ql _ _ _ _ _ _
   refine QM hN rfl rfl rfl (by simp) rfl rfl (Q2 Kl _) rfl (by simp [X3]; omega) rfl rfl rfl rfl ?_
   refine Xk ?_; refine Qc ?_
   exact ⟨⟨k + 1, hlt, trivial⟩, Qa rfl (Yg (Ya ⟨(Xe (by dsimp only; omega)), rfl, trivial⟩)) ⟨rfl, rfl, rfl, rfl, rfl, rfl, rfl, rfl, rfl, rfl, rfl, rfl, (cgV (Qfz hx hF)), rfl, rfl, (cgT (by simp [X3]; omega)), rfl, rfl, trivial⟩, by dsimp only; omega⟩
  have h17 := h70
  refine Xk ?_
  refine zq ?_ ?_ <;> intro h82
  ·
   obtain ⟨i, x1, hi, hx1, hF⟩ := jc_a (q := q) h17 h82 hla
   refine Qg 8 (by kernel_rfl) (by kernel_rfl) ?_; refine QA ?_; refine zp (Qf rfl rfl rfl i hi _ (Q9 hx1) rfl) ?_; refine zl ?_
   refine zp (QJ rfl rfl rfl rfl (by exact rfl) (by decide) (by decide)) ?_; change Ql _ _ _ _ _ _
   refine QM hN rfl rfl rfl (by simp) rfl rfl (Q2 Kl _) rfl (by simp [X3]; omega) rfl rfl rfl rfl ?_
   refine Xk ?_; refine Qc ?_
   exact ⟨⟨k + 1, hlt, trivial⟩, Qa rfl (Yg (Ya ⟨(Xe (by dsimp only; omega)), rfl, trivial⟩)) ⟨rfl, rfl, rfl, rfl, rfl, rfl, rfl, rfl, rfl, rfl, rfl, rfl, (cgV (Qfz hx hF)), rfl, rfl, (cgT (by simp [X3]; omega)), rfl, rfl, trivial⟩, by dsimp only; omega⟩
  obtain ⟨i, x1, j, y, hi, hx1, hj, hy, hF⟩ := jc_2 (q := q) h17 h82 hla hlb
  refine Qg 18 (by kernel_rfl) (by kernel_rfl) ?_; refine Qz ?_; refine zp (Qf rfl rfl rfl 0 rfl _ (Xv hq0) rfl) ?_; refine Qz ?_
  refine zp (Qf rfl rfl rfl i hi _ (Q9 hx1) rfl) ?_; refine Qz ?_; refine zp (Qf rfl rfl rfl j hj _ (Q9 hy) rfl) ?_; refine zl ?_
  refine zp (Qb (ih q (by rw [hps]; simp) x1 y (hea x1 (List.mem_of_getElem? hx1)).1 (heb y (List.mem_of_getElem? hy)).1 (sa.part x1 (List.mem_of_getElem? hx1)) (sb.part y (List.mem_of_getElem? hy))) rfl rfl rfl) ?_
  refine zp (QJ rfl rfl rfl rfl (by exact rfl) (by decide) (by decide)) ?_; change Ql _ _ _ _ _ _
  refine QM hN rfl rfl rfl (by simp) rfl rfl (Q2 Kl _) rfl (by simp [X3]; omega) rfl rfl rfl rfl ?_
  refine Xk ?_; refine Qc ?_
  exact ⟨⟨k + 1, hlt, trivial⟩, Qa rfl (Yg (Ya ⟨(Xe (by dsimp only; omega)), rfl, trivial⟩)) ⟨rfl, rfl, rfl, rfl, rfl, rfl, rfl, rfl, rfl, rfl, rfl, rfl, (cgV (Qfz hx hF)), rfl, rfl, (cgT (by simp [X3]; omega)), rfl, rfl, trivial⟩, by dsimp only; omega⟩
 have hk5 : l.k ≠ 5 := by simpa using h41
 refine QA ?_
 refine zq ?_ ?_ <;> intro h116
 ·
  have hk : l.k = 6 := by simpa using h116
  obtain ⟨-, -, -, hla, hza⟩ := Jo ha (.inl hk)
  obtain ⟨-, -, -, hlb, hzb⟩ := Jo hb (.inl hk)
  have hjl := QeM hla hlb
  have hE : QD l a b = .mk 0 [] (Y9 l.ps a.ps b.ps) [] := by rw [XA, hk]; rfl
  refine Wz ?_; refine QF (JG rfl 4 2 30 4 rfl rfl rfl) ?_
  refine Qo (fun x : {k : Nat // k ≤ (l.ps).length ∧ True} => ⟨[(3, .ptr 0 0), (4, .ptr 1 0), (5, .ptr 2 0), (6, .ptr 3 0), (14, .ptr 4 0), (126, Qf0 l.ps), (127, i64 l.ps.length), (128, i64 (x.1 : Nat))], [(0, .var 26 (QP l)), (1, .var 30 (QH a)), (2, .var 30 (QH b)), (3, .var 30 [i64 0, .p (.slice none 0 0), .p (.slice none 0 0), .p (.slice none 0 0)]), (4, .var 30 [i64 0, .p (.slice none 0 0), .sl (((Y9 l.ps a.ps b.ps).take x.1).map YR) (some 5), .p (.slice none 0 0)]), (5, .tok 30 4 (((Y9 l.ps a.ps b.ps).take x.1).map YR).length)], 6⟩) (fun x => (l.ps).length - x.1) (⟨0, Nat.zero_le _, by simp⟩) ?_ ?_
  ·
   exact Qa rfl (Yg (Yv ⟨(Xe (by simp)), rfl, (Xr trivial)⟩)) ⟨rfl, rfl, rfl, rfl, rfl, rfl, rfl, rfl, rfl, rfl, rfl, rfl, rfl, rfl, rfl, rfl, rfl, rfl, trivial⟩
  rintro ⟨k, hk, hg⟩
  dsimp only
  refine QA ?_
  refine zq ?_ ?_ <;> intro h129
  rotate_left
  ·
   have hge : (l.ps).length ≤ k := by simpa using h129
   rw [List.take_of_length_le (by rw [hjl]; exact hge)]
   refine Xk ?_; refine Qj ?_
   change (resY _ _).bind AV.fzt = some _
   refine Xs rfl ?_
   rw [hE]; rfl
  have hlt : k < l.ps.length := by simpa using h129
  obtain ⟨q, hq⟩ := Qr hlt
  obtain ⟨x, hx⟩ := Qr (show k < a.ps.length by omega)
  obtain ⟨y, hy⟩ := Qr (show k < b.ps.length by omega)
  refine Xk ?_; refine zP (Qf rfl rfl rfl k rfl _ (Xv hq) rfl) ?_; refine QA ?_; refine Qg 15 (by kernel_rfl) (by kernel_rfl) ?_
  refine Xk ?_; refine zp (Qf rfl rfl rfl k rfl _ (Q9 hx) rfl) ?_; refine Qz ?_; refine zp (Qf rfl rfl rfl k rfl _ (Q9 hy) rfl) ?_
  refine zl ?_
  refine zp (Qb (ih q (List.mem_of_getElem? hq) x y (Xt hza hx hq) (Xt hzb hy hq) (sa.part x (List.mem_of_getElem? hx)) (sb.part y (List.mem_of_getElem? hy))) rfl rfl rfl) ?_
  refine zp (QJ rfl rfl rfl rfl (by exact rfl) (by decide) (by decide)) ?_; change Ql _ _ _ _ _ _
  refine QM hN rfl rfl rfl (by simp) rfl rfl (Q2 Kl _) rfl (by simp [X3]; omega) rfl rfl rfl rfl ?_
  refine Xk ?_; refine Qc ?_
  exact ⟨⟨k + 1, hlt, trivial⟩, Qa rfl (Yg (Ya ⟨(Xe (by dsimp only; omega)), rfl, trivial⟩)) ⟨rfl, rfl, rfl, rfl, rfl, rfl, rfl, rfl, rfl, rfl, rfl, rfl, (cgV (Qia (Qff hq hx hy))), rfl, rfl, (cgT (by simp [X3]; omega)), rfl, rfl, trivial⟩, by dsimp only; omega⟩
 have hk6 : l.k ≠ 6 := by simpa using h116
 refine QA ?_
 refine zq ?_ ?_ <;> intro h153
 rotate_left
 ·
  have hx : l.k = 7 → KA l.ps a.ps b.ps = none := fun e => absurd e (by simpa using h153)
  refine Jf ?_; refine zP (Qb (QbU l hO a b ha hb) rfl rfl rfl) ?_; refine zT ?_
  refine zq ?_ ?_ <;> intro h200
  ·
   have h34 := h200
   refine QA ?_; refine Qj ?_
   change (resY _ _).bind AV.fzt = some _
   refine Xs rfl ?_
   rw [JB hk4 hk10 hk9 hk5 hk6 hx, if_pos h34]
  have h34 := h200
  refine QA ?_; refine zP (Qb (QbU l hO b a hb ha) rfl rfl rfl) ?_; refine zT ?_
  refine zq ?_ ?_ <;> intro h206
  ·
   have h36 := h206
   refine QA ?_; refine Qj ?_
   change (resY _ _).bind AV.fzt = some _
   refine Xs rfl ?_
   rw [JB hk4 hk10 hk9 hk5 hk6 hx, if_neg (by rw [h34]; decide), if_pos h36]
  have h36 := h206
  refine Xk ?_; refine Qj ?_
  change (resY _ _).bind AV.fzt = some _
  refine Xs rfl ?_
  rw [JB hk4 hk10 hk9 hk5 hk6 hx, if_neg (by rw [h34]; decide), if_neg (by rw [h36]; decide)]; rfl
 have hk : l.k = 7 := by simpa using h153
 obtain ⟨q1, q2, hps⟩ := YH hO.shape hk
 obtain ⟨x1, x2, hpa, hx1, hx2⟩ := JL ha hk hps
 obtain ⟨y1, y2, hpb, hy1, hy2⟩ := JL hb hk hps
 have hq2' : l.ps[1]? = some q2 := by rw [hps]; rfl
 have hx1' : a.ps[0]? = some x1 := by rw [hpa]; rfl
 have hx2' : a.ps[1]? = some x2 := by rw [hpa]; rfl
 have hy1' : b.ps[0]? = some y1 := by rw [hpb]; rfl
 have hy2' : b.ps[1]? = some y2 := by rw [hpb]; rfl
 refine Yb ?_; refine Qg 8 (by kernel_rfl) (by kernel_rfl) ?_; refine QC ?_; refine zp (Qf rfl rfl rfl 0 rfl _ (Q9 hx1') rfl) ?_
 refine Qx ?_; refine zp (Qf rfl rfl rfl 0 rfl _ (Q9 hy1') rfl) ?_; refine zl ?_; change Ql _ _ _ _ _ _
 refine zP (Qb (QbN _ _) rfl rfl rfl) ?_; refine zN ?_
 refine zq ?_ ?_ <;> intro h162
 ·
  have hE : QD l a b = .mk 0 [] [x1, QD q2 x2 y2] [] := by rw [XA, hk, hps, hpa, hpb]; simp [KA, h162]
  refine Yb ?_; refine Qg 19 (by kernel_rfl) (by kernel_rfl) ?_; refine QC ?_; refine zp (Qf rfl rfl rfl 0 rfl _ (Q9 hx1') rfl) ?_
  refine Qx ?_; refine zp (Qf rfl rfl rfl 1 rfl _ (Xv hq2') rfl) ?_; refine Qx ?_
  refine zp (Qf rfl rfl rfl 1 rfl _ (Q9 hx2') rfl) ?_; refine Qx ?_; refine zp (Qf rfl rfl rfl 1 rfl _ (Q9 hy2') rfl) ?_
  refine zl ?_
  refine zp (Qb (ih q2 (by rw [hps]; simp) x2 y2 hx2 hy2 (sa.part x2 (by rw [hpa]; simp)) (sb.part y2 (by rw [hpb]; simp))) rfl rfl rfl) ?_
  refine zp (Kq rfl rfl rfl rfl (by exact rfl) (by decide) (by decide) (Qdj _ _)) ?_; refine zp (Ko rfl rfl rfl) ?_
  change Ql _ _ _ _ _ _; refine QC ?_; refine Qj ?_
  change (resY _ _).bind AV.fzt = some _
  refine Xs rfl ?_
  rw [hE]; rfl
 have hx : l.k = 7 → KA l.ps a.ps b.ps = none := fun _ => by rw [hps, hpa, hpb, KA, h162]; rfl
 refine Jf ?_; refine zP (Qb (QbU l hO a b ha hb) rfl rfl rfl) ?_; refine zT ?_
 refine zq ?_ ?_ <;> intro h186
 ·
  have h34 := h186
  refine QA ?_; refine Qj ?_
  change (resY _ _).bind AV.fzt = some _
  refine Xs rfl ?_
  rw [JB hk4 hk10 hk9 hk5 hk6 hx, if_pos h34]
 have h34 := h186
 refine QA ?_; refine zP (Qb (QbU l hO b a hb ha) rfl rfl rfl) ?_; refine zT ?_
 refine zq ?_ ?_ <;> intro h192
 ·
  have h36 := h192
  refine QA ?_; refine Qj ?_
  change (resY _ _).bind AV.fzt = some _
  refine Xs rfl ?_
  rw [JB hk4 hk10 hk9 hk5 hk6 hx, if_neg (by rw [h34]; decide), if_pos h36]
 have h36 := h192
 refine Xk ?_; refine Qj ?_
 change (resY _ _).bind AV.fzt = some _
 refine Xs rfl ?_
 rw [JB hk4 hk10 hk9 hk5 hk6 hx, if_neg (by rw [h34]; decide), if_neg (by rw [h36]; decide)]; rfl
theorem Qh7 (l : Qs) (hO : Ys l) (hJ : JoL l) (a b : Qt) (ha : Qv a l = true) (hb : Qv b l = true) (sa : Wc 500000 a) (sb : Wc 500000 b) : FC Tryz.prog 159 [.agg (QP l), .agg (QH a), .agg (QH b)] (.agg (QH (QD l a b))) := QnV l hO hJ (fun q hq x y hx hy sx sy => Qh7 q (hO.part q hq) (hJ.part q hq) x y hx hy sx sy) a b ha hb sa sb
termination_by l
decreasing_by exact Qs.sizeOf_ps ‹_›
end Go.Proofs.YtnkkokmmeplbgaaGreat
namespace Go.Proofs.YtnkkokmmeplbgaaGreat
open Go.RowKit
section
variable {q : Qs} {b : Qt} {x : Nm} {p y : Qt}
end
def KL (l : Qs) (vs : List Qt) : Qt := vs.foldl (QD l) (Qm l)
theorem Qhn {l : Qs} {vs : List Qt} {k : Nat} {x : Qt} (h : vs[k]? = some x) : KL l (vs.take (k + 1)) = QD l (KL l (vs.take k)) x := by
 unfold KL; rw [List.take_add_one, h]; simp
def K7 (l : Qs) (vs : List Qt) : Qt × Int := if J6 l vs = 0 then (KL l vs, 0) else (Qt.zero, J6 l vs)
def QjJ (l : Qs) (vs : List Qt) : Prop := JoL l ∧ (∀ v ∈ vs, Wc 500000 v) ∧ ∀ k, k ≤ vs.length → Qv (KL l (vs.take k)) l = true ∧ Wc 500000 (KL l (vs.take k))
theorem Qno {tt : TypeId} {v w : Qt} (h : v = w) : some (Qi.var tt (QH v)) = some (Qi.var tt (QH w)) := by rw [h]
inductive ChL : Qs → Prop
 | mk (l : Qs) (h : QK l = 0) (hp : ∀ p ∈ l.ps, ChL p) : ChL l
theorem ChL.ok {l : Qs} (h : ChL l) : QK l = 0 := by cases h; assumption
theorem ChL.part {l : Qs} (h : ChL l) : ∀ p ∈ l.ps, ChL p := by cases h; assumption
end Go.Proofs.YtnkkokmmeplbgaaGreat
namespace Go.Proofs.YtnkkokmmeplbgaaGreat
set_option maxRecDepth 100000
set_option maxHeartbeats 1000000
open Go.RowKit
theorem QhO (l : Qs) (vs : List Qt) (hF : J6 l vs = 0 → QjJ l vs) : FC Tryz.prog 127 [.agg (QP l), J8 vs] (.tup [.agg (QH (K7 l vs).1), i64 (K7 l vs).2]) := by
 refine X9 [.c 4 30 4 true, .t 5] ⟨⟨inferInstance, rfl⟩, trivial⟩ Tryz.func127 rfl rfl 32 Tryz.ntmps127 (Nat.le_of_ble_eq_true rfl) ?_
 intro E hN
 refine Jc ?_; refine zP (Qb (QeB l vs) rfl rfl rfl) ?_; refine Xj ?_
 refine zq ?_ ?_ <;> intro h7
 ·
  have h2 : ¬ J6 l vs = 0 := by simpa using h7
  refine Xj ?_; refine Qj ?_
  change (resY _ _).bind AV.fzt = some _
  refine Xs rfl ?_
  rw [K7, if_neg h2]; rfl
 have h2 : J6 l vs = 0 := by simpa using h7
 have hc := Qd5 h2
 have hbt : (J2 l).1 = Qm l := by rw [J2, if_pos hc.1]
 refine Qz ?_; refine zP (Qb (QkL l) rfl rfl rfl) ?_; refine Jc ?_
 refine Qo (fun x : {k : Nat // k ≤ (vs).length ∧ True} => ⟨[(2, .ptr 0 0), (4, .ptr 1 0), (7, .ptr 2 0), (19, J8 vs), (20, i64 vs.length), (21, i64 (x.1 : Nat))], [(0, .var 26 (QP l)), (1, .var 30 [i64 0, .p (.slice none 0 0), .p (.slice none 0 0), .p (.slice none 0 0)]), (2, .var 30 (QH (KL l (vs.take x.1))))], 3⟩) (fun x => (vs).length - x.1) (⟨0, Nat.zero_le _, by simp⟩) ?_ ?_
 ·
  exact Qa rfl (Yg ⟨(Xe (by simp)), rfl, (Xr trivial)⟩) ⟨rfl, rfl, rfl, rfl, rfl, rfl, (Qno (by rw [hbt]; rfl)), rfl, rfl, trivial⟩
 rintro ⟨k, hk, hg⟩
 dsimp only
 refine X7 19 rfl (fun hl19 => ?_)
 refine QA ?_
 refine zq ?_ ?_ <;> intro h21
 rotate_left
 ·
  have hge : (vs).length ≤ k := by simpa using h21
  rw [List.take_of_length_le hge]
  refine Qz ?_
  refine zP (Qb (Qel (KL l vs) (by have := ((hF h2).2.2 vs.length (Nat.le_refl _)).2; rw [List.take_length] at this; exact this.up (by decide))) rfl rfl rfl) ?_
  refine Qx ?_; refine Qj ?_
  change (resY _ _).bind AV.fzt = some _
  refine Xs rfl ?_
  rw [K7, if_pos h2]
 have hlt : k < (vs).length := by simpa using h21
 obtain ⟨x, hx⟩ := Qr hlt
 refine QA ?_; refine zP (Qf rfl rfl rfl k rfl _ (Q9 hx) rfl) ?_; refine Jf ?_
 refine zP (Qb (Qh7 l (Xg hc.1) (hF h2).1 (KL l (vs.take k)) x ((hF h2).2.2 k hk).1 (hc.2 x (List.mem_of_getElem? hx)) ((hF h2).2.2 k hk).2 ((hF h2).2.1 x (List.mem_of_getElem? hx))) rfl rfl rfl) ?_
 refine QA ?_; refine Qc ?_
 exact ⟨⟨k + 1, hlt, trivial⟩, Qa rfl (Yg (Xr ⟨(Xe (by dsimp only; omega)), rfl, trivial⟩)) ⟨rfl, rfl, rfl, rfl, rfl, rfl, (Qno (Qhn hx).symm), rfl, rfl, trivial⟩, by dsimp only; omega⟩
end Go.Proofs.YtnkkokmmeplbgaaGreat
