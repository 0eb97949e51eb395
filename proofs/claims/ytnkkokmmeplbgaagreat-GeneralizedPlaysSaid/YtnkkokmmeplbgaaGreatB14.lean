/-
  Contracts: Join, JoinAll, Meet, Comparable, Maximal.
-/
import Derived.Test.YtnkkokmmeplbgaaGreatB10
import Derived.Test.YtnkkokmmeplbgaaGreatA4
import Derived.Test.YtnkkokmmeplbgaaGreatB11
import Derived.Test.YtnkkokmmeplbgaaGreatB1
namespace Go.Proofs.YtnkkokmmeplbgaaGreat
set_option maxRecDepth 100000
set_option maxHeartbeats 1000000
open Go.RowKit
theorem Qsn {l : List En} {k : Nat} {x : En} (h : l[k]? = some x) : ((l.take k).map K3) ++ JI 2 1 (K3 x) = ((l.take (k + 1)).map K3) := by
 rw [Qqm, List.take_add_one, h]; simp
theorem cgE {tt : TypeId} {a b d : AV} {es es' : List (List AV)} {tk : Option Nat} (h : es = es') : some (Qs.var tt [a, b, d, .sl es tk]) = some (Qs.var tt [a, b, d, .sl es' tk]) := by rw [h]
theorem QpT (v : Qp) (h1 : v.nm.length ≤ 1000000) (h2 : v.ps.length ≤ 1000000) (h3 : v.es.length ≤ 1000000) (h4 : ∀ e ∈ v.es, e.1.length ≤ 64) (ih : ∀ p ∈ v.ps, FC Tryz.prog 160 [.agg (QF p)] (.agg (QF p))) : FC Tryz.prog 160 [.agg (QF v)] (.agg (QF v)) := by
 refine Ju [.c 2 30 4 true] ⟨⟨inferInstance, rfl⟩, trivial⟩ Tryz.func160 rfl rfl 49 Tryz.ntmps160 (Nat.le_of_ble_eq_true rfl) ?_
 intro E hN;refine Xk ?_;refine Qdz [0, 1, 2, 3, 4, 5] 6 [7] rfl (by kernel_rfl) (by kernel_rfl) ?_;refine QC ?_;refine zp (Qd (Qmw v.nm h1) rfl rfl rfl) ?_;refine zp (Kf rfl rfl rfl) ?_;change FK _ _ _ _ _ _;refine QeE hN rfl rfl rfl rfl rfl rfl rfl ?_;change Q3 _ _ _ _ _ _;refine Xn ?_;refine Qx (Yh rfl 2 2 30 4 rfl rfl rfl) ?_
 refine Qm (fun x : {k : Nat // k ≤ (v.ps).length ∧ True} => ⟨[(1, .ptr 0 0), (2, .ptr 1 0), (3, .ptr 2 0), (15, Y8 v.ps), (16, i64 v.ps.length), (17, i64 (x.1 : Nat))], [(0, .var 30 (QF v)), (1, .var 30 [i64 0, .p (.slice none 0 0), .p (.slice none 0 0), .p (.slice none 0 0)]), (2, .var 30 [i64 v.N, XS v.nm, .sl ((v.ps.take x.1).map KV) (some 3), .p (.slice none 0 0)]), (3, .tok 30 4 ((v.ps.take x.1).map KV).length)], 4⟩) (fun x => (v.ps).length - x.1) (⟨0, Nat.zero_le _, by simp⟩) ?_ ?_
 ·exact Qa rfl (YO ⟨(Y6 (by simp)), rfl, (XE trivial)⟩) ⟨rfl, rfl, rfl, rfl, rfl, rfl, rfl, rfl, rfl, rfl, rfl, rfl, trivial⟩
 rintro ⟨k, hk, hg⟩;dsimp only;refine Qy ?_
 refine zq ?_ ?_ <;> intro h21
 ·have hlt : k < (v.ps).length := by simpa using h21
  obtain ⟨x, hx⟩ := Qq hlt;refine Qy ?_;refine zP (Qf rfl rfl rfl k rfl _ (QR hx) rfl) ?_;refine QC ?_;refine zD 5 ?_;refine QD ?_;refine zp (Qd (ih x (List.mem_of_getElem? hx)) rfl rfl rfl) ?_;refine zp (QG rfl rfl rfl rfl (by exact rfl) (by decide) (by decide)) ?_;refine QM hN rfl rfl rfl (by simp) rfl rfl (QP Y7 _) rfl (by simp [XM]; omega) rfl rfl rfl rfl ?_;refine Xk ?_;refine Qb ?_
  exact ⟨⟨k + 1, hlt, trivial⟩, Qa rfl (YO (XE ⟨X5, rfl, trivial⟩)) ⟨rfl, rfl, rfl, rfl, rfl, rfl, (cgV (Qjd hx)), rfl, rfl, (cgT (by simp [XM]; omega)), rfl, rfl, trivial⟩, by dsimp only; omega⟩
 have hge : (v.ps).length ≤ k := by simpa using h21
 rw [List.take_of_length_le hge];refine Xs ?_;refine Qx (Yh rfl 2 3 149 2 rfl rfl rfl) ?_
 refine Qm (fun x : {k : Nat // k ≤ (v.es).length ∧ True} => ⟨[(2, .ptr 1 0), (3, .ptr 2 0), (30, WA v.es), (31, i64 v.es.length), (32, i64 (x.1 : Nat))], [(1, .var 30 [i64 0, .p (.slice none 0 0), .p (.slice none 0 0), .p (.slice none 0 0)]), (2, .var 30 [i64 v.N, XS v.nm, .sl (v.ps.map KV) (some 3), .sl ((v.es.take x.1).map K3) (some 4)]), (4, .tok 149 2 ((v.es.take x.1).map K3).length)], 5⟩) (fun x => (v.es).length - x.1) (⟨0, Nat.zero_le _, by simp⟩) ?_ ?_
 ·exact Qa rfl (JZ ⟨(Y6 (by simp)), rfl, (XE trivial)⟩) ⟨rfl, rfl, rfl, rfl, rfl, rfl, rfl, rfl, rfl, trivial⟩
 rintro ⟨k, hk, hg⟩;dsimp only;refine Qy ?_
 refine zq ?_ ?_ <;> intro h43
 rotate_left
 ·have hge : (v.es).length ≤ k := by simpa using h43
  rw [List.take_of_length_le hge];refine Xk ?_;refine Qg ?_;change (resY _ _).bind AV.fzt = some _;refine Xm rfl ?_
  rfl
 have hlt : k < (v.es).length := by simpa using h43
 obtain ⟨x, hx⟩ := Qq hlt;refine Qy ?_;refine zP (Qf rfl rfl rfl k rfl _ (Qi hx) rfl) ?_;refine QC ?_;refine zD 9 ?_;refine QC ?_;refine zp (Qd (QmI x.1 (by have := h4 x (List.mem_of_getElem? hx); omega)) rfl rfl rfl) ?_;refine QH ?_;refine zp (Kf rfl rfl rfl) ?_;refine zp (QG rfl rfl rfl rfl (by exact rfl) (by decide) (by decide)) ?_;refine QM hN rfl rfl rfl (by simp) rfl rfl (QP Qef _) rfl (by simp [Xe]; omega) rfl rfl rfl rfl ?_;refine Xk ?_;refine Qb ?_
 exact ⟨⟨k + 1, hlt, trivial⟩, Qa rfl (YO ⟨X5, rfl, trivial⟩) ⟨rfl, rfl, rfl, (cgE (Qsn hx)), rfl, rfl, (cgT (by simp [Xe]; omega)), rfl, rfl, trivial⟩, by dsimp only; omega⟩
theorem Qis (v : Qp) (h : SmV 1000000 v) : FC Tryz.prog 160 [.agg (QF v)] (.agg (QF v)) := QpT v h.nm h.ps h.es h.en (fun p hp => Qis p (h.part p hp))
termination_by v
decreasing_by exact Qp.sizeOf_ps ‹_›
inductive JoL : Qv → Prop
 | mk (l : Qv) (h : l.k = 10 → ∀ s, Qt s = true → (∀ x ∈ s, x ∈ l.nm) → FC Tryz.prog 195 [XS l.nm, rus l.rs, XS s] (.tup [XS (KG l.nm l.rs s), i64 0])) (hp : ∀ p ∈ l.ps, JoL p) : JoL l
theorem JoL.close {l : Qv} (h : JoL l) : l.k = 10 → ∀ s, Qt s = true → (∀ x ∈ s, x ∈ l.nm) → FC Tryz.prog 195 [XS l.nm, rus l.rs, XS s] (.tup [XS (KG l.nm l.rs s), i64 0]) := by cases h; assumption
theorem JoL.part {l : Qv} (h : JoL l) : ∀ p ∈ l.ps, JoL p := by cases h; assumption
theorem Qo4 {l : Qv} (hO : YM l) (hk : l.k = 10) : l.nm ≠ [] := by
 have h := hO.shape
 unfold Xr at h
 rw [if_pos (by rw [hk]; decide)] at h;intro e;rw [show YF l = true by unfold YF; rw [hk, e]; rfl, Bool.or_true] at h
 simp [Yb] at h
theorem Qcg {l : Qv} {v : Qp} (hO : YM l) (hk : l.k = 10) (hv : Qw v l = true) : ∀ s ∈ v.nm, s ∈ l.nm := fun s hs => by
 obtain ⟨-, -, -, -, h, -⟩ := Ks hv (.inr hk)
 have h1 := h s hs
 have h2 : ((l.nm.length : Int) > 0) := by
  have := List.length_pos_iff.2 (Qo4 hO hk)
  omega
 simp only [YE, h2, decide_true, Bool.true_and, Bool.and_eq_true, Bool.not_eq_true', Bool.not_eq_false'] at h1
 exact Yn.1 (by simpa using h1.2)
theorem YK {l : Qv} {a b : Qp} (h4 : l.k ≠ 4) (h10 : l.k ≠ 10) (h9 : l.k ≠ 9) (h5 : l.k ≠ 5) (h6 : l.k ≠ 6) (hx : l.k = 7 → Qaa l.ps a.ps b.ps = none) :
  Qk l a b = if QJ l a b then b else if QJ l b a then a else .mk 2 [] [] [] := by
 rw [X9]
 simp only [beq_eq_false_iff_ne.2 h4, beq_eq_false_iff_ne.2 h10, beq_eq_false_iff_ne.2 h9, beq_eq_false_iff_ne.2 h5, beq_eq_false_iff_ne.2 h6, Bool.false_eq_true, if_false]
 by_cases h7 : l.k = 7
 ·rw [if_pos (beq_iff_eq.2 h7), hx h7]
 rw [if_neg (by simpa using h7)]
section
variable {a b : Qp} {q : Qv} {x : Nm}
theorem Qfa {v : Qp} (hl : v.nm.length = v.ps.length) (h : decide (Xu x v.nm 0 < 0) = false) : ∃ (i : Nat) (y : Qp), Xu x v.nm 0 = (i : Int) ∧ v.ps[i]? = some y ∧ XB v x = some y := by
 rcases QbO x v.nm 0 with h1 | ⟨j, -, h2, h3⟩
 ·rw [h1] at h; cases h
 obtain ⟨y, hy⟩ := Qq (show j < v.ps.length by omega);exact ⟨j, y, h3, hy, Qbs h3 hy⟩
theorem jc_b (hm : x ∈ a.nm ∨ x ∈ b.nm) (h : decide (Xu x a.nm 0 < 0) = true) (lb : b.nm.length = b.ps.length) : ∃ (j : Nat) (y : Qp), Xu x b.nm 0 = (j : Int) ∧ b.ps[j]? = some y ∧ Yc q a b x = y := by
 have h0 := of_decide_eq_true h
 have hb : x ∈ b.nm := by
  rcases hm with hm | hm
  ·have := Qds x a.nm 0
   rw [Yn.2 hm] at this
   have := of_decide_eq_true this
   omega
  exact hm
 have h1 : decide (Xu x b.nm 0 < 0) = false := by
  have := Qds x b.nm 0
  rw [Yn.2 hb] at this
  have := of_decide_eq_true this
  exact decide_eq_false (by omega)
 obtain ⟨j, y, g1, g2, g3⟩ := Qfa lb h1;exact ⟨j, y, g1, g2, QvR (QaB h0) g3⟩
theorem jc_a (h1 : decide (Xu x a.nm 0 < 0) = false) (h2 : decide (Xu x b.nm 0 < 0) = true) (la : a.nm.length = a.ps.length) : ∃ (j : Nat) (y : Qp), Xu x a.nm 0 = (j : Int) ∧ a.ps[j]? = some y ∧ Yc q a b x = y := by
 obtain ⟨j, y, g1, g2, g3⟩ := Qfa la h1;exact ⟨j, y, g1, g2, Qv9 g3 (QaB (of_decide_eq_true h2))⟩
theorem jc_2 (h1 : decide (Xu x a.nm 0 < 0) = false) (h2 : decide (Xu x b.nm 0 < 0) = false) (la : a.nm.length = a.ps.length) (lb : b.nm.length = b.ps.length) :
  ∃ (i : Nat) (x1 : Qp) (j : Nat) (y : Qp), Xu x a.nm 0 = (i : Int) ∧ a.ps[i]? = some x1 ∧ Xu x b.nm 0 = (j : Int) ∧ b.ps[j]? = some y ∧ Yc q a b x = Qk q x1 y := by
 obtain ⟨i, x1, g1, g2, g3⟩ := Qfa la h1;obtain ⟨j, y, k1, k2, k3⟩ := Qfa lb h2;exact ⟨i, x1, j, y, g1, g2, k1, k2, Qwi g3 k3⟩
end
theorem Qu3 (l : Qv) (hO : YM l) (hJ : JoL l) (ih : ∀ q ∈ l.ps, ∀ x y, Qw x q = true → Qw y q = true → SmV 500000 x → SmV 500000 y → FC Tryz.prog 159 [.agg (Q2 q), .agg (QF x), .agg (QF y)] (.agg (QF (Qk q x y)))) (a b : Qp) (ha : Qw a l = true) (hb : Qw b l = true) (sa : SmV 500000 a) (sb : SmV 500000 b) : FC Tryz.prog 159 [.agg (Q2 l), .agg (QF a), .agg (QF b)] (.agg (QF (Qk l a b))) := by
 have na := sa.nm
 have nb := sb.nm
 have nea := sa.es
 have neb := sb.es
 have npl := hO.small
 refine Ju [.c 6 30 4 true] ⟨⟨inferInstance, rfl⟩, trivial⟩ Tryz.func159 rfl rfl 195 Tryz.ntmps159 (Nat.le_of_ble_eq_true rfl) ?_
 intro E hN;refine Qes ?_
 refine zq ?_ ?_ <;> intro h10
 ·have hk : l.k = 4 := by simpa using h10
  obtain ⟨-, -, -, hsa, -, -⟩ := Ks ha (.inl hk);obtain ⟨-, -, -, hsb, -, -⟩ := Ks hb (.inl hk)
  have hE : Qk l a b = .mk 0 (K6 a.nm b.nm) [] [] := by rw [X9, hk]; rfl
  refine Xk ?_;refine zP (Qd (QhD _ _ hsa hsb (by omega)) rfl rfl rfl) ?_;refine QD ?_;refine Qg ?_;change (resY _ _).bind AV.fzt = some _;refine Xm rfl ?_
  rw [hE]; rfl
 have hk4 : l.k ≠ 4 := by simpa using h10
 refine Qy ?_
 refine zq ?_ ?_ <;> intro h18
 ·have hk : l.k = 10 := by simpa using h18
  obtain ⟨-, -, -, hsa, -, -⟩ := Ks ha (.inr hk);obtain ⟨-, -, -, hsb, -, -⟩ := Ks hb (.inr hk)
  have hE : Qk l a b = .mk 0 (KG l.nm l.rs (K6 a.nm b.nm)) [] [] := by rw [X9, hk]; rfl
  refine JB ?_;refine zD 14 ?_;refine Xo ?_;refine zp (Qd (QhD _ _ hsa hsb (by omega)) rfl rfl rfl) ?_
  refine Qbl hN (Qd (hJ.close hk _ (Qag hsa hsb) (fun x hx => by
     rcases (WZ hsa hsb).1 hx with hx | hx
     ·exact Qcg hO hk ha x hx
     exact Qcg hO hk hb x hx)) rfl rfl rfl) rfl rfl rfl rfl ?_
  refine QD ?_;refine zp (JC rfl rfl) ?_;refine Xo ?_;refine Qg ?_;change (resY _ _).bind AV.fzt = some _;refine Xm rfl ?_
  rw [hE]; rfl
 have hk10 : l.k ≠ 10 := by simpa using h18
 refine Qy ?_
 refine zq ?_ ?_ <;> intro h33
 ·have hk : l.k = 9 := by simpa using h33
  have hE : Qk l a b = .mk 0 [] [] (JE a.es b.es) := by rw [X9, hk]; rfl
  refine Xk ?_;refine zP (Qd (QoA _ _ (by omega)) rfl rfl rfl) ?_;refine QD ?_;refine Qg ?_;change (resY _ _).bind AV.fzt = some _;refine Xm rfl ?_
  rw [hE]; rfl
 have hk9 : l.k ≠ 9 := by simpa using h33
 refine Qy ?_
 refine zq ?_ ?_ <;> intro h41
 ·have hk : l.k = 5 := by simpa using h41
  obtain ⟨q, hps⟩ := Qax hO hk
  have hq0 : l.ps[0]? = some q := by rw [hps]; rfl
  obtain ⟨-, -, hla, hsa, -, hea⟩ := Kc ha hk hps;obtain ⟨-, -, hlb, hsb, -, heb⟩ := Kc hb hk hps
  have hul := Qey hsa hsb
  have hE : Qk l a b = .mk 0 (K6 a.nm b.nm) ((K6 a.nm b.nm).map (Yc q a b)) [] := by rw [X9, hk, hps, QdF]; rfl
  refine Xs ?_;refine zP (Qd (QhD _ _ hsa hsb (by omega)) rfl rfl rfl) ?_;refine Jx ?_;refine Qx (Yh rfl 4 2 30 4 rfl rfl rfl) ?_
  refine Qm (fun x : {k : Nat // k ≤ (K6 a.nm b.nm).length ∧ True} => ⟨[(3, .ptr 0 0), (4, .ptr 1 0), (5, .ptr 2 0), (6, .ptr 3 0), (9, .ptr 4 0), (61, XS (K6 a.nm b.nm)), (62, i64 (K6 a.nm b.nm).length), (63, i64 (x.1 : Nat))], [(0, .var 26 (Q2 l)), (1, .var 30 (QF a)), (2, .var 30 (QF b)), (3, .var 30 [i64 0, .p (.slice none 0 0), .p (.slice none 0 0), .p (.slice none 0 0)]), (4, .var 30 [i64 0, XS (K6 a.nm b.nm), .sl ((((K6 a.nm b.nm).take x.1).map (Yc q a b)).map KV) (some 5), .p (.slice none 0 0)]), (5, .tok 30 4 ((((K6 a.nm b.nm).take x.1).map (Yc q a b)).map KV).length)], 6⟩) (fun x => (K6 a.nm b.nm).length - x.1) (⟨0, Nat.zero_le _, by simp⟩) ?_ ?_
  ·exact Qa rfl (YO (Yf ⟨(Y6 (by simp)), rfl, (XE trivial)⟩)) ⟨rfl, rfl, rfl, rfl, rfl, rfl, rfl, rfl, rfl, rfl, rfl, rfl, rfl, rfl, rfl, rfl, rfl, rfl, trivial⟩
  rintro ⟨k, hk, hg⟩;dsimp only;refine Qy ?_
  refine zq ?_ ?_ <;> intro h61
  rotate_left
  ·have hge : (K6 a.nm b.nm).length ≤ k := by simpa using h61
   rw [List.take_of_length_le hge];refine Xk ?_;refine Qg ?_;change (resY _ _).bind AV.fzt = some _;refine Xm rfl ?_
   rw [hE]; rfl
  have hlt : k < (K6 a.nm b.nm).length := by simpa using h61
  obtain ⟨x, hx⟩ := Qq hlt
  have hxm := (WZ hsa hsb).1 (List.mem_of_getElem? hx)
  refine Qy ?_;refine zP (Qf rfl rfl rfl k rfl _ (Qi hx) rfl) ?_;refine QC ?_;refine zD 9 ?_;refine QD ?_;refine zp (Qd (Qel _ _) rfl rfl rfl) ?_;refine QD ?_;refine zp (Qd (Qel _ _) rfl rfl rfl) ?_;refine zp (JC rfl rfl) ?_;refine X3 ?_
  refine zq ?_ ?_ <;> intro h70
  ·obtain ⟨j, y, hj, hy, hF⟩ := jc_b (q := q) hxm h70 hlb;refine zD 8 ?_;refine Qy ?_;refine zp (Qf rfl rfl rfl j hj _ (QR hy) rfl) ?_;refine zl ?_;refine zp (QG rfl rfl rfl rfl (by exact rfl) (by decide) (by decide)) ?_;refine QM hN rfl rfl rfl (by simp) rfl rfl (QP Y7 _) rfl (by simp [XM]; omega) rfl rfl rfl rfl ?_;refine Xk ?_;refine Qb ?_
   exact ⟨⟨k + 1, hlt, trivial⟩, Qa rfl (YO (JZ ⟨X5, rfl, trivial⟩)) ⟨rfl, rfl, rfl, rfl, rfl, rfl, rfl, rfl, rfl, rfl, rfl, rfl, (cgV (QjT hx hF)), rfl, rfl, (cgT (by simp [XM]; omega)), rfl, rfl, trivial⟩, by dsimp only; omega⟩
  have h17 := h70
  refine Xk ?_
  refine zq ?_ ?_ <;> intro h82
  ·obtain ⟨i, x1, hi, hx1, hF⟩ := jc_a (q := q) h17 h82 hla;refine zD 8 ?_;refine Qy ?_;refine zp (Qf rfl rfl rfl i hi _ (QR hx1) rfl) ?_;refine zl ?_;refine zp (QG rfl rfl rfl rfl (by exact rfl) (by decide) (by decide)) ?_;refine QM hN rfl rfl rfl (by simp) rfl rfl (QP Y7 _) rfl (by simp [XM]; omega) rfl rfl rfl rfl ?_;refine Xk ?_;refine Qb ?_
   exact ⟨⟨k + 1, hlt, trivial⟩, Qa rfl (YO (JZ ⟨X5, rfl, trivial⟩)) ⟨rfl, rfl, rfl, rfl, rfl, rfl, rfl, rfl, rfl, rfl, rfl, rfl, (cgV (QjT hx hF)), rfl, rfl, (cgT (by simp [XM]; omega)), rfl, rfl, trivial⟩, by dsimp only; omega⟩
  obtain ⟨i, x1, j, y, hi, hx1, hj, hy, hF⟩ := jc_2 (q := q) h17 h82 hla hlb;refine zD 18 ?_;refine QC ?_;refine zp (Qf rfl rfl rfl 0 rfl _ (XK hq0) rfl) ?_;refine QC ?_;refine zp (Qf rfl rfl rfl i hi _ (QR hx1) rfl) ?_;refine QC ?_;refine zp (Qf rfl rfl rfl j hj _ (QR hy) rfl) ?_;refine zl ?_;refine zp (Qd (ih q (by rw [hps]; simp) x1 y (hea x1 (List.mem_of_getElem? hx1)).1 (heb y (List.mem_of_getElem? hy)).1 (sa.part x1 (List.mem_of_getElem? hx1)) (sb.part y (List.mem_of_getElem? hy))) rfl rfl rfl) ?_
  refine zp (QG rfl rfl rfl rfl (by exact rfl) (by decide) (by decide)) ?_;refine QM hN rfl rfl rfl (by simp) rfl rfl (QP Y7 _) rfl (by simp [XM]; omega) rfl rfl rfl rfl ?_;refine Xk ?_;refine Qb ?_;exact ⟨⟨k + 1, hlt, trivial⟩, Qa rfl (YO (JZ ⟨X5, rfl, trivial⟩)) ⟨rfl, rfl, rfl, rfl, rfl, rfl, rfl, rfl, rfl, rfl, rfl, rfl, (cgV (QjT hx hF)), rfl, rfl, (cgT (by simp [XM]; omega)), rfl, rfl, trivial⟩, by dsimp only; omega⟩
 have hk5 : l.k ≠ 5 := by simpa using h41
 refine Qy ?_
 refine zq ?_ ?_ <;> intro h116
 ·have hk : l.k = 6 := by simpa using h116
  obtain ⟨-, -, -, hla, hza⟩ := Ye ha (.inl hk);obtain ⟨-, -, -, hlb, hzb⟩ := Ye hb (.inl hk)
  have hjl := QgA hla hlb
  have hE : Qk l a b = .mk 0 [] (Qac l.ps a.ps b.ps) [] := by rw [X9, hk]; rfl
  refine WV ?_;refine Qx (Yh rfl 4 2 30 4 rfl rfl rfl) ?_
  refine Qm (fun x : {k : Nat // k ≤ (l.ps).length ∧ True} => ⟨[(3, .ptr 0 0), (4, .ptr 1 0), (5, .ptr 2 0), (6, .ptr 3 0), (14, .ptr 4 0), (126, Qkk l.ps), (127, i64 l.ps.length), (128, i64 (x.1 : Nat))], [(0, .var 26 (Q2 l)), (1, .var 30 (QF a)), (2, .var 30 (QF b)), (3, .var 30 [i64 0, .p (.slice none 0 0), .p (.slice none 0 0), .p (.slice none 0 0)]), (4, .var 30 [i64 0, .p (.slice none 0 0), .sl (((Qac l.ps a.ps b.ps).take x.1).map KV) (some 5), .p (.slice none 0 0)]), (5, .tok 30 4 (((Qac l.ps a.ps b.ps).take x.1).map KV).length)], 6⟩) (fun x => (l.ps).length - x.1) (⟨0, Nat.zero_le _, by simp⟩) ?_ ?_
  ·exact Qa rfl (YO (Yf ⟨(Y6 (by simp)), rfl, (XE trivial)⟩)) ⟨rfl, rfl, rfl, rfl, rfl, rfl, rfl, rfl, rfl, rfl, rfl, rfl, rfl, rfl, rfl, rfl, rfl, rfl, trivial⟩
  rintro ⟨k, hk, hg⟩;dsimp only;refine Qy ?_
  refine zq ?_ ?_ <;> intro h129
  rotate_left
  ·have hge : (l.ps).length ≤ k := by simpa using h129
   rw [List.take_of_length_le (by rw [hjl]; exact hge)];refine Xk ?_;refine Qg ?_;change (resY _ _).bind AV.fzt = some _;refine Xm rfl ?_
   rw [hE]; rfl
  have hlt : k < l.ps.length := by simpa using h129
  obtain ⟨q, hq⟩ := Qq hlt;obtain ⟨x, hx⟩ := Qq (show k < a.ps.length by omega);obtain ⟨y, hy⟩ := Qq (show k < b.ps.length by omega);refine Xk ?_;refine zP (Qf rfl rfl rfl k rfl _ (XK hq) rfl) ?_;refine Qy ?_;refine zD 15 ?_;refine Xk ?_;refine zp (Qf rfl rfl rfl k rfl _ (QR hx) rfl) ?_;refine QC ?_;refine zp (Qf rfl rfl rfl k rfl _ (QR hy) rfl) ?_;refine zl ?_;refine zp (Qd (ih q (List.mem_of_getElem? hq) x y (Jd hza hx hq) (Jd hzb hy hq) (sa.part x (List.mem_of_getElem? hx)) (sb.part y (List.mem_of_getElem? hy))) rfl rfl rfl) ?_
  refine zp (QG rfl rfl rfl rfl (by exact rfl) (by decide) (by decide)) ?_;refine QM hN rfl rfl rfl (by simp) rfl rfl (QP Y7 _) rfl (by simp [XM]; omega) rfl rfl rfl rfl ?_;refine Xk ?_;refine Qb ?_;exact ⟨⟨k + 1, hlt, trivial⟩, Qa rfl (YO (JZ ⟨X5, rfl, trivial⟩)) ⟨rfl, rfl, rfl, rfl, rfl, rfl, rfl, rfl, rfl, rfl, rfl, rfl, (cgV (Qjd (Qhn hq hx hy))), rfl, rfl, (cgT (by simp [XM]; omega)), rfl, rfl, trivial⟩, by dsimp only; omega⟩
 have hk6 : l.k ≠ 6 := by simpa using h116
 refine Qy ?_
 refine zq ?_ ?_ <;> intro h153
 rotate_left
 ·have hx : l.k = 7 → Qaa l.ps a.ps b.ps = none := fun e => absurd e (by simpa using h153)
  refine Xo ?_;refine zP (Qd (Qfy l hO a b ha hb) rfl rfl rfl) ?_;refine zT ?_
  refine zq ?_ ?_ <;> intro h200
  ·have h34 := h200
   refine Qy ?_;refine Qg ?_;change (resY _ _).bind AV.fzt = some _;refine Xm rfl ?_;rw [YK hk4 hk10 hk9 hk5 hk6 hx, if_pos h34]
  have h34 := h200
  refine Qy ?_;refine zP (Qd (Qfy l hO b a hb ha) rfl rfl rfl) ?_;refine zT ?_
  refine zq ?_ ?_ <;> intro h206
  ·have h36 := h206
   refine Qy ?_;refine Qg ?_;change (resY _ _).bind AV.fzt = some _;refine Xm rfl ?_;rw [YK hk4 hk10 hk9 hk5 hk6 hx, if_neg (by rw [h34]; decide), if_pos h36]
  have h36 := h206
  refine Xk ?_;refine Qg ?_;change (resY _ _).bind AV.fzt = some _;refine Xm rfl ?_
  rw [YK hk4 hk10 hk9 hk5 hk6 hx, if_neg (by rw [h34]; decide), if_neg (by rw [h36]; decide)]; rfl
 have hk : l.k = 7 := by simpa using h153
 obtain ⟨q1, q2, hps⟩ := KI hO.shape hk;obtain ⟨x1, x2, hpa, hx1, hx2⟩ := Yw ha hk hps;obtain ⟨y1, y2, hpb, hy1, hy2⟩ := Yw hb hk hps
 have hq2' : l.ps[1]? = some q2 := by rw [hps]; rfl
 have hx1' : a.ps[0]? = some x1 := by rw [hpa]; rfl
 have hx2' : a.ps[1]? = some x2 := by rw [hpa]; rfl
 have hy1' : b.ps[0]? = some y1 := by rw [hpb]; rfl
 have hy2' : b.ps[1]? = some y2 := by rw [hpb]; rfl
 refine JB ?_;refine zD 8 ?_;refine QH ?_;refine zp (Qf rfl rfl rfl 0 rfl _ (QR hx1') rfl) ?_;refine QD ?_;refine zp (Qf rfl rfl rfl 0 rfl _ (QR hy1') rfl) ?_;refine zl ?_;refine zP (Qd (Qfu _ _) rfl rfl rfl) ?_;refine zN ?_
 refine zq ?_ ?_ <;> intro h162
 ·have hE : Qk l a b = .mk 0 [] [x1, Qk q2 x2 y2] [] := by rw [X9, hk, hps, hpa, hpb]; simp [Qaa, h162]
  refine JB ?_;refine zD 19 ?_;refine QH ?_;refine zp (Qf rfl rfl rfl 0 rfl _ (QR hx1') rfl) ?_;refine QD ?_;refine zp (Qf rfl rfl rfl 1 rfl _ (XK hq2') rfl) ?_;refine QD ?_;refine zp (Qf rfl rfl rfl 1 rfl _ (QR hx2') rfl) ?_;refine QD ?_;refine zp (Qf rfl rfl rfl 1 rfl _ (QR hy2') rfl) ?_;refine zl ?_;refine zp (Qd (ih q2 (by rw [hps]; simp) x2 y2 hx2 hy2 (sa.part x2 (by rw [hpa]; simp)) (sb.part y2 (by rw [hpb]; simp))) rfl rfl rfl) ?_;refine zp (J7 rfl rfl rfl rfl (by exact rfl) (by decide) (by decide) (QaI _ _)) ?_
  refine zp (Kf rfl rfl rfl) ?_;refine QH ?_;refine Qg ?_;change (resY _ _).bind AV.fzt = some _;refine Xm rfl ?_
  rw [hE]; rfl
 have hx : l.k = 7 → Qaa l.ps a.ps b.ps = none := fun _ => by rw [hps, hpa, hpb, Qaa, h162]; rfl
 refine Xo ?_;refine zP (Qd (Qfy l hO a b ha hb) rfl rfl rfl) ?_;refine zT ?_
 refine zq ?_ ?_ <;> intro h186
 ·have h34 := h186
  refine Qy ?_;refine Qg ?_;change (resY _ _).bind AV.fzt = some _;refine Xm rfl ?_;rw [YK hk4 hk10 hk9 hk5 hk6 hx, if_pos h34]
 have h34 := h186
 refine Qy ?_;refine zP (Qd (Qfy l hO b a hb ha) rfl rfl rfl) ?_;refine zT ?_
 refine zq ?_ ?_ <;> intro h192
 ·have h36 := h192
  refine Qy ?_;refine Qg ?_;change (resY _ _).bind AV.fzt = some _;refine Xm rfl ?_;rw [YK hk4 hk10 hk9 hk5 hk6 hx, if_neg (by rw [h34]; decide), if_pos h36]
 have h36 := h192
 refine Xk ?_;refine Qg ?_;change (resY _ _).bind AV.fzt = some _;refine Xm rfl ?_
 rw [YK hk4 hk10 hk9 hk5 hk6 hx, if_neg (by rw [h34]; decide), if_neg (by rw [h36]; decide)]; rfl
theorem Qno (l : Qv) (hO : YM l) (hJ : JoL l) (a b : Qp) (ha : Qw a l = true) (hb : Qw b l = true) (sa : SmV 500000 a) (sb : SmV 500000 b) : FC Tryz.prog 159 [.agg (Q2 l), .agg (QF a), .agg (QF b)] (.agg (QF (Qk l a b))) := Qu3 l hO hJ (fun q hq x y hx hy sx sy => Qno q (hO.part q hq) (hJ.part q hq) x y hx hy sx sy) a b ha hb sa sb
termination_by l
decreasing_by exact Qv.sizeOf_ps ‹_›
end Go.Proofs.YtnkkokmmeplbgaaGreat
namespace Go.Proofs.YtnkkokmmeplbgaaGreat
open Go.RowKit
mutual
def Qcw : Qv → Qp → Qp → Qp
 | .mk k lo hi nm ps rs, a, b =>
  if k == 4 || k == 10 then .mk 0 (itr a.nm b.nm) [] []
  else if k == 5 then .mk 0 ((Qh4 ps (a.nm.zip a.ps) b).map Prod.fst) ((Qh4 ps (a.nm.zip a.ps) b).map Prod.snd) []
  else if k == 6 then .mk 0 [] (QdU ps a.ps b.ps) []
  else match (if k == 7 then QiJ ps a.ps b.ps else none) with
   | some v => v
   | none => if QJ (.mk k lo hi nm ps rs) a b then a else if QJ (.mk k lo hi nm ps rs) b a then b else Qp.zero
def Qh4 : List Qv → List (Nm × Qp) → Qp → List (Nm × Qp)
 | [], _, _ => []
 | q :: _, l, b => l.filterMap fun x => match XB b x.1 with
  | none => none
  | some y => if WH (Qcw q x.2 y) (YC q).1 then none else some (x.1, Qcw q x.2 y)
def QdU : List Qv → List Qp → List Qp → List Qp
 | q :: r, x :: a, y :: b => Qcw q x y :: QdU r a b
 | _, _, _ => []
def QiJ : List Qv → List Qp → List Qp → Option Qp
 | [_, q], [x1, x2], [y1, y2] => if WH x1 y1 then some (.mk 0 [] [x1, Qcw q x2 y2] []) else none
 | _, _, _ => none
end
def QdO (q : Qv) (b : Qp) (x : Nm × Qp) : Option (Nm × Qp) := match XB b x.1 with
 | none => none
 | some y => if WH (Qcw q x.2 y) (YC q).1 then none else some (x.1, Qcw q x.2 y)
theorem Qot (q : Qv) (r : List Qv) (l : List (Nm × Qp)) (b : Qp) : Qh4 (q :: r) l b = l.filterMap (QdO q b) := by rw [Qh4]; rfl
theorem Qb0 (l : Qv) (a b : Qp) : Qcw l a b =
  if l.k == 4 || l.k == 10 then .mk 0 (itr a.nm b.nm) [] []
  else if l.k == 5 then .mk 0 ((Qh4 l.ps (a.nm.zip a.ps) b).map Prod.fst) ((Qh4 l.ps (a.nm.zip a.ps) b).map Prod.snd) []
  else if l.k == 6 then .mk 0 [] (QdU l.ps a.ps b.ps) []
  else match (if l.k == 7 then QiJ l.ps a.ps b.ps else none) with
   | some v => v
   | none => if QJ l a b then a else if QJ l b a then b else Qp.zero := by
 cases l with
 | mk k lo hi nm ps rs => rw [Qcw]; rfl
section
variable {q : Qv} {b : Qp} {x : Nm} {p y : Qp}
end
theorem Qnp {α β : Type} {F : α → Option β} {l : List α} {k : Nat} {x : α} (h : l[k]? = some x) : (l.take (k + 1)).filterMap F = (l.take k).filterMap F ++ (F x).toList := by
 rw [List.take_add_one, h, List.filterMap_append]
 cases hf : F x <;> simp [hf]
theorem cgM {tt : TypeId} {a d : AV} {es es' fs fs' : List (List AV)} {tk tk2 : Option Nat} (h : es = es') (h2 : fs = fs') : some (Qs.var tt [a, .sl es tk, .sl fs tk2, d]) = some (Qs.var tt [a, .sl es' tk, .sl fs' tk2, d]) := by rw [h, h2]
theorem Wu (v : Qp) : JI 4 1 (QF v) = [KV v] := by rw [W0]; rfl
theorem QqE : ∀ {ls : List Qv} {xs ys : List Qp}, xs.length = ls.length → ys.length = ls.length → (QdU ls xs ys).length = ls.length
 | [], [], [], _, _ => by simp [QdU]
 | q :: r, x :: a, y :: b, h1, h2 => by rw [QdU]; simp [QqE (ls := r) (by simpa using h1) (by simpa using h2)]
 | [], _ :: _, _, h, _ => by simp at h
 | [], [], _ :: _, _, h => by simp at h
 | _ :: _, [], _, h, _ => by simp at h
 | _ :: _, _ :: _, [], _, h => by simp at h
theorem Qqi : ∀ {ls : List Qv} {xs ys : List Qp} {k : Nat} {q : Qv} {x y : Qp}, ls[k]? = some q → xs[k]? = some x → ys[k]? = some y → (QdU ls xs ys)[k]? = some (Qcw q x y)
 | q :: r, x :: a, y :: b, 0, q', x', y', h1, h2, h3 => by simp at h1 h2 h3; subst h1 h2 h3; rw [QdU]; rfl
 | q :: r, x :: a, y :: b, k + 1, q', x', y', h1, h2, h3 => by rw [QdU]; exact Qqi (ls := r) (by simpa using h1) (by simpa using h2) (by simpa using h3)
 | [], _, _, _, _, _, _, h, _, _ => by simp at h
 | _ :: _, [], _, _, _, _, _, _, h, _ => by simp at h
 | _ :: _, _ :: _, [], _, _, _, _, _, _, h => by simp at h
theorem QmK {l : Qv} {a b : Qp} (h4 : l.k ≠ 4) (h10 : l.k ≠ 10) (h5 : l.k ≠ 5) (h6 : l.k ≠ 6) (hx : l.k = 7 → QiJ l.ps a.ps b.ps = none) :
  Qcw l a b = if QJ l a b then a else if QJ l b a then b else Qp.zero := by
 rw [Qb0]
 simp only [beq_eq_false_iff_ne.2 h4, beq_eq_false_iff_ne.2 h10, beq_eq_false_iff_ne.2 h5, beq_eq_false_iff_ne.2 h6, Bool.or_self, Bool.false_eq_true, if_false]
 by_cases h7 : l.k = 7
 ·rw [if_pos (beq_iff_eq.2 h7), hx h7]
 ·rw [if_neg (by simpa using h7)]
def Qcx : Qv → Bool
 | .mk k _ _ _ ps _ => k == 9 || regsL ps
where regsL : List Qv → Bool
 | [] => false
 | p :: r => Qcx p || regsL r
theorem QiG : ∀ l : List Qv, Qcx.regsL l = l.any Qcx
 | [] => rfl
 | p :: r => by rw [Qcx.regsL, List.any_cons, QiG r]
theorem Qlr (l : Qv) : Qcx l = (l.k == 9 || l.ps.any Qcx) := by
 cases l with
 | mk k lo hi nm ps rs => rw [Qcx, QiG]; rfl
def YL (l : Qv) (vs : List Qp) : Qp := vs.foldl (Qk l) (Qn l)
theorem Qml {l : Qv} {vs : List Qp} {k : Nat} {x : Qp} (h : vs[k]? = some x) : YL l (vs.take (k + 1)) = Qk l (YL l (vs.take k)) x := by
 unfold YL; rw [List.take_add_one, h]; simp
def QbF (l : Qv) (vs : List Qp) : Qp × Int := if J2 l vs = 0 then (YL l vs, 0) else (Qp.zero, J2 l vs)
def QpV (l : Qv) (vs : List Qp) : Prop := JoL l ∧ (∀ v ∈ vs, SmV 500000 v) ∧ ∀ k, k ≤ vs.length → Qw (YL l (vs.take k)) l = true ∧ SmV 500000 (YL l (vs.take k))
theorem QeN {α : Type} {p : α → Bool} {l : List α} {k : Nat} {x : α} (h : l[k]? = some x) : (l.take (k + 1)).all p = ((l.take k).all p && p x) := by
 rw [List.take_add_one, h]; simp
theorem Qup {tt : TypeId} {v w : Qp} (h : v = w) : some (Qs.var tt (QF v)) = some (Qs.var tt (QF w)) := by rw [h]
inductive ChL : Qv → Prop
 | mk (l : Qv) (h : QB l = 0) (hp : ∀ p ∈ l.ps, ChL p) : ChL l
theorem ChL.ok {l : Qv} (h : ChL l) : QB l = 0 := by cases h; assumption
theorem ChL.part {l : Qv} (h : ChL l) : ∀ p ∈ l.ps, ChL p := by cases h; assumption
end Go.Proofs.YtnkkokmmeplbgaaGreat
namespace Go.Proofs.YtnkkokmmeplbgaaGreat
set_option maxRecDepth 100000
set_option maxHeartbeats 1000000
open Go.RowKit
theorem QmV (l : Qv) (vs : List Qp) (hF : J2 l vs = 0 → QpV l vs) : FC Tryz.prog 127 [.agg (Q2 l), Y8 vs] (.tup [.agg (QF (QbF l vs).1), i64 (QbF l vs).2]) := by
 refine Ju [.c 4 30 4 true, .t 5] ⟨⟨inferInstance, rfl⟩, trivial⟩ Tryz.func127 rfl rfl 32 Tryz.ntmps127 (Nat.le_of_ble_eq_true rfl) ?_
 intro E hN;refine Xn ?_;refine zP (Qd (QiN l vs) rfl rfl rfl) ?_;refine Xg ?_
 refine zq ?_ ?_ <;> intro h7
 ·have h2 : ¬ J2 l vs = 0 := by simpa using h7
  refine Xg ?_;refine Qg ?_;change (resY _ _).bind AV.fzt = some _;refine Xm rfl ?_
  rw [QbF, if_neg h2]; rfl
 have h2 : J2 l vs = 0 := by simpa using h7
 have hc := Qfn h2
 have hbt : (YC l).1 = Qn l := by rw [YC, if_pos hc.1]
 refine QC ?_;refine zP (Qd (Qrd l) rfl rfl rfl) ?_;refine Xn ?_;refine Qm (fun x : {k : Nat // k ≤ (vs).length ∧ True} => ⟨[(2, .ptr 0 0), (4, .ptr 1 0), (7, .ptr 2 0), (19, Y8 vs), (20, i64 vs.length), (21, i64 (x.1 : Nat))], [(0, .var 26 (Q2 l)), (1, .var 30 [i64 0, .p (.slice none 0 0), .p (.slice none 0 0), .p (.slice none 0 0)]), (2, .var 30 (QF (YL l (vs.take x.1))))], 3⟩) (fun x => (vs).length - x.1) (⟨0, Nat.zero_le _, by simp⟩) ?_ ?_
 ·exact Qa rfl (YO ⟨(Y6 (by simp)), rfl, (XE trivial)⟩) ⟨rfl, rfl, rfl, rfl, rfl, rfl, (Qup (by rw [hbt]; rfl)), rfl, rfl, trivial⟩
 rintro ⟨k, hk, hg⟩;dsimp only;refine Jq 19 rfl (fun hl19 => ?_);refine Qy ?_
 refine zq ?_ ?_ <;> intro h21
 rotate_left
 ·have hge : (vs).length ≤ k := by simpa using h21
  rw [List.take_of_length_le hge];refine QC ?_;refine zP (Qd (Qis (YL l vs) (by have := ((hF h2).2.2 vs.length (Nat.le_refl _)).2; rw [List.take_length] at this; exact this.up (by decide))) rfl rfl rfl) ?_;refine QD ?_;refine Qg ?_;change (resY _ _).bind AV.fzt = some _;refine Xm rfl ?_;rw [QbF, if_pos h2]
 have hlt : k < (vs).length := by simpa using h21
 obtain ⟨x, hx⟩ := Qq hlt;refine Qy ?_;refine zP (Qf rfl rfl rfl k rfl _ (QR hx) rfl) ?_;refine Xo ?_;refine zP (Qd (Qno l (Xb hc.1) (hF h2).1 (YL l (vs.take k)) x ((hF h2).2.2 k hk).1 (hc.2 x (List.mem_of_getElem? hx)) ((hF h2).2.2 k hk).2 ((hF h2).2.1 x (List.mem_of_getElem? hx))) rfl rfl rfl) ?_;refine Qy ?_;refine Qb ?_;exact ⟨⟨k + 1, hlt, trivial⟩, Qa rfl (YO (XE ⟨X5, rfl, trivial⟩)) ⟨rfl, rfl, rfl, rfl, rfl, rfl, (Qup (Qml hx).symm), rfl, rfl, trivial⟩, by dsimp only; omega⟩
end Go.Proofs.YtnkkokmmeplbgaaGreat
