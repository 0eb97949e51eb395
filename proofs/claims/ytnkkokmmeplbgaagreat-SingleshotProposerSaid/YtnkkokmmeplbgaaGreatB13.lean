/-
  Plain words: meets; joins of lists; maximal elements; chains
-/
import Derived.Test.YtnkkokmmeplbgaaGreatB10
import Derived.Test.YtnkkokmmeplbgaaGreatA4
import Derived.Test.YtnkkokmmeplbgaaGreatB11
namespace Go.Proofs.YtnkkokmmeplbgaaGreat
set_option maxRecDepth 100000
set_option maxHeartbeats 1000000
open Go.RowKit
theorem QqK {l : List En} {k : Nat} {x : En} (h : l[k]? = some x) : ((l.take k).map Kv) ++ Qo 2 1 (Kv x) = ((l.take (k + 1)).map Kv) := by
 rw [Qow, List.take_add_one, h]; simp
theorem cgE {tt : TypeId} {a b d : AV} {es es' : List (List AV)} {tk : Option Nat} (h : es = es') : some (Qx.var tt [a, b, d, .sl es tk]) = some (Qx.var tt [a, b, d, .sl es' tk]) := by rw [h]
theorem QoJ (v : Qw) (h1 : v.nm.length ≤ 1000000) (h2 : v.ps.length ≤ 1000000) (h3 : v.es.length ≤ 1000000) (h4 : ∀ e ∈ v.es, e.1.length ≤ 64) (ih : ∀ p ∈ v.ps, FC Tryz.prog 160 [.agg (Qz p)] (.agg (Qz p))) : FC Tryz.prog 160 [.agg (Qz v)] (.agg (Qz v)) := by
 refine Jf [.c 2 30 4 true] ⟨⟨inferInstance, rfl⟩, trivial⟩ Tryz.func160 rfl rfl 49 Tryz.ntmps160 (Nat.le_of_ble_eq_true rfl) ?_
 intro E hN
 refine Q8 ?_; refine QeM [0, 1, 2, 3, 4, 5] 6 [7] rfl (by kernel_rfl) (by kernel_rfl) ?_; refine Qv ?_
 refine zp (Qc (Qlp v.nm h1) rfl rfl rfl) ?_; refine zp (JS rfl rfl rfl) ?_
 change FK _ _ _ _ _ _
 refine Qmi hN rfl rfl rfl rfl rfl rfl rfl ?_; change Qj _ _ _ _ _ _; refine Jv ?_
 refine QI (J7 rfl 2 2 30 4 rfl rfl rfl) ?_
 refine Ql (fun x : {k : Nat // k ≤ (v.ps).length ∧ True} => ⟨[(1, .ptr 0 0), (2, .ptr 1 0), (3, .ptr 2 0), (15, Qad v.ps), (16, i64 v.ps.length), (17, i64 (x.1 : Nat))], [(0, .var 30 (Qz v)), (1, .var 30 [i64 0, .p (.slice none 0 0), .p (.slice none 0 0), .p (.slice none 0 0)]), (2, .var 30 [i64 v.N, X1 v.nm, .sl ((v.ps.take x.1).map JV) (some 3), .p (.slice none 0 0)]), (3, .tok 30 4 ((v.ps.take x.1).map JV).length)], 4⟩) (fun x => (v.ps).length - x.1) (⟨0, Nat.zero_le _, by simp⟩) ?_ ?_
 ·
  exact Qa rfl (JH ⟨(Q0 (by simp)), rfl, (Xv trivial)⟩) ⟨rfl, rfl, rfl, rfl, rfl, rfl, rfl, rfl, rfl, rfl, rfl, rfl, trivial⟩
 rintro ⟨k, hk, hg⟩
 dsimp only
 refine QF ?_
 refine zq ?_ ?_ <;> intro h21
 ·
  have hlt : k < (v.ps).length := by simpa using h21
  obtain ⟨x, hx⟩ := Qn hlt
  refine QF ?_; refine zP (Qf rfl rfl rfl k rfl _ (QM hx) rfl) ?_; refine Qv ?_; refine Qd 5 (by kernel_rfl) (by kernel_rfl) ?_
  refine Qs ?_; refine zp (Qc (ih x (List.mem_of_getElem? hx)) rfl rfl rfl) ?_
  refine zp (QE rfl rfl rfl rfl (by exact rfl) (by decide) (by decide)) ?_; change Qj _ _ _ _ _ _
  refine QG hN rfl rfl rfl (by simp) rfl rfl (QN YF _) rfl (by simp [XH]; omega) rfl rfl rfl rfl ?_
  refine Q8 ?_; refine Qb ?_
  exact ⟨⟨k + 1, hlt, trivial⟩, Qa rfl (JH (Xv ⟨(Q0 (by dsimp only; omega)), rfl, trivial⟩)) ⟨rfl, rfl, rfl, rfl, rfl, rfl, (cgV (Qiu hx)), rfl, rfl, (cgT (by simp [XH]; omega)), rfl, rfl, trivial⟩, by dsimp only; omega⟩
 have hge : (v.ps).length ≤ k := by simpa using h21
 rw [List.take_of_length_le hge]
 refine XB ?_; refine QI (J7 rfl 2 3 149 2 rfl rfl rfl) ?_
 refine Ql (fun x : {k : Nat // k ≤ (v.es).length ∧ True} => ⟨[(2, .ptr 1 0), (3, .ptr 2 0), (30, W7 v.es), (31, i64 v.es.length), (32, i64 (x.1 : Nat))], [(1, .var 30 [i64 0, .p (.slice none 0 0), .p (.slice none 0 0), .p (.slice none 0 0)]), (2, .var 30 [i64 v.N, X1 v.nm, .sl (v.ps.map JV) (some 3), .sl ((v.es.take x.1).map Kv) (some 4)]), (4, .tok 149 2 ((v.es.take x.1).map Kv).length)], 5⟩) (fun x => (v.es).length - x.1) (⟨0, Nat.zero_le _, by simp⟩) ?_ ?_
 ·
  exact Qa rfl (JO ⟨(Q0 (by simp)), rfl, (Xv trivial)⟩) ⟨rfl, rfl, rfl, rfl, rfl, rfl, rfl, rfl, rfl, trivial⟩
 rintro ⟨k, hk, hg⟩
 dsimp only
 refine QF ?_
 refine zq ?_ ?_ <;> intro h43
 rotate_left
 ·
  have hge : (v.es).length ≤ k := by simpa using h43
  rw [List.take_of_length_le hge]
  refine Q8 ?_; refine Qh ?_
  change (resY _ _).bind AV.fzt = some _
  refine XD rfl ?_
  rfl
 have hlt : k < (v.es).length := by simpa using h43
 obtain ⟨x, hx⟩ := Qn hlt
 refine QF ?_; refine zP (Qf rfl rfl rfl k rfl _ (Qk hx) rfl) ?_; refine Qv ?_; refine Qd 9 (by kernel_rfl) (by kernel_rfl) ?_
 refine Qv ?_
 refine zp (Qc (QkV x.1 (by have := h4 x (List.mem_of_getElem? hx); omega)) rfl rfl rfl) ?_
 refine Qu ?_; refine zp (JS rfl rfl rfl) ?_; refine zp (QE rfl rfl rfl rfl (by exact rfl) (by decide) (by decide)) ?_
 change Qj _ _ _ _ _ _
 refine QG hN rfl rfl rfl (by simp) rfl rfl (QN Qdt _) rfl (by simp [Xd]; omega) rfl rfl rfl rfl ?_
 refine Q8 ?_; refine Qb ?_
 exact ⟨⟨k + 1, hlt, trivial⟩, Qa rfl (JH ⟨(Q0 (by dsimp only; omega)), rfl, trivial⟩) ⟨rfl, rfl, rfl, (cgE (QqK hx)), rfl, rfl, (cgT (by simp [Xd]; omega)), rfl, rfl, trivial⟩, by dsimp only; omega⟩
theorem QhE (v : Qw) (h : J6 1000000 v) : FC Tryz.prog 160 [.agg (Qz v)] (.agg (Qz v)) := QoJ v h.nm h.ps h.es h.en (fun p hp => QhE p (h.part p hp))
termination_by v
decreasing_by exact Qw.sizeOf_ps ‹_›
inductive JoL : QD → Prop
 | mk (l : QD) (h : l.k = 10 → ∀ s, Qq s = true → (∀ x ∈ s, x ∈ l.nm) → FC Tryz.prog 195 [X1 l.nm, rus l.rs, X1 s] (.tup [X1 (Ka l.nm l.rs s), i64 0])) (hp : ∀ p ∈ l.ps, JoL p) : JoL l
theorem JoL.close {l : QD} (h : JoL l) : l.k = 10 → ∀ s, Qq s = true → (∀ x ∈ s, x ∈ l.nm) → FC Tryz.prog 195 [X1 l.nm, rus l.rs, X1 s] (.tup [X1 (Ka l.nm l.rs s), i64 0]) := by cases h; assumption
theorem JoL.part {l : QD} (h : JoL l) : ∀ p ∈ l.ps, JoL p := by cases h; assumption
theorem QnM {l : QD} (hO : YK l) (hk : l.k = 10) : l.nm ≠ [] := by
 have h := hO.shape
 unfold Xo at h
 rw [if_pos (by rw [hk]; decide)] at h
 intro e
 rw [show Yn l = true by unfold Yn; rw [hk, e]; rfl, Bool.or_true] at h
 simp [J1] at h
theorem Qbz {l : QD} {v : Qw} (hO : YK l) (hk : l.k = 10) (hv : Qt v l = true) : ∀ s ∈ v.nm, s ∈ l.nm := fun s hs => by
 obtain ⟨-, -, -, -, h, -⟩ := Y2 hv (.inr hk)
 have h1 := h s hs
 have h2 : ((l.nm.length : Int) > 0) := by
  have := List.length_pos_iff.2 (QnM hO hk)
  omega
 simp only [Yq, h2, decide_true, Bool.true_and, Bool.and_eq_true, Bool.not_eq_true', Bool.not_eq_false'] at h1
 exact Yb.1 (by simpa using h1.2)
theorem Yr {l : QD} {a b : Qw} (h4 : l.k ≠ 4) (h10 : l.k ≠ 10) (h9 : l.k ≠ 9) (h5 : l.k ≠ 5) (h6 : l.k ≠ 6) (hx : l.k = 7 → Wn l.ps a.ps b.ps = none) :
  QR l a b = if Xl l a b then b else if Xl l b a then a else .mk 2 [] [] [] := by
 rw [X3]
 simp only [beq_eq_false_iff_ne.2 h4, beq_eq_false_iff_ne.2 h10, beq_eq_false_iff_ne.2 h9, beq_eq_false_iff_ne.2 h5, beq_eq_false_iff_ne.2 h6, Bool.false_eq_true, if_false]
 by_cases h7 : l.k = 7
 ·rw [if_pos (beq_iff_eq.2 h7), hx h7]
 rw [if_neg (by simpa using h7)]
section
variable {a b : Qw} {q : QD} {x : Nm}
theorem QdO {v : Qw} (hl : v.nm.length = v.ps.length) (h : decide (Xs x v.nm 0 < 0) = false) : ∃ (i : Nat) (y : Qw), Xs x v.nm 0 = (i : Int) ∧ v.ps[i]? = some y ∧ Xy v x = some y := by
 rcases Qbs x v.nm 0 with h1 | ⟨j, -, h2, h3⟩
 ·rw [h1] at h; cases h
 obtain ⟨y, hy⟩ := Qn (show j < v.ps.length by omega)
 exact ⟨j, y, h3, hy, QaK h3 hy⟩
theorem jc_b (hm : x ∈ a.nm ∨ x ∈ b.nm) (h : decide (Xs x a.nm 0 < 0) = true) (lb : b.nm.length = b.ps.length) : ∃ (j : Nat) (y : Qw), Xs x b.nm 0 = (j : Int) ∧ b.ps[j]? = some y ∧ J0 q a b x = y := by
 have h0 := of_decide_eq_true h
 have hb : x ∈ b.nm := by
  rcases hm with hm | hm
  ·have := Qc6 x a.nm 0
   rw [Yb.2 hm] at this
   have := of_decide_eq_true this
   omega
  exact hm
 have h1 : decide (Xs x b.nm 0 < 0) = false := by
  have := Qc6 x b.nm 0
  rw [Yb.2 hb] at this
  have := of_decide_eq_true this
  exact decide_eq_false (by omega)
 obtain ⟨j, y, g1, g2, g3⟩ := QdO lb h1
 exact ⟨j, y, g1, g2, QtC (WM h0) g3⟩
theorem jc_a (h1 : decide (Xs x a.nm 0 < 0) = false) (h2 : decide (Xs x b.nm 0 < 0) = true) (la : a.nm.length = a.ps.length) : ∃ (j : Nat) (y : Qw), Xs x a.nm 0 = (j : Int) ∧ a.ps[j]? = some y ∧ J0 q a b x = y := by
 obtain ⟨j, y, g1, g2, g3⟩ := QdO la h1
 exact ⟨j, y, g1, g2, QtJ g3 (WM (of_decide_eq_true h2))⟩
theorem jc_2 (h1 : decide (Xs x a.nm 0 < 0) = false) (h2 : decide (Xs x b.nm 0 < 0) = false) (la : a.nm.length = a.ps.length) (lb : b.nm.length = b.ps.length) :
  ∃ (i : Nat) (x1 : Qw) (j : Nat) (y : Qw), Xs x a.nm 0 = (i : Int) ∧ a.ps[i]? = some x1 ∧ Xs x b.nm 0 = (j : Int) ∧ b.ps[j]? = some y ∧ J0 q a b x = QR q x1 y := by
 obtain ⟨i, x1, g1, g2, g3⟩ := QdO la h1
 obtain ⟨j, y, k1, k2, k3⟩ := QdO lb h2
 exact ⟨i, x1, j, y, g1, g2, k1, k2, QtF g3 k3⟩
end
theorem Qsf (l : QD) (hO : YK l) (hJ : JoL l) (ih : ∀ q ∈ l.ps, ∀ x y, Qt x q = true → Qt y q = true → J6 500000 x → J6 500000 y → FC Tryz.prog 159 [.agg (Q2 q), .agg (Qz x), .agg (Qz y)] (.agg (Qz (QR q x y)))) (a b : Qw) (ha : Qt a l = true) (hb : Qt b l = true) (sa : J6 500000 a) (sb : J6 500000 b) : FC Tryz.prog 159 [.agg (Q2 l), .agg (Qz a), .agg (Qz b)] (.agg (Qz (QR l a b))) := by
 have na := sa.nm
 have nb := sb.nm
 have nea := sa.es
 have neb := sb.es
 have npl := hO.small
 refine Jf [.c 6 30 4 true] ⟨⟨inferInstance, rfl⟩, trivial⟩ Tryz.func159 rfl rfl 195 Tryz.ntmps159 (Nat.le_of_ble_eq_true rfl) ?_
 intro E hN
 refine QiL ?_
 refine zq ?_ ?_ <;> intro h10
 ·
  have hk : l.k = 4 := by simpa using h10
  obtain ⟨-, -, -, hsa, -, -⟩ := Y2 ha (.inl hk)
  obtain ⟨-, -, -, hsb, -, -⟩ := Y2 hb (.inl hk)
  have hE : QR l a b = .mk 0 (Ku a.nm b.nm) [] [] := by rw [X3, hk]; rfl
  refine Q8 ?_; refine zP (Qc (Qgq _ _ hsa hsb (by omega)) rfl rfl rfl) ?_; refine Qs ?_; refine Qh ?_
  change (resY _ _).bind AV.fzt = some _
  refine XD rfl ?_
  rw [hE]; rfl
 have hk4 : l.k ≠ 4 := by simpa using h10
 refine QF ?_
 refine zq ?_ ?_ <;> intro h18
 ·
  have hk : l.k = 10 := by simpa using h18
  obtain ⟨-, -, -, hsa, -, -⟩ := Y2 ha (.inr hk)
  obtain ⟨-, -, -, hsb, -, -⟩ := Y2 hb (.inr hk)
  have hE : QR l a b = .mk 0 (Ka l.nm l.rs (Ku a.nm b.nm)) [] [] := by rw [X3, hk]; rfl
  refine Jk ?_; refine Qd 14 (by kernel_rfl) (by kernel_rfl) ?_; refine XN ?_
  refine zp (Qc (Qgq _ _ hsa hsb (by omega)) rfl rfl rfl) ?_
  refine Qac hN (Qc (hJ.close hk _ (WB hsa hsb) (fun x hx => by
     rcases (K9 hsa hsb).1 hx with hx | hx
     ·exact Qbz hO hk ha x hx
     exact Qbz hO hk hb x hx)) rfl rfl rfl) rfl rfl rfl rfl ?_
  refine Qs ?_; refine zp (Xb rfl rfl) ?_; change Qj _ _ _ _ _ _; refine XN ?_; refine Qh ?_
  change (resY _ _).bind AV.fzt = some _
  refine XD rfl ?_
  rw [hE]; rfl
 have hk10 : l.k ≠ 10 := by simpa using h18
 refine QF ?_
 refine zq ?_ ?_ <;> intro h33
 ·
  have hk : l.k = 9 := by simpa using h33
  have hE : QR l a b = .mk 0 [] [] (Jw a.es b.es) := by rw [X3, hk]; rfl
  refine Q8 ?_; refine zP (Qc (QnO _ _ (by omega)) rfl rfl rfl) ?_; refine Qs ?_; refine Qh ?_
  change (resY _ _).bind AV.fzt = some _
  refine XD rfl ?_
  rw [hE]; rfl
 have hk9 : l.k ≠ 9 := by simpa using h33
 refine QF ?_
 refine zq ?_ ?_ <;> intro h41
 ·
  have hk : l.k = 5 := by simpa using h41
  obtain ⟨q, hps⟩ := WU hO hk
  have hq0 : l.ps[0]? = some q := by rw [hps]; rfl
  obtain ⟨-, -, hla, hsa, -, hea⟩ := YO ha hk hps
  obtain ⟨-, -, hlb, hsb, -, heb⟩ := YO hb hk hps
  have hul := QdN hsa hsb
  have hE : QR l a b = .mk 0 (Ku a.nm b.nm) ((Ku a.nm b.nm).map (J0 q a b)) [] := by rw [X3, hk, hps, QcL]; rfl
  refine XB ?_; refine zP (Qc (Qgq _ _ hsa hsb (by omega)) rfl rfl rfl) ?_; refine X6 ?_
  refine QI (J7 rfl 4 2 30 4 rfl rfl rfl) ?_
  refine Ql (fun x : {k : Nat // k ≤ (Ku a.nm b.nm).length ∧ True} => ⟨[(3, .ptr 0 0), (4, .ptr 1 0), (5, .ptr 2 0), (6, .ptr 3 0), (9, .ptr 4 0), (61, X1 (Ku a.nm b.nm)), (62, i64 (Ku a.nm b.nm).length), (63, i64 (x.1 : Nat))], [(0, .var 26 (Q2 l)), (1, .var 30 (Qz a)), (2, .var 30 (Qz b)), (3, .var 30 [i64 0, .p (.slice none 0 0), .p (.slice none 0 0), .p (.slice none 0 0)]), (4, .var 30 [i64 0, X1 (Ku a.nm b.nm), .sl ((((Ku a.nm b.nm).take x.1).map (J0 q a b)).map JV) (some 5), .p (.slice none 0 0)]), (5, .tok 30 4 ((((Ku a.nm b.nm).take x.1).map (J0 q a b)).map JV).length)], 6⟩) (fun x => (Ku a.nm b.nm).length - x.1) (⟨0, Nat.zero_le _, by simp⟩) ?_ ?_
  ·
   exact Qa rfl (JH (JI ⟨(Q0 (by simp)), rfl, (Xv trivial)⟩)) ⟨rfl, rfl, rfl, rfl, rfl, rfl, rfl, rfl, rfl, rfl, rfl, rfl, rfl, rfl, rfl, rfl, rfl, rfl, trivial⟩
  rintro ⟨k, hk, hg⟩
  dsimp only
  refine QF ?_
  refine zq ?_ ?_ <;> intro h61
  rotate_left
  ·
   have hge : (Ku a.nm b.nm).length ≤ k := by simpa using h61
   rw [List.take_of_length_le hge]
   refine Q8 ?_; refine Qh ?_
   change (resY _ _).bind AV.fzt = some _
   refine XD rfl ?_
   rw [hE]; rfl
  have hlt : k < (Ku a.nm b.nm).length := by simpa using h61
  obtain ⟨x, hx⟩ := Qn hlt
  have hxm := (K9 hsa hsb).1 (List.mem_of_getElem? hx)
  refine QF ?_; refine zP (Qf rfl rfl rfl k rfl _ (Qk hx) rfl) ?_; refine Qv ?_; refine Qd 9 (by kernel_rfl) (by kernel_rfl) ?_
  refine Qs ?_; refine zp (Qc (Qeu _ _) rfl rfl rfl) ?_; refine Qs ?_; refine zp (Qc (Qeu _ _) rfl rfl rfl) ?_
  refine zp (Xb rfl rfl) ?_; change Qj _ _ _ _ _ _; refine JA ?_
  refine zq ?_ ?_ <;> intro h70
  ·
   obtain ⟨j, y, hj, hy, hF⟩ := jc_b (q := q) hxm h70 hlb
   refine Qd 8 (by kernel_rfl) (by kernel_rfl) ?_; refine QF ?_; refine zp (Qf rfl rfl rfl j hj _ (QM hy) rfl) ?_; refine zl ?_
   refine zp (QE rfl rfl rfl rfl (by exact rfl) (by decide) (by decide)) ?_; change Qj _ _ _ _ _ _
   refine QG hN rfl rfl rfl (by simp) rfl rfl (QN YF _) rfl (by simp [XH]; omega) rfl rfl rfl rfl ?_
   refine Q8 ?_; refine Qb ?_
   exact ⟨⟨k + 1, hlt, trivial⟩, Qa rfl (JH (JO ⟨(Q0 (by dsimp only; omega)), rfl, trivial⟩)) ⟨rfl, rfl, rfl, rfl, rfl, rfl, rfl, rfl, rfl, rfl, rfl, rfl, (cgV (QiA hx hF)), rfl, rfl, (cgT (by simp [XH]; omega)), rfl, rfl, trivial⟩, by dsimp only; omega⟩
  have h17 := h70
  refine Q8 ?_
  refine zq ?_ ?_ <;> intro h82
  ·
   obtain ⟨i, x1, hi, hx1, hF⟩ := jc_a (q := q) h17 h82 hla
   refine Qd 8 (by kernel_rfl) (by kernel_rfl) ?_; refine QF ?_; refine zp (Qf rfl rfl rfl i hi _ (QM hx1) rfl) ?_; refine zl ?_
   refine zp (QE rfl rfl rfl rfl (by exact rfl) (by decide) (by decide)) ?_; change Qj _ _ _ _ _ _
   refine QG hN rfl rfl rfl (by simp) rfl rfl (QN YF _) rfl (by simp [XH]; omega) rfl rfl rfl rfl ?_
   refine Q8 ?_; refine Qb ?_
   exact ⟨⟨k + 1, hlt, trivial⟩, Qa rfl (JH (JO ⟨(Q0 (by dsimp only; omega)), rfl, trivial⟩)) ⟨rfl, rfl, rfl, rfl, rfl, rfl, rfl, rfl, rfl, rfl, rfl, rfl, (cgV (QiA hx hF)), rfl, rfl, (cgT (by simp [XH]; omega)), rfl, rfl, trivial⟩, by dsimp only; omega⟩
  obtain ⟨i, x1, j, y, hi, hx1, hj, hy, hF⟩ := jc_2 (q := q) h17 h82 hla hlb
  refine Qd 18 (by kernel_rfl) (by kernel_rfl) ?_; refine Qv ?_; refine zp (Qf rfl rfl rfl 0 rfl _ (XK hq0) rfl) ?_; refine Qv ?_
  refine zp (Qf rfl rfl rfl i hi _ (QM hx1) rfl) ?_; refine Qv ?_; refine zp (Qf rfl rfl rfl j hj _ (QM hy) rfl) ?_; refine zl ?_
  refine zp (Qc (ih q (by rw [hps]; simp) x1 y (hea x1 (List.mem_of_getElem? hx1)).1 (heb y (List.mem_of_getElem? hy)).1 (sa.part x1 (List.mem_of_getElem? hx1)) (sb.part y (List.mem_of_getElem? hy))) rfl rfl rfl) ?_
  refine zp (QE rfl rfl rfl rfl (by exact rfl) (by decide) (by decide)) ?_; change Qj _ _ _ _ _ _
  refine QG hN rfl rfl rfl (by simp) rfl rfl (QN YF _) rfl (by simp [XH]; omega) rfl rfl rfl rfl ?_
  refine Q8 ?_; refine Qb ?_
  exact ⟨⟨k + 1, hlt, trivial⟩, Qa rfl (JH (JO ⟨(Q0 (by dsimp only; omega)), rfl, trivial⟩)) ⟨rfl, rfl, rfl, rfl, rfl, rfl, rfl, rfl, rfl, rfl, rfl, rfl, (cgV (QiA hx hF)), rfl, rfl, (cgT (by simp [XH]; omega)), rfl, rfl, trivial⟩, by dsimp only; omega⟩
 have hk5 : l.k ≠ 5 := by simpa using h41
 refine QF ?_
 refine zq ?_ ?_ <;> intro h116
 ·
  have hk : l.k = 6 := by simpa using h116
  obtain ⟨-, -, -, hla, hza⟩ := J5 ha (.inl hk)
  obtain ⟨-, -, -, hlb, hzb⟩ := J5 hb (.inl hk)
  have hjl := Qgc hla hlb
  have hE : QR l a b = .mk 0 [] (Ws l.ps a.ps b.ps) [] := by rw [X3, hk]; rfl
  refine YR ?_; refine QI (J7 rfl 4 2 30 4 rfl rfl rfl) ?_
  refine Ql (fun x : {k : Nat // k ≤ (l.ps).length ∧ True} => ⟨[(3, .ptr 0 0), (4, .ptr 1 0), (5, .ptr 2 0), (6, .ptr 3 0), (14, .ptr 4 0), (126, Qgi l.ps), (127, i64 l.ps.length), (128, i64 (x.1 : Nat))], [(0, .var 26 (Q2 l)), (1, .var 30 (Qz a)), (2, .var 30 (Qz b)), (3, .var 30 [i64 0, .p (.slice none 0 0), .p (.slice none 0 0), .p (.slice none 0 0)]), (4, .var 30 [i64 0, .p (.slice none 0 0), .sl (((Ws l.ps a.ps b.ps).take x.1).map JV) (some 5), .p (.slice none 0 0)]), (5, .tok 30 4 (((Ws l.ps a.ps b.ps).take x.1).map JV).length)], 6⟩) (fun x => (l.ps).length - x.1) (⟨0, Nat.zero_le _, by simp⟩) ?_ ?_
  ·
   exact Qa rfl (JH (JI ⟨(Q0 (by simp)), rfl, (Xv trivial)⟩)) ⟨rfl, rfl, rfl, rfl, rfl, rfl, rfl, rfl, rfl, rfl, rfl, rfl, rfl, rfl, rfl, rfl, rfl, rfl, trivial⟩
  rintro ⟨k, hk, hg⟩
  dsimp only
  refine QF ?_
  refine zq ?_ ?_ <;> intro h129
  rotate_left
  ·
   have hge : (l.ps).length ≤ k := by simpa using h129
   rw [List.take_of_length_le (by rw [hjl]; exact hge)]
   refine Q8 ?_; refine Qh ?_
   change (resY _ _).bind AV.fzt = some _
   refine XD rfl ?_
   rw [hE]; rfl
  have hlt : k < l.ps.length := by simpa using h129
  obtain ⟨q, hq⟩ := Qn hlt
  obtain ⟨x, hx⟩ := Qn (show k < a.ps.length by omega)
  obtain ⟨y, hy⟩ := Qn (show k < b.ps.length by omega)
  refine Q8 ?_; refine zP (Qf rfl rfl rfl k rfl _ (XK hq) rfl) ?_; refine QF ?_; refine Qd 15 (by kernel_rfl) (by kernel_rfl) ?_
  refine Q8 ?_; refine zp (Qf rfl rfl rfl k rfl _ (QM hx) rfl) ?_; refine Qv ?_; refine zp (Qf rfl rfl rfl k rfl _ (QM hy) rfl) ?_
  refine zl ?_
  refine zp (Qc (ih q (List.mem_of_getElem? hq) x y (Ja hza hx hq) (Ja hzb hy hq) (sa.part x (List.mem_of_getElem? hx)) (sb.part y (List.mem_of_getElem? hy))) rfl rfl rfl) ?_
  refine zp (QE rfl rfl rfl rfl (by exact rfl) (by decide) (by decide)) ?_; change Qj _ _ _ _ _ _
  refine QG hN rfl rfl rfl (by simp) rfl rfl (QN YF _) rfl (by simp [XH]; omega) rfl rfl rfl rfl ?_
  refine Q8 ?_; refine Qb ?_
  exact ⟨⟨k + 1, hlt, trivial⟩, Qa rfl (JH (JO ⟨(Q0 (by dsimp only; omega)), rfl, trivial⟩)) ⟨rfl, rfl, rfl, rfl, rfl, rfl, rfl, rfl, rfl, rfl, rfl, rfl, (cgV (Qiu (Qf3 hq hx hy))), rfl, rfl, (cgT (by simp [XH]; omega)), rfl, rfl, trivial⟩, by dsimp only; omega⟩
 have hk6 : l.k ≠ 6 := by simpa using h116
 refine QF ?_
 refine zq ?_ ?_ <;> intro h153
 rotate_left
 ·
  have hx : l.k = 7 → Wn l.ps a.ps b.ps = none := fun e => absurd e (by simpa using h153)
  refine XN ?_; refine zP (Qc (Qe2 l hO a b ha hb) rfl rfl rfl) ?_; refine zT ?_
  refine zq ?_ ?_ <;> intro h200
  ·
   have h34 := h200
   refine QF ?_; refine Qh ?_
   change (resY _ _).bind AV.fzt = some _
   refine XD rfl ?_
   rw [Yr hk4 hk10 hk9 hk5 hk6 hx, if_pos h34]
  have h34 := h200
  refine QF ?_; refine zP (Qc (Qe2 l hO b a hb ha) rfl rfl rfl) ?_; refine zT ?_
  refine zq ?_ ?_ <;> intro h206
  ·
   have h36 := h206
   refine QF ?_; refine Qh ?_
   change (resY _ _).bind AV.fzt = some _
   refine XD rfl ?_
   rw [Yr hk4 hk10 hk9 hk5 hk6 hx, if_neg (by rw [h34]; decide), if_pos h36]
  have h36 := h206
  refine Q8 ?_; refine Qh ?_
  change (resY _ _).bind AV.fzt = some _
  refine XD rfl ?_
  rw [Yr hk4 hk10 hk9 hk5 hk6 hx, if_neg (by rw [h34]; decide), if_neg (by rw [h36]; decide)]; rfl
 have hk : l.k = 7 := by simpa using h153
 obtain ⟨q1, q2, hps⟩ := Kd hO.shape hk
 obtain ⟨x1, x2, hpa, hx1, hx2⟩ := Ye ha hk hps
 obtain ⟨y1, y2, hpb, hy1, hy2⟩ := Ye hb hk hps
 have hq2' : l.ps[1]? = some q2 := by rw [hps]; rfl
 have hx1' : a.ps[0]? = some x1 := by rw [hpa]; rfl
 have hx2' : a.ps[1]? = some x2 := by rw [hpa]; rfl
 have hy1' : b.ps[0]? = some y1 := by rw [hpb]; rfl
 have hy2' : b.ps[1]? = some y2 := by rw [hpb]; rfl
 refine Jk ?_; refine Qd 8 (by kernel_rfl) (by kernel_rfl) ?_; refine Qu ?_; refine zp (Qf rfl rfl rfl 0 rfl _ (QM hx1') rfl) ?_
 refine Qs ?_; refine zp (Qf rfl rfl rfl 0 rfl _ (QM hy1') rfl) ?_; refine zl ?_; change Qj _ _ _ _ _ _
 refine zP (Qc (QbU _ _) rfl rfl rfl) ?_; refine zN ?_
 refine zq ?_ ?_ <;> intro h162
 ·
  have hE : QR l a b = .mk 0 [] [x1, QR q2 x2 y2] [] := by rw [X3, hk, hps, hpa, hpb]; simp [Wn, h162]
  refine Jk ?_; refine Qd 19 (by kernel_rfl) (by kernel_rfl) ?_; refine Qu ?_; refine zp (Qf rfl rfl rfl 0 rfl _ (QM hx1') rfl) ?_
  refine Qs ?_; refine zp (Qf rfl rfl rfl 1 rfl _ (XK hq2') rfl) ?_; refine Qs ?_
  refine zp (Qf rfl rfl rfl 1 rfl _ (QM hx2') rfl) ?_; refine Qs ?_; refine zp (Qf rfl rfl rfl 1 rfl _ (QM hy2') rfl) ?_
  refine zl ?_
  refine zp (Qc (ih q2 (by rw [hps]; simp) x2 y2 hx2 hy2 (sa.part x2 (by rw [hpa]; simp)) (sb.part y2 (by rw [hpb]; simp))) rfl rfl rfl) ?_
  refine zp (Qbf rfl rfl rfl rfl (by exact rfl) (by decide) (by decide) (QgP _ _)) ?_; refine zp (JS rfl rfl rfl) ?_
  change Qj _ _ _ _ _ _; refine Qu ?_; refine Qh ?_
  change (resY _ _).bind AV.fzt = some _
  refine XD rfl ?_
  rw [hE]; rfl
 have hx : l.k = 7 → Wn l.ps a.ps b.ps = none := fun _ => by rw [hps, hpa, hpb, Wn, h162]; rfl
 refine XN ?_; refine zP (Qc (Qe2 l hO a b ha hb) rfl rfl rfl) ?_; refine zT ?_
 refine zq ?_ ?_ <;> intro h186
 ·
  have h34 := h186
  refine QF ?_; refine Qh ?_
  change (resY _ _).bind AV.fzt = some _
  refine XD rfl ?_
  rw [Yr hk4 hk10 hk9 hk5 hk6 hx, if_pos h34]
 have h34 := h186
 refine QF ?_; refine zP (Qc (Qe2 l hO b a hb ha) rfl rfl rfl) ?_; refine zT ?_
 refine zq ?_ ?_ <;> intro h192
 ·
  have h36 := h192
  refine QF ?_; refine Qh ?_
  change (resY _ _).bind AV.fzt = some _
  refine XD rfl ?_
  rw [Yr hk4 hk10 hk9 hk5 hk6 hx, if_neg (by rw [h34]; decide), if_pos h36]
 have h36 := h192
 refine Q8 ?_; refine Qh ?_
 change (resY _ _).bind AV.fzt = some _
 refine XD rfl ?_
 rw [Yr hk4 hk10 hk9 hk5 hk6 hx, if_neg (by rw [h34]; decide), if_neg (by rw [h36]; decide)]; rfl
theorem Qml (l : QD) (hO : YK l) (hJ : JoL l) (a b : Qw) (ha : Qt a l = true) (hb : Qt b l = true) (sa : J6 500000 a) (sb : J6 500000 b) : FC Tryz.prog 159 [.agg (Q2 l), .agg (Qz a), .agg (Qz b)] (.agg (Qz (QR l a b))) := Qsf l hO hJ (fun q hq x y hx hy sx sy => Qml q (hO.part q hq) (hJ.part q hq) x y hx hy sx sy) a b ha hb sa sb
termination_by l
decreasing_by exact QD.sizeOf_ps ‹_›
end Go.Proofs.YtnkkokmmeplbgaaGreat
namespace Go.Proofs.YtnkkokmmeplbgaaGreat
open Go.RowKit
mutual
def Qb1 : QD → Qw → Qw → Qw
 | .mk k lo hi nm ps rs, a, b =>
  if k == 4 || k == 10 then .mk 0 (itr a.nm b.nm) [] []
  else if k == 5 then .mk 0 ((QhO ps (a.nm.zip a.ps) b).map Prod.fst) ((QhO ps (a.nm.zip a.ps) b).map Prod.snd) []
  else if k == 6 then .mk 0 [] (Qdk ps a.ps b.ps) []
  else match (if k == 7 then Qh8 ps a.ps b.ps else none) with
   | some v => v
   | none => if Xl (.mk k lo hi nm ps rs) a b then a else if Xl (.mk k lo hi nm ps rs) b a then b else Qw.zero
def QhO : List QD → List (Nm × Qw) → Qw → List (Nm × Qw)
 | [], _, _ => []
 | q :: _, l, b => l.filterMap fun x => match Xy b x.1 with
  | none => none
  | some y => if eqV (Qb1 q x.2 y) (KE q).1 then none else some (x.1, Qb1 q x.2 y)
def Qdk : List QD → List Qw → List Qw → List Qw
 | q :: r, x :: a, y :: b => Qb1 q x y :: Qdk r a b
 | _, _, _ => []
def Qh8 : List QD → List Qw → List Qw → Option Qw
 | [_, q], [x1, x2], [y1, y2] => if eqV x1 y1 then some (.mk 0 [] [x1, Qb1 q x2 y2] []) else none
 | _, _, _ => none
end
def Qdn (q : QD) (b : Qw) (x : Nm × Qw) : Option (Nm × Qw) := match Xy b x.1 with
 | none => none
 | some y => if eqV (Qb1 q x.2 y) (KE q).1 then none else some (x.1, Qb1 q x.2 y)
theorem Qnb (q : QD) (r : List QD) (l : List (Nm × Qw)) (b : Qw) : QhO (q :: r) l b = l.filterMap (Qdn q b) := by rw [QhO]; rfl
theorem Qbl (l : QD) (a b : Qw) : Qb1 l a b =
  if l.k == 4 || l.k == 10 then .mk 0 (itr a.nm b.nm) [] []
  else if l.k == 5 then .mk 0 ((QhO l.ps (a.nm.zip a.ps) b).map Prod.fst) ((QhO l.ps (a.nm.zip a.ps) b).map Prod.snd) []
  else if l.k == 6 then .mk 0 [] (Qdk l.ps a.ps b.ps) []
  else match (if l.k == 7 then Qh8 l.ps a.ps b.ps else none) with
   | some v => v
   | none => if Xl l a b then a else if Xl l b a then b else Qw.zero := by
 cases l with
 | mk k lo hi nm ps rs => rw [Qb1]; rfl
section
variable {q : QD} {b : Qw} {x : Nm} {p y : Qw}
end
theorem QmR {α β : Type} {F : α → Option β} {l : List α} {k : Nat} {x : α} (h : l[k]? = some x) : (l.take (k + 1)).filterMap F = (l.take k).filterMap F ++ (F x).toList := by
 rw [List.take_add_one, h, List.filterMap_append]
 cases hf : F x <;> simp [hf]
theorem cgM {tt : TypeId} {a d : AV} {es es' fs fs' : List (List AV)} {tk tk2 : Option Nat} (h : es = es') (h2 : fs = fs') : some (Qx.var tt [a, .sl es tk, .sl fs tk2, d]) = some (Qx.var tt [a, .sl es' tk, .sl fs' tk2, d]) := by rw [h, h2]
theorem KP (v : Qw) : Qo 4 1 (Qz v) = [JV v] := by rw [Kn]; rfl
theorem Qo1 : ∀ {ls : List QD} {xs ys : List Qw}, xs.length = ls.length → ys.length = ls.length → (Qdk ls xs ys).length = ls.length
 | [], [], [], _, _ => by simp [Qdk]
 | q :: r, x :: a, y :: b, h1, h2 => by rw [Qdk]; simp [Qo1 (ls := r) (by simpa using h1) (by simpa using h2)]
 | [], _ :: _, _, h, _ => by simp at h
 | [], [], _ :: _, _, h => by simp at h
 | _ :: _, [], _, h, _ => by simp at h
 | _ :: _, _ :: _, [], _, h => by simp at h
theorem Qoe : ∀ {ls : List QD} {xs ys : List Qw} {k : Nat} {q : QD} {x y : Qw}, ls[k]? = some q → xs[k]? = some x → ys[k]? = some y → (Qdk ls xs ys)[k]? = some (Qb1 q x y)
 | q :: r, x :: a, y :: b, 0, q', x', y', h1, h2, h3 => by simp at h1 h2 h3; subst h1 h2 h3; rw [Qdk]; rfl
 | q :: r, x :: a, y :: b, k + 1, q', x', y', h1, h2, h3 => by rw [Qdk]; exact Qoe (ls := r) (by simpa using h1) (by simpa using h2) (by simpa using h3)
 | [], _, _, _, _, _, _, h, _, _ => by simp at h
 | _ :: _, [], _, _, _, _, _, _, h, _ => by simp at h
 | _ :: _, _ :: _, [], _, _, _, _, _, _, h => by simp at h
theorem Qk5 {l : QD} {a b : Qw} (h4 : l.k ≠ 4) (h10 : l.k ≠ 10) (h5 : l.k ≠ 5) (h6 : l.k ≠ 6) (hx : l.k = 7 → Qh8 l.ps a.ps b.ps = none) :
  Qb1 l a b = if Xl l a b then a else if Xl l b a then b else Qw.zero := by
 rw [Qbl]
 simp only [beq_eq_false_iff_ne.2 h4, beq_eq_false_iff_ne.2 h10, beq_eq_false_iff_ne.2 h5, beq_eq_false_iff_ne.2 h6, Bool.or_self, Bool.false_eq_true, if_false]
 by_cases h7 : l.k = 7
 ·rw [if_pos (beq_iff_eq.2 h7), hx h7]
 ·rw [if_neg (by simpa using h7)]
def Qb3 : QD → Bool
 | .mk k _ _ _ ps _ => k == 9 || regsL ps
where regsL : List QD → Bool
 | [] => false
 | p :: r => Qb3 p || regsL r
theorem QhG : ∀ l : List QD, Qb3.regsL l = l.any Qb3
 | [] => rfl
 | p :: r => by rw [Qb3.regsL, List.any_cons, QhG r]
theorem Qkv (l : QD) : Qb3 l = (l.k == 9 || l.ps.any Qb3) := by
 cases l with
 | mk k lo hi nm ps rs => rw [Qb3, QhG]; rfl
def Qbr (l : QD) (vs : List Qw) : Qw := vs.foldl (QR l) (QU l)
theorem Qgb {l : QD} {vs : List Qw} {k : Nat} {x : Qw} (h : vs[k]? = some x) : Qbr l (vs.take (k + 1)) = QR l (Qbr l (vs.take k)) x := by
 unfold Qbr; rw [List.take_add_one, h]; simp
def WR (l : QD) (vs : List Qw) : Qw × Int := if JZ l vs = 0 then (Qbr l vs, 0) else (Qw.zero, JZ l vs)
def Qjg (l : QD) (vs : List Qw) : Prop := JoL l ∧ (∀ v ∈ vs, J6 500000 v) ∧ ∀ k, k ≤ vs.length → Qt (Qbr l (vs.take k)) l = true ∧ J6 500000 (Qbr l (vs.take k))
theorem QdU {α : Type} {p : α → Bool} {l : List α} {k : Nat} {x : α} (h : l[k]? = some x) : (l.take (k + 1)).all p = ((l.take k).all p && p x) := by
 rw [List.take_add_one, h]; simp
theorem QrO {tt : TypeId} {v w : Qw} (h : v = w) : some (Qx.var tt (Qz v)) = some (Qx.var tt (Qz w)) := by rw [h]
inductive ChL : QD → Prop
 | mk (l : QD) (h : Xp l = 0) (hp : ∀ p ∈ l.ps, ChL p) : ChL l
theorem ChL.ok {l : QD} (h : ChL l) : Xp l = 0 := by cases h; assumption
theorem ChL.part {l : QD} (h : ChL l) : ∀ p ∈ l.ps, ChL p := by cases h; assumption
end Go.Proofs.YtnkkokmmeplbgaaGreat
