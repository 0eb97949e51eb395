/-
  Plain words: meets; joins of lists; maximal elements; chains
-/
import Derived.Test.YtaecccdkjmipeaaGreatB10
import Derived.Test.YtaecccdkjmipeaaGreatA4
import Derived.Test.YtaecccdkjmipeaaGreatB11
namespace Go.Proofs.YtaecccdkjmipeaaGreat
set_option maxRecDepth 100000
set_option maxHeartbeats 1000000
open Go.RowKit
theorem Qus {l : List En} {k : Nat} {x : En} (h : l[k]? = some x) : ((l.take k).map enC) ++ Qg 2 1 (enC x) = ((l.take (k + 1)).map enC) := by
 rw [QrN, List.take_add_one, h]; simp
theorem cgE {tt : TypeId} {a b d : AV} {es es' : List (List AV)} {tk : Option Nat} (h : es = es') : some (QH.var tt [a, b, d, .sl es tk]) = some (QH.var tt [a, b, d, .sl es' tk]) := by rw [h]
theorem QqS (v : Qn) (h1 : v.nm.length ≤ 1000000) (h2 : v.ps.length ≤ 1000000) (h3 : v.es.length ≤ 1000000) (h4 : ∀ e ∈ v.es, e.1.length ≤ 64) (ih : ∀ p ∈ v.ps, FC Tryz.prog 143 [.agg (Xm p)] (.agg (Xm p))) : FC Tryz.prog 143 [.agg (Xm v)] (.agg (Xm v)) := by
 refine YV [.c 2 30 4 true] ⟨⟨inferInstance, rfl⟩, trivial⟩ Tryz.func143 rfl rfl 49 Tryz.ntmps143 (Nat.le_of_ble_eq_true rfl) ?_
 intro E hN
 refine Je ?_; refine QiI [0, 1, 2, 3, 4, 5] 6 [7] rfl (by kernel_rfl) (by kernel_rfl) ?_; refine QJ ?_
 refine zp (Qc (QmD v.nm h1) rfl rfl rfl) ?_; refine zp (XB rfl rfl rfl) ?_
 change FK _ _ _ _ _ _
 refine Qtf hN rfl rfl rfl rfl rfl rfl rfl ?_; change Qz _ _ _ _ _ _; refine YJ ?_
 refine Qu (Wn rfl 2 2 30 4 rfl rfl rfl) ?_
 refine Qi (fun x : {k : Nat // k ≤ (v.ps).length ∧ True} => ⟨[(1, .ptr 0 0), (2, .ptr 1 0), (3, .ptr 2 0), (15, JM v.ps), (16, i64 v.ps.length), (17, i64 (x.1 : Nat))], [(0, .var 30 (Xm v)), (1, .var 30 [i64 0, .p (.slice none 0 0), .p (.slice none 0 0), .p (.slice none 0 0)]), (2, .var 30 [i64 v.N, XU v.nm, .sl ((v.ps.take x.1).map Xx) (some 3), .p (.slice none 0 0)]), (3, .tok 30 4 ((v.ps.take x.1).map Xx).length)], 4⟩) (fun x => (v.ps).length - x.1) (⟨0, Nat.zero_le _, by simp⟩) ?_ ?_
 ·
  exact Qa rfl (QR ⟨(QE (by simp)), rfl, (Xu trivial)⟩) ⟨rfl, rfl, rfl, rfl, rfl, rfl, rfl, rfl, rfl, rfl, rfl, rfl, trivial⟩
 rintro ⟨k, hk, hg⟩
 dsimp only
 refine QA ?_
 refine zq ?_ ?_ <;> intro h21
 ·
  have hlt : k < (v.ps).length := by simpa using h21
  obtain ⟨x, hx⟩ := Qk hlt
  refine QA ?_; refine zP (Qh rfl rfl rfl k rfl _ (Xk hx) rfl) ?_; refine QJ ?_; refine Qy 5 (by kernel_rfl) (by kernel_rfl) ?_
  refine QC ?_; refine zp (Qc (ih x (List.mem_of_getElem? hx)) rfl rfl rfl) ?_
  refine zp (Qj rfl rfl rfl rfl (by exact rfl) (by decide) (by decide)) ?_; change Qz _ _ _ _ _ _
  refine Xh hN rfl rfl rfl (by simp) rfl rfl (Xa Qco _) rfl (by simp [Kf]; omega) rfl rfl rfl rfl ?_
  refine Je ?_; refine Qb ?_
  exact ⟨⟨k + 1, hlt, trivial⟩, Qa rfl (QR (Xu ⟨(QE (by dsimp only; omega)), rfl, trivial⟩)) ⟨rfl, rfl, rfl, rfl, rfl, rfl, (cgV (QoO hx)), rfl, rfl, (cgT (by simp [Kf]; omega)), rfl, rfl, trivial⟩, by dsimp only; omega⟩
 have hge : (v.ps).length ≤ k := by simpa using h21
 rw [List.take_of_length_le hge]
 refine XN ?_; refine Qu (Wn rfl 2 3 88 2 rfl rfl rfl) ?_
 refine Qi (fun x : {k : Nat // k ≤ (v.es).length ∧ True} => ⟨[(2, .ptr 1 0), (3, .ptr 2 0), (30, ens v.es), (31, i64 v.es.length), (32, i64 (x.1 : Nat))], [(1, .var 30 [i64 0, .p (.slice none 0 0), .p (.slice none 0 0), .p (.slice none 0 0)]), (2, .var 30 [i64 v.N, XU v.nm, .sl (v.ps.map Xx) (some 3), .sl ((v.es.take x.1).map enC) (some 4)]), (4, .tok 88 2 ((v.es.take x.1).map enC).length)], 5⟩) (fun x => (v.es).length - x.1) (⟨0, Nat.zero_le _, by simp⟩) ?_ ?_
 ·
  exact Qa rfl (Xl ⟨(QE (by simp)), rfl, (Xu trivial)⟩) ⟨rfl, rfl, rfl, rfl, rfl, rfl, rfl, rfl, rfl, trivial⟩
 rintro ⟨k, hk, hg⟩
 dsimp only
 refine QA ?_
 refine zq ?_ ?_ <;> intro h43
 rotate_left
 ·
  have hge : (v.es).length ≤ k := by simpa using h43
  rw [List.take_of_length_le hge]
  refine Je ?_; refine QG ?_
  change (resY _ _).bind AV.fzt = some _
  refine Yj rfl ?_
  rfl
 have hlt : k < (v.es).length := by simpa using h43
 obtain ⟨x, hx⟩ := Qk hlt
 refine QA ?_; refine zP (Qh rfl rfl rfl k rfl _ (Qq hx) rfl) ?_; refine QJ ?_; refine Qy 9 (by kernel_rfl) (by kernel_rfl) ?_
 refine QJ ?_
 refine zp (Qc (QmZ x.1 (by have := h4 x (List.mem_of_getElem? hx); omega)) rfl rfl rfl) ?_
 refine QO ?_; refine zp (XB rfl rfl rfl) ?_; refine zp (Qj rfl rfl rfl rfl (by exact rfl) (by decide) (by decide)) ?_
 change Qz _ _ _ _ _ _
 refine Xh hN rfl rfl rfl (by simp) rfl rfl (Xa Qmq _) rfl (by simp [Xd]; omega) rfl rfl rfl rfl ?_
 refine Je ?_; refine Qb ?_
 exact ⟨⟨k + 1, hlt, trivial⟩, Qa rfl (QR ⟨(QE (by dsimp only; omega)), rfl, trivial⟩) ⟨rfl, rfl, rfl, (cgE (Qus hx)), rfl, rfl, (cgT (by simp [Xd]; omega)), rfl, rfl, trivial⟩, by dsimp only; omega⟩
theorem Qix (v : Qn) (h : SmV 1000000 v) : FC Tryz.prog 143 [.agg (Xm v)] (.agg (Xm v)) := QqS v h.nm h.ps h.es h.en (fun p hp => Qix p (h.part p hp))
termination_by v
decreasing_by exact Qn.sizeOf_ps ‹_›
inductive JoL : Qs → Prop
 | mk (l : Qs) (h : l.k = 10 → ∀ s, Qo s = true → (∀ x ∈ s, x ∈ l.nm) → FC Tryz.prog 168 [XU l.nm, rus l.rs, XU s] (.tup [XU (WR l.nm l.rs s), i64 0])) (hp : ∀ p ∈ l.ps, JoL p) : JoL l
theorem JoL.close {l : Qs} (h : JoL l) : l.k = 10 → ∀ s, Qo s = true → (∀ x ∈ s, x ∈ l.nm) → FC Tryz.prog 168 [XU l.nm, rus l.rs, XU s] (.tup [XU (WR l.nm l.rs s), i64 0]) := by cases h; assumption
theorem JoL.part {l : Qs} (h : JoL l) : ∀ p ∈ l.ps, JoL p := by cases h; assumption
theorem Qp0 {l : Qs} (hO : Kv l) (hk : l.k = 10) : l.nm ≠ [] := by
 have h := hO.shape
 unfold Xq at h
 rw [if_pos (by rw [hk]; decide)] at h
 intro e
 rw [show Yg l = true by unfold Yg; rw [hk, e]; rfl, Bool.or_true] at h
 simp [Yh] at h
theorem Qch {l : Qs} {v : Qn} (hO : Kv l) (hk : l.k = 10) (hv : Qr v l = true) : ∀ s ∈ v.nm, s ∈ l.nm := fun s hs => by
 obtain ⟨-, -, -, -, h, -⟩ := Yq hv (.inr hk)
 have h1 := h s hs
 have h2 : ((l.nm.length : Int) > 0) := by
  have := List.length_pos_iff.2 (Qp0 hO hk)
  omega
 simp only [Y7, h2, decide_true, Bool.true_and, Bool.and_eq_true, Bool.not_eq_true', Bool.not_eq_false'] at h1
 exact Jb.1 (by simpa using h1.2)
theorem Ke {l : Qs} {a b : Qn} (h4 : l.k ≠ 4) (h10 : l.k ≠ 10) (h9 : l.k ≠ 9) (h5 : l.k ≠ 5) (h6 : l.k ≠ 6) (hx : l.k = 7 → Qar l.ps a.ps b.ps = none) :
  QK l a b = if QU l a b then b else if QU l b a then a else .mk 2 [] [] [] := by
 rw [Jh]
 simp only [beq_eq_false_iff_ne.2 h4, beq_eq_false_iff_ne.2 h10, beq_eq_false_iff_ne.2 h9, beq_eq_false_iff_ne.2 h5, beq_eq_false_iff_ne.2 h6, Bool.false_eq_true, if_false]
 by_cases h7 : l.k = 7
 ·rw [if_pos (beq_iff_eq.2 h7), hx h7]
 rw [if_neg (by simpa using h7)]
section
variable {a b : Qn} {q : Qs} {x : Nm}
theorem Qez {v : Qn} (hl : v.nm.length = v.ps.length) (h : decide (X5 x v.nm 0 < 0) = false) : ∃ (i : Nat) (y : Qn), X5 x v.nm 0 = (i : Int) ∧ v.ps[i]? = some y ∧ JZ v x = some y := by
 rcases QbP x v.nm 0 with h1 | ⟨j, -, h2, h3⟩
 ·rw [h1] at h; cases h
 obtain ⟨y, hy⟩ := Qk (show j < v.ps.length by omega)
 exact ⟨j, y, h3, hy, QfS h3 hy⟩
theorem jc_b (hm : x ∈ a.nm ∨ x ∈ b.nm) (h : decide (X5 x a.nm 0 < 0) = true) (lb : b.nm.length = b.ps.length) : ∃ (j : Nat) (y : Qn), X5 x b.nm 0 = (j : Int) ∧ b.ps[j]? = some y ∧ Yy q a b x = y := by
 have h0 := of_decide_eq_true h
 have hb : x ∈ b.nm := by
  rcases hm with hm | hm
  ·have := Qdu x a.nm 0
   rw [Jb.2 hm] at this
   have := of_decide_eq_true this
   omega
  exact hm
 have h1 : decide (X5 x b.nm 0 < 0) = false := by
  have := Qdu x b.nm 0
  rw [Jb.2 hb] at this
  have := of_decide_eq_true this
  exact decide_eq_false (by omega)
 obtain ⟨j, y, g1, g2, g3⟩ := Qez lb h1
 exact ⟨j, y, g1, g2, QwM (QcS h0) g3⟩
theorem jc_a (h1 : decide (X5 x a.nm 0 < 0) = false) (h2 : decide (X5 x b.nm 0 < 0) = true) (la : a.nm.length = a.ps.length) : ∃ (j : Nat) (y : Qn), X5 x a.nm 0 = (j : Int) ∧ a.ps[j]? = some y ∧ Yy q a b x = y := by
 obtain ⟨j, y, g1, g2, g3⟩ := Qez la h1
 exact ⟨j, y, g1, g2, QwG g3 (QcS (of_decide_eq_true h2))⟩
theorem jc_2 (h1 : decide (X5 x a.nm 0 < 0) = false) (h2 : decide (X5 x b.nm 0 < 0) = false) (la : a.nm.length = a.ps.length) (lb : b.nm.length = b.ps.length) :
  ∃ (i : Nat) (x1 : Qn) (j : Nat) (y : Qn), X5 x a.nm 0 = (i : Int) ∧ a.ps[i]? = some x1 ∧ X5 x b.nm 0 = (j : Int) ∧ b.ps[j]? = some y ∧ Yy q a b x = QK q x1 y := by
 obtain ⟨i, x1, g1, g2, g3⟩ := Qez la h1
 obtain ⟨j, y, k1, k2, k3⟩ := Qez lb h2
 exact ⟨i, x1, j, y, g1, g2, k1, k2, Qwr g3 k3⟩
end
theorem Qvz (l : Qs) (hO : Kv l) (hJ : JoL l) (ih : ∀ q ∈ l.ps, ∀ x y, Qr x q = true → Qr y q = true → SmV 500000 x → SmV 500000 y → FC Tryz.prog 142 [.agg (QF q), .agg (Xm x), .agg (Xm y)] (.agg (Xm (QK q x y)))) (a b : Qn) (ha : Qr a l = true) (hb : Qr b l = true) (sa : SmV 500000 a) (sb : SmV 500000 b) : FC Tryz.prog 142 [.agg (QF l), .agg (Xm a), .agg (Xm b)] (.agg (Xm (QK l a b))) := by
 have na := sa.nm
 have nb := sb.nm
 have nea := sa.es
 have neb := sb.es
 have npl := hO.small
 refine YV [.c 6 30 4 true] ⟨⟨inferInstance, rfl⟩, trivial⟩ Tryz.func142 rfl rfl 195 Tryz.ntmps142 (Nat.le_of_ble_eq_true rfl) ?_
 intro E hN
 refine Qil ?_
 refine zq ?_ ?_ <;> intro h10
 ·
  have hk : l.k = 4 := by simpa using h10
  obtain ⟨-, -, -, hsa, -, -⟩ := Yq ha (.inl hk)
  obtain ⟨-, -, -, hsb, -, -⟩ := Yq hb (.inl hk)
  have hE : QK l a b = .mk 0 (uni a.nm b.nm) [] [] := by rw [Jh, hk]; rfl
  refine Je ?_; refine zP (Qc (QhL _ _ hsa hsb (by omega)) rfl rfl rfl) ?_; refine QC ?_; refine QG ?_
  change (resY _ _).bind AV.fzt = some _
  refine Yj rfl ?_
  rw [hE]; rfl
 have hk4 : l.k ≠ 4 := by simpa using h10
 refine QA ?_
 refine zq ?_ ?_ <;> intro h18
 ·
  have hk : l.k = 10 := by simpa using h18
  obtain ⟨-, -, -, hsa, -, -⟩ := Yq ha (.inr hk)
  obtain ⟨-, -, -, hsb, -, -⟩ := Yq hb (.inr hk)
  have hE : QK l a b = .mk 0 (WR l.nm l.rs (uni a.nm b.nm)) [] [] := by rw [Jh, hk]; rfl
  refine KO ?_; refine Qy 14 (by kernel_rfl) (by kernel_rfl) ?_; refine XJ ?_
  refine zp (Qc (QhL _ _ hsa hsb (by omega)) rfl rfl rfl) ?_
  refine X1 hN (Qc (hJ.close hk _ (QaV hsa hsb) (fun x hx => by
     rcases (Qag hsa hsb).1 hx with hx | hx
     ·exact Qch hO hk ha x hx
     exact Qch hO hk hb x hx)) rfl rfl rfl) rfl rfl rfl rfl ?_
  refine QC ?_; refine zp (JP rfl rfl) ?_; change Qz _ _ _ _ _ _; refine XJ ?_; refine QG ?_
  change (resY _ _).bind AV.fzt = some _
  refine Yj rfl ?_
  rw [hE]; rfl
 have hk10 : l.k ≠ 10 := by simpa using h18
 refine QA ?_
 refine zq ?_ ?_ <;> intro h33
 ·
  have hk : l.k = 9 := by simpa using h33
  have hE : QK l a b = .mk 0 [] [] (Yo a.es b.es) := by rw [Jh, hk]; rfl
  refine Je ?_; refine zP (Qc (Qp9 _ _ (by omega)) rfl rfl rfl) ?_; refine QC ?_; refine QG ?_
  change (resY _ _).bind AV.fzt = some _
  refine Yj rfl ?_
  rw [hE]; rfl
 have hk9 : l.k ≠ 9 := by simpa using h33
 refine QA ?_
 refine zq ?_ ?_ <;> intro h41
 ·
  have hk : l.k = 5 := by simpa using h41
  obtain ⟨q, hps⟩ := YP hO hk
  have hq0 : l.ps[0]? = some q := by rw [hps]; rfl
  obtain ⟨-, -, hla, hsa, -, hea⟩ := J6 ha hk hps
  obtain ⟨-, -, hlb, hsb, -, heb⟩ := J6 hb hk hps
  have hul := QjG hsa hsb
  have hE : QK l a b = .mk 0 (uni a.nm b.nm) ((uni a.nm b.nm).map (Yy q a b)) [] := by rw [Jh, hk, hps, Qdx]; rfl
  refine XN ?_; refine zP (Qc (QhL _ _ hsa hsb (by omega)) rfl rfl rfl) ?_; refine JA ?_
  refine Qu (Wn rfl 4 2 30 4 rfl rfl rfl) ?_
  refine Qi (fun x : {k : Nat // k ≤ (uni a.nm b.nm).length ∧ True} => ⟨[(3, .ptr 0 0), (4, .ptr 1 0), (5, .ptr 2 0), (6, .ptr 3 0), (9, .ptr 4 0), (61, XU (uni a.nm b.nm)), (62, i64 (uni a.nm b.nm).length), (63, i64 (x.1 : Nat))], [(0, .var 26 (QF l)), (1, .var 30 (Xm a)), (2, .var 30 (Xm b)), (3, .var 30 [i64 0, .p (.slice none 0 0), .p (.slice none 0 0), .p (.slice none 0 0)]), (4, .var 30 [i64 0, XU (uni a.nm b.nm), .sl ((((uni a.nm b.nm).take x.1).map (Yy q a b)).map Xx) (some 5), .p (.slice none 0 0)]), (5, .tok 30 4 ((((uni a.nm b.nm).take x.1).map (Yy q a b)).map Xx).length)], 6⟩) (fun x => (uni a.nm b.nm).length - x.1) (⟨0, Nat.zero_le _, by simp⟩) ?_ ?_
  ·
   exact Qa rfl (QR (Jg ⟨(QE (by simp)), rfl, (Xu trivial)⟩)) ⟨rfl, rfl, rfl, rfl, rfl, rfl, rfl, rfl, rfl, rfl, rfl, rfl, rfl, rfl, rfl, rfl, rfl, rfl, trivial⟩
  rintro ⟨k, hk, hg⟩
  dsimp only
  refine QA ?_
  refine zq ?_ ?_ <;> intro h61
  rotate_left
  ·
   have hge : (uni a.nm b.nm).length ≤ k := by simpa using h61
   rw [List.take_of_length_le hge]
   refine Je ?_; refine QG ?_
   change (resY _ _).bind AV.fzt = some _
   refine Yj rfl ?_
   rw [hE]; rfl
  have hlt : k < (uni a.nm b.nm).length := by simpa using h61
  obtain ⟨x, hx⟩ := Qk hlt
  have hxm := (Qag hsa hsb).1 (List.mem_of_getElem? hx)
  refine QA ?_; refine zP (Qh rfl rfl rfl k rfl _ (Qq hx) rfl) ?_; refine QJ ?_; refine Qy 9 (by kernel_rfl) (by kernel_rfl) ?_
  refine QC ?_; refine zp (Qc (QeV _ _) rfl rfl rfl) ?_; refine QC ?_; refine zp (Qc (QeV _ _) rfl rfl rfl) ?_
  refine zp (JP rfl rfl) ?_; change Qz _ _ _ _ _ _; refine JU ?_
  refine zq ?_ ?_ <;> intro h70
  ·
   obtain ⟨j, y, hj, hy, hF⟩ := jc_b (q := q) hxm h70 hlb
   refine Qy 8 (by kernel_rfl) (by kernel_rfl) ?_; refine QA ?_; refine zp (Qh rfl rfl rfl j hj _ (Xk hy) rfl) ?_; refine zl ?_
   refine zp (Qj rfl rfl rfl rfl (by exact rfl) (by decide) (by decide)) ?_; change Qz _ _ _ _ _ _
   refine Xh hN rfl rfl rfl (by simp) rfl rfl (Xa Qco _) rfl (by simp [Kf]; omega) rfl rfl rfl rfl ?_
   refine Je ?_; refine Qb ?_
   exact ⟨⟨k + 1, hlt, trivial⟩, Qa rfl (QR (Xl ⟨(QE (by dsimp only; omega)), rfl, trivial⟩)) ⟨rfl, rfl, rfl, rfl, rfl, rfl, rfl, rfl, rfl, rfl, rfl, rfl, (cgV (QjR hx hF)), rfl, rfl, (cgT (by simp [Kf]; omega)), rfl, rfl, trivial⟩, by dsimp only; omega⟩
  have h17 := h70
  refine Je ?_
  refine zq ?_ ?_ <;> intro h82
  ·
   obtain ⟨i, x1, hi, hx1, hF⟩ := jc_a (q := q) h17 h82 hla
   refine Qy 8 (by kernel_rfl) (by kernel_rfl) ?_; refine QA ?_; refine zp (Qh rfl rfl rfl i hi _ (Xk hx1) rfl) ?_; refine zl ?_
   refine zp (Qj rfl rfl rfl rfl (by exact rfl) (by decide) (by decide)) ?_; change Qz _ _ _ _ _ _
   refine Xh hN rfl rfl rfl (by simp) rfl rfl (Xa Qco _) rfl (by simp [Kf]; omega) rfl rfl rfl rfl ?_
   refine Je ?_; refine Qb ?_
   exact ⟨⟨k + 1, hlt, trivial⟩, Qa rfl (QR (Xl ⟨(QE (by dsimp only; omega)), rfl, trivial⟩)) ⟨rfl, rfl, rfl, rfl, rfl, rfl, rfl, rfl, rfl, rfl, rfl, rfl, (cgV (QjR hx hF)), rfl, rfl, (cgT (by simp [Kf]; omega)), rfl, rfl, trivial⟩, by dsimp only; omega⟩
  obtain ⟨i, x1, j, y, hi, hx1, hj, hy, hF⟩ := jc_2 (q := q) h17 h82 hla hlb
  refine Qy 18 (by kernel_rfl) (by kernel_rfl) ?_; refine QJ ?_; refine zp (Qh rfl rfl rfl 0 rfl _ (Xt hq0) rfl) ?_; refine QJ ?_
  refine zp (Qh rfl rfl rfl i hi _ (Xk hx1) rfl) ?_; refine QJ ?_; refine zp (Qh rfl rfl rfl j hj _ (Xk hy) rfl) ?_; refine zl ?_
  refine zp (Qc (ih q (by rw [hps]; simp) x1 y (hea x1 (List.mem_of_getElem? hx1)).1 (heb y (List.mem_of_getElem? hy)).1 (sa.part x1 (List.mem_of_getElem? hx1)) (sb.part y (List.mem_of_getElem? hy))) rfl rfl rfl) ?_
  refine zp (Qj rfl rfl rfl rfl (by exact rfl) (by decide) (by decide)) ?_; change Qz _ _ _ _ _ _
  refine Xh hN rfl rfl rfl (by simp) rfl rfl (Xa Qco _) rfl (by simp [Kf]; omega) rfl rfl rfl rfl ?_
  refine Je ?_; refine Qb ?_
  exact ⟨⟨k + 1, hlt, trivial⟩, Qa rfl (QR (Xl ⟨(QE (by dsimp only; omega)), rfl, trivial⟩)) ⟨rfl, rfl, rfl, rfl, rfl, rfl, rfl, rfl, rfl, rfl, rfl, rfl, (cgV (QjR hx hF)), rfl, rfl, (cgT (by simp [Kf]; omega)), rfl, rfl, trivial⟩, by dsimp only; omega⟩
 have hk5 : l.k ≠ 5 := by simpa using h41
 refine QA ?_
 refine zq ?_ ?_ <;> intro h116
 ·
  have hk : l.k = 6 := by simpa using h116
  obtain ⟨-, -, -, hla, hza⟩ := JJ ha (.inl hk)
  obtain ⟨-, -, -, hlb, hzb⟩ := JJ hb (.inl hk)
  have hjl := Qfr hla hlb
  have hE : QK l a b = .mk 0 [] (Wo l.ps a.ps b.ps) [] := by rw [Jh, hk]; rfl
  refine Wi ?_; refine Qu (Wn rfl 4 2 30 4 rfl rfl rfl) ?_
  refine Qi (fun x : {k : Nat // k ≤ (l.ps).length ∧ True} => ⟨[(3, .ptr 0 0), (4, .ptr 1 0), (5, .ptr 2 0), (6, .ptr 3 0), (14, .ptr 4 0), (126, Qp5 l.ps), (127, i64 l.ps.length), (128, i64 (x.1 : Nat))], [(0, .var 26 (QF l)), (1, .var 30 (Xm a)), (2, .var 30 (Xm b)), (3, .var 30 [i64 0, .p (.slice none 0 0), .p (.slice none 0 0), .p (.slice none 0 0)]), (4, .var 30 [i64 0, .p (.slice none 0 0), .sl (((Wo l.ps a.ps b.ps).take x.1).map Xx) (some 5), .p (.slice none 0 0)]), (5, .tok 30 4 (((Wo l.ps a.ps b.ps).take x.1).map Xx).length)], 6⟩) (fun x => (l.ps).length - x.1) (⟨0, Nat.zero_le _, by simp⟩) ?_ ?_
  ·
   exact Qa rfl (QR (Jg ⟨(QE (by simp)), rfl, (Xu trivial)⟩)) ⟨rfl, rfl, rfl, rfl, rfl, rfl, rfl, rfl, rfl, rfl, rfl, rfl, rfl, rfl, rfl, rfl, rfl, rfl, trivial⟩
  rintro ⟨k, hk, hg⟩
  dsimp only
  refine QA ?_
  refine zq ?_ ?_ <;> intro h129
  rotate_left
  ·
   have hge : (l.ps).length ≤ k := by simpa using h129
   rw [List.take_of_length_le (by rw [hjl]; exact hge)]
   refine Je ?_; refine QG ?_
   change (resY _ _).bind AV.fzt = some _
   refine Yj rfl ?_
   rw [hE]; rfl
  have hlt : k < l.ps.length := by simpa using h129
  obtain ⟨q, hq⟩ := Qk hlt
  obtain ⟨x, hx⟩ := Qk (show k < a.ps.length by omega)
  obtain ⟨y, hy⟩ := Qk (show k < b.ps.length by omega)
  refine Je ?_; refine zP (Qh rfl rfl rfl k rfl _ (Xt hq) rfl) ?_; refine QA ?_; refine Qy 15 (by kernel_rfl) (by kernel_rfl) ?_
  refine Je ?_; refine zp (Qh rfl rfl rfl k rfl _ (Xk hx) rfl) ?_; refine QJ ?_; refine zp (Qh rfl rfl rfl k rfl _ (Xk hy) rfl) ?_
  refine zl ?_
  refine zp (Qc (ih q (List.mem_of_getElem? hq) x y (XP hza hx hq) (XP hzb hy hq) (sa.part x (List.mem_of_getElem? hx)) (sb.part y (List.mem_of_getElem? hy))) rfl rfl rfl) ?_
  refine zp (Qj rfl rfl rfl rfl (by exact rfl) (by decide) (by decide)) ?_; change Qz _ _ _ _ _ _
  refine Xh hN rfl rfl rfl (by simp) rfl rfl (Xa Qco _) rfl (by simp [Kf]; omega) rfl rfl rfl rfl ?_
  refine Je ?_; refine Qb ?_
  exact ⟨⟨k + 1, hlt, trivial⟩, Qa rfl (QR (Xl ⟨(QE (by dsimp only; omega)), rfl, trivial⟩)) ⟨rfl, rfl, rfl, rfl, rfl, rfl, rfl, rfl, rfl, rfl, rfl, rfl, (cgV (QoO (Qfy hq hx hy))), rfl, rfl, (cgT (by simp [Kf]; omega)), rfl, rfl, trivial⟩, by dsimp only; omega⟩
 have hk6 : l.k ≠ 6 := by simpa using h116
 refine QA ?_
 refine zq ?_ ?_ <;> intro h153
 rotate_left
 ·
  have hx : l.k = 7 → Qar l.ps a.ps b.ps = none := fun e => absurd e (by simpa using h153)
  refine XJ ?_; refine zP (Qc (Qhf l hO a b ha hb) rfl rfl rfl) ?_; refine zT ?_
  refine zq ?_ ?_ <;> intro h200
  ·
   have h34 := h200
   refine QA ?_; refine QG ?_
   change (resY _ _).bind AV.fzt = some _
   refine Yj rfl ?_
   rw [Ke hk4 hk10 hk9 hk5 hk6 hx, if_pos h34]
  have h34 := h200
  refine QA ?_; refine zP (Qc (Qhf l hO b a hb ha) rfl rfl rfl) ?_; refine zT ?_
  refine zq ?_ ?_ <;> intro h206
  ·
   have h36 := h206
   refine QA ?_; refine QG ?_
   change (resY _ _).bind AV.fzt = some _
   refine Yj rfl ?_
   rw [Ke hk4 hk10 hk9 hk5 hk6 hx, if_neg (by rw [h34]; decide), if_pos h36]
  have h36 := h206
  refine Je ?_; refine QG ?_
  change (resY _ _).bind AV.fzt = some _
  refine Yj rfl ?_
  rw [Ke hk4 hk10 hk9 hk5 hk6 hx, if_neg (by rw [h34]; decide), if_neg (by rw [h36]; decide)]; rfl
 have hk : l.k = 7 := by simpa using h153
 obtain ⟨q1, q2, hps⟩ := Kt hO.shape hk
 obtain ⟨x1, x2, hpa, hx1, hx2⟩ := Yw ha hk hps
 obtain ⟨y1, y2, hpb, hy1, hy2⟩ := Yw hb hk hps
 have hq2' : l.ps[1]? = some q2 := by rw [hps]; rfl
 have hx1' : a.ps[0]? = some x1 := by rw [hpa]; rfl
 have hx2' : a.ps[1]? = some x2 := by rw [hpa]; rfl
 have hy1' : b.ps[0]? = some y1 := by rw [hpb]; rfl
 have hy2' : b.ps[1]? = some y2 := by rw [hpb]; rfl
 refine KO ?_; refine Qy 8 (by kernel_rfl) (by kernel_rfl) ?_; refine QO ?_; refine zp (Qh rfl rfl rfl 0 rfl _ (Xk hx1') rfl) ?_
 refine QC ?_; refine zp (Qh rfl rfl rfl 0 rfl _ (Xk hy1') rfl) ?_; refine zl ?_; change Qz _ _ _ _ _ _
 refine zP (Qc (Qhr _ _) rfl rfl rfl) ?_; refine zN ?_
 refine zq ?_ ?_ <;> intro h162
 ·
  have hE : QK l a b = .mk 0 [] [x1, QK q2 x2 y2] [] := by rw [Jh, hk, hps, hpa, hpb]; simp [Qar, h162]
  refine KO ?_; refine Qy 19 (by kernel_rfl) (by kernel_rfl) ?_; refine QO ?_; refine zp (Qh rfl rfl rfl 0 rfl _ (Xk hx1') rfl) ?_
  refine QC ?_; refine zp (Qh rfl rfl rfl 1 rfl _ (Xt hq2') rfl) ?_; refine QC ?_
  refine zp (Qh rfl rfl rfl 1 rfl _ (Xk hx2') rfl) ?_; refine QC ?_; refine zp (Qh rfl rfl rfl 1 rfl _ (Xk hy2') rfl) ?_
  refine zl ?_
  refine zp (Qc (ih q2 (by rw [hps]; simp) x2 y2 hx2 hy2 (sa.part x2 (by rw [hpa]; simp)) (sb.part y2 (by rw [hpb]; simp))) rfl rfl rfl) ?_
  refine zp (Qi6 rfl rfl rfl rfl (by exact rfl) (by decide) (by decide) (QqR _ _)) ?_; refine zp (XB rfl rfl rfl) ?_
  change Qz _ _ _ _ _ _; refine QO ?_; refine QG ?_
  change (resY _ _).bind AV.fzt = some _
  refine Yj rfl ?_
  rw [hE]; rfl
 have hx : l.k = 7 → Qar l.ps a.ps b.ps = none := fun _ => by rw [hps, hpa, hpb, Qar, h162]; rfl
 refine XJ ?_; refine zP (Qc (Qhf l hO a b ha hb) rfl rfl rfl) ?_; refine zT ?_
 refine zq ?_ ?_ <;> intro h186
 ·
  have h34 := h186
  refine QA ?_; refine QG ?_
  change (resY _ _).bind AV.fzt = some _
  refine Yj rfl ?_
  rw [Ke hk4 hk10 hk9 hk5 hk6 hx, if_pos h34]
 have h34 := h186
 refine QA ?_; refine zP (Qc (Qhf l hO b a hb ha) rfl rfl rfl) ?_; refine zT ?_
 refine zq ?_ ?_ <;> intro h192
 ·
  have h36 := h192
  refine QA ?_; refine QG ?_
  change (resY _ _).bind AV.fzt = some _
  refine Yj rfl ?_
  rw [Ke hk4 hk10 hk9 hk5 hk6 hx, if_neg (by rw [h34]; decide), if_pos h36]
 have h36 := h192
 refine Je ?_; refine QG ?_
 change (resY _ _).bind AV.fzt = some _
 refine Yj rfl ?_
 rw [Ke hk4 hk10 hk9 hk5 hk6 hx, if_neg (by rw [h34]; decide), if_neg (by rw [h36]; decide)]; rfl
theorem Qot (l : Qs) (hO : Kv l) (hJ : JoL l) (a b : Qn) (ha : Qr a l = true) (hb : Qr b l = true) (sa : SmV 500000 a) (sb : SmV 500000 b) : FC Tryz.prog 142 [.agg (QF l), .agg (Xm a), .agg (Xm b)] (.agg (Xm (QK l a b))) := Qvz l hO hJ (fun q hq x y hx hy sx sy => Qot q (hO.part q hq) (hJ.part q hq) x y hx hy sx sy) a b ha hb sa sb
termination_by l
decreasing_by exact Qs.sizeOf_ps ‹_›
end Go.Proofs.YtaecccdkjmipeaaGreat
namespace Go.Proofs.YtaecccdkjmipeaaGreat
open Go.RowKit
mutual
def Q3 : Qs → Qn → Qn → Qn
 | .mk k lo hi nm ps rs, a, b =>
  if k == 4 || k == 10 then .mk 0 (itr a.nm b.nm) [] []
  else if k == 5 then .mk 0 ((Qjm ps (a.nm.zip a.ps) b).map Prod.fst) ((Qjm ps (a.nm.zip a.ps) b).map Prod.snd) []
  else if k == 6 then .mk 0 [] (QaI ps a.ps b.ps) []
  else match (if k == 7 then Qga ps a.ps b.ps else none) with
   | some v => v
   | none => if QU (.mk k lo hi nm ps rs) a b then a else if QU (.mk k lo hi nm ps rs) b a then b else Qn.zero
def Qjm : List Qs → List (Nm × Qn) → Qn → List (Nm × Qn)
 | [], _, _ => []
 | q :: _, l, b => l.filterMap fun x => match JZ b x.1 with
  | none => none
  | some y => if eqV (Q3 q x.2 y) (KZ q).1 then none else some (x.1, Q3 q x.2 y)
def QaI : List Qs → List Qn → List Qn → List Qn
 | q :: r, x :: a, y :: b => Q3 q x y :: QaI r a b
 | _, _, _ => []
def Qga : List Qs → List Qn → List Qn → Option Qn
 | [_, q], [x1, x2], [y1, y2] => if eqV x1 y1 then some (.mk 0 [] [x1, Q3 q x2 y2] []) else none
 | _, _, _ => none
end
def Qjt (q : Qs) (b : Qn) (x : Nm × Qn) : Option (Nm × Qn) := match JZ b x.1 with
 | none => none
 | some y => if eqV (Q3 q x.2 y) (KZ q).1 then none else some (x.1, Q3 q x.2 y)
theorem Qpk (q : Qs) (r : List Qs) (l : List (Nm × Qn)) (b : Qn) : Qjm (q :: r) l b = l.filterMap (Qjt q b) := by rw [Qjm]; rfl
theorem Qaj (l : Qs) (a b : Qn) : Q3 l a b =
  if l.k == 4 || l.k == 10 then .mk 0 (itr a.nm b.nm) [] []
  else if l.k == 5 then .mk 0 ((Qjm l.ps (a.nm.zip a.ps) b).map Prod.fst) ((Qjm l.ps (a.nm.zip a.ps) b).map Prod.snd) []
  else if l.k == 6 then .mk 0 [] (QaI l.ps a.ps b.ps) []
  else match (if l.k == 7 then Qga l.ps a.ps b.ps else none) with
   | some v => v
   | none => if QU l a b then a else if QU l b a then b else Qn.zero := by
 cases l with
 | mk k lo hi nm ps rs => rw [Q3]; rfl
section
variable {q : Qs} {b : Qn} {x : Nm} {p y : Qn}
end
theorem Qg6 : ∀ {ls : List Qs} {xs ys : List Qn}, xs.length = ls.length → ys.length = ls.length → (QaI ls xs ys).length = ls.length
 | [], [], [], _, _ => by simp [QaI]
 | q :: r, x :: a, y :: b, h1, h2 => by rw [QaI]; simp [Qg6 (ls := r) (by simpa using h1) (by simpa using h2)]
 | [], _ :: _, _, h, _ => by simp at h
 | [], [], _ :: _, _, h => by simp at h
 | _ :: _, [], _, h, _ => by simp at h
 | _ :: _, _ :: _, [], _, h => by simp at h
theorem Qg0 : ∀ {ls : List Qs} {xs ys : List Qn} {k : Nat} {q : Qs} {x y : Qn}, ls[k]? = some q → xs[k]? = some x → ys[k]? = some y → (QaI ls xs ys)[k]? = some (Q3 q x y)
 | q :: r, x :: a, y :: b, 0, q', x', y', h1, h2, h3 => by simp at h1 h2 h3; subst h1 h2 h3; rw [QaI]; rfl
 | q :: r, x :: a, y :: b, k + 1, q', x', y', h1, h2, h3 => by rw [QaI]; exact Qg0 (ls := r) (by simpa using h1) (by simpa using h2) (by simpa using h3)
 | [], _, _, _, _, _, _, h, _, _ => by simp at h
 | _ :: _, [], _, _, _, _, _, _, h, _ => by simp at h
 | _ :: _, _ :: _, [], _, _, _, _, _, _, h => by simp at h
theorem QgV {l : Qs} {a b : Qn} (h4 : l.k ≠ 4) (h10 : l.k ≠ 10) (h5 : l.k ≠ 5) (h6 : l.k ≠ 6) (hx : l.k = 7 → Qga l.ps a.ps b.ps = none) :
  Q3 l a b = if QU l a b then a else if QU l b a then b else Qn.zero := by
 rw [Qaj]
 simp only [beq_eq_false_iff_ne.2 h4, beq_eq_false_iff_ne.2 h10, beq_eq_false_iff_ne.2 h5, beq_eq_false_iff_ne.2 h6, Bool.or_self, Bool.false_eq_true, if_false]
 by_cases h7 : l.k = 7
 ·rw [if_pos (beq_iff_eq.2 h7), hx h7]
 ·rw [if_neg (by simpa using h7)]
def QaR : Qs → Bool
 | .mk k _ _ _ ps _ => k == 9 || regsL ps
where regsL : List Qs → Bool
 | [] => false
 | p :: r => QaR p || regsL r
theorem QiG : ∀ l : List Qs, QaR.regsL l = l.any QaR
 | [] => rfl
 | p :: r => by rw [QaR.regsL, List.any_cons, QiG r]
theorem QcZ (l : Qs) : QaR l = (l.k == 9 || l.ps.any QaR) := by
 cases l with
 | mk k lo hi nm ps rs => rw [QaR, QiG]; rfl
def QbA (l : Qs) (vs : List Qn) : Qn := vs.foldl (QK l) (QL l)
theorem QgT {l : Qs} {vs : List Qn} {k : Nat} {x : Qn} (h : vs[k]? = some x) : QbA l (vs.take (k + 1)) = QK l (QbA l (vs.take k)) x := by
 unfold QbA; rw [List.take_add_one, h]; simp
def Qao (l : Qs) (vs : List Qn) : Qn × Int := if KL l vs = 0 then (QbA l vs, 0) else (Qn.zero, KL l vs)
def QnL (l : Qs) (vs : List Qn) : Prop := JoL l ∧ (∀ v ∈ vs, SmV 500000 v) ∧ ∀ k, k ≤ vs.length → Qr (QbA l (vs.take k)) l = true ∧ SmV 500000 (QbA l (vs.take k))
theorem QuE {tt : TypeId} {v w : Qn} (h : v = w) : some (QH.var tt (Xm v)) = some (QH.var tt (Xm w)) := by rw [h]
inductive ChL : Qs → Prop
 | mk (l : Qs) (h : Q0 l = 0) (hp : ∀ p ∈ l.ps, ChL p) : ChL l
theorem ChL.ok {l : Qs} (h : ChL l) : Q0 l = 0 := by cases h; assumption
theorem ChL.part {l : Qs} (h : ChL l) : ∀ p ∈ l.ps, ChL p := by cases h; assumption
end Go.Proofs.YtaecccdkjmipeaaGreat
