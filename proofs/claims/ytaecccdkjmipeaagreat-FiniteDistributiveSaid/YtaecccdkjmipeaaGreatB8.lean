/-
  Contracts: the order of a lattice's elements.
-/
import Derived.Test.YtaecccdkjmipeaaGreatB7
import Derived.Test.YtaecccdkjmipeaaGreatA3
namespace Go.Proofs.YtaecccdkjmipeaaGreat
set_option maxRecDepth 100000
set_option maxHeartbeats 1000000
open Go.RowKit
def QcN (p q : En) : Bool := if Qet p.1 q.1 == 1 then true else if Qet p.1 q.1 == 0 then p.2 == q.2 else false
def KN (l : List En) (p : En) : Bool := l.any (QcN p)
def WD {α : Type} (q : α → Bool) : List α → Nat → Int
 | [], _ => -1
 | x :: l, i => if q x then (i : Int) else WD q l (i + 1)
theorem Qho {α : Type} (q : α → Bool) : ∀ (l : List α) (i : Nat), decide (WD q l i ≥ 0) = l.any q
 | [], i => by simp [WD]
 | x :: l, i => by
  unfold WD
  by_cases h : q x = true
  ·rw [if_pos h, List.any_cons, h]; simp
  ·rw [if_neg h, List.any_cons, Qho q l (i + 1)]; simp [h]
theorem QsB {f : FuncId} [Xe Tryz.prog f] {cs : List AV} {q : En → Bool} (l : List En) (hc : ∀ y ∈ l, FC Tryz.prog f [.agg (enC y), .el cs] (bl (q y))) : FC Tryz.prog 199 [ens l, .fn f [.el cs]] (i64 (WD q l 0)) := by
 refine Qd [4] Tryz.func199 rfl rfl 19 Tryz.ntmps199 (Nat.le_of_ble_eq_true rfl) ?_
 intro E hN
 refine JK 0 rfl (fun hl0 => ?_)
 refine JA ?_
 refine Qi (fun x : {k : Nat // k ≤ (l).length ∧ WD q (l.drop k) k = WD q l 0} => ⟨[(0, ens l), (1, .fn f [.el cs]), (7, i64 l.length), (8, i64 (x.1 : Nat))], [], 0⟩) (fun x => (l).length - x.1) (⟨0, Nat.zero_le _, by simp⟩) ?_ ?_
 ·
  exact Qa rfl (Jg ⟨(QE (by simp)), rfl, (Xu trivial)⟩) trivial
 rintro ⟨k, hk, hg⟩
 dsimp only
 refine QA ?_
 refine zq ?_ ?_ <;> intro h8
 rotate_left
 ·
  have hge : (l).length ≤ k := by simpa using h8
  refine QJ ?_; refine zQ ?_
  exact Q2 (by rw [← hg, List.drop_of_length_le hge]; rfl)
 have hlt : k < (l).length := by simpa using h8
 obtain ⟨x, hx⟩ := Qk hlt
 have hs : WD q l 0 = if q x then (k : Int) else WD q (l.drop (k + 1)) (k + 1) := by rw [← hg, XL hx]; rfl
 refine Wi ?_; refine zP (Qh rfl rfl rfl k rfl _ (Qq hx) rfl) ?_; refine zL ?_
 refine zP (YG (hc x (List.mem_of_getElem? hx)) rfl rfl rfl rfl) ?_; refine zN ?_
 refine zq ?_ ?_ <;> intro h11
 ·
  have h4 := h11
  refine QJ ?_; refine zQ ?_
  exact Q2 (by rw [hs, if_pos (by simp_all)])
 have hn : WD q (l.drop (k + 1)) (k + 1) = WD q l 0 := by rw [hs, if_neg (by simp_all)]
 refine QJ ?_; refine Qb ?_
 exact ⟨⟨k + 1, hlt, hn⟩, Qa rfl (Xl ⟨(QE (by dsimp only; omega)), rfl, trivial⟩) trivial, by dsimp only; omega⟩
theorem Qmc {f : FuncId} [Xe Tryz.prog f] {cs : List AV} {q : En → Bool} (l : List En) (hc : ∀ y ∈ l, FC Tryz.prog f [.agg (enC y), .el cs] (bl (q y))) : FC Tryz.prog 185 [ens l, .fn f [.el cs]] (bl (l.any q)) := by
 refine Qd [4] Tryz.func185 rfl rfl 9 Tryz.ntmps185 (Nat.le_of_ble_eq_true rfl) ?_
 intro E hN
 refine XJ ?_; refine zP (Qc (QsB l hc) rfl rfl rfl) ?_; refine QO ?_; refine zQ ?_
 exact Qt (Qho q l 0)
theorem QrV (x y : En) : FC Tryz.prog 198 [.agg (enC x), .agg (enC y)] (bl (QcN x y)) := by
 refine Qd [4] Tryz.func198 rfl rfl 19 Tryz.ntmps198 (Nat.le_of_ble_eq_true rfl) ?_
 intro E hN
 refine Wi ?_; refine zP (Qc (QgE _ _) rfl rfl rfl) ?_; refine Xz ?_
 refine zq ?_ ?_ <;> intro h10
 ·
  refine QC ?_; refine zQ ?_
  exact Qt (by simp_all [QcN])
 refine QA ?_
 refine zq ?_ ?_ <;> intro h11
 ·
  refine XJ ?_; refine zQ ?_
  exact Qt (by simp_all [QcN])
 refine QJ ?_; refine zQ ?_
 exact Qt (by simp_all [QcN])
theorem QkL (x y : En) : FC Tryz.prog 197 [.agg (enC y), .el (enC x)] (bl (QcN x y)) := by
 refine Qd [3] Tryz.func197 rfl rfl 7 Tryz.ntmps197 (Nat.le_of_ble_eq_true rfl) ?_
 intro E hN
 refine JU ?_; refine zP (Qc (QrV x y) rfl rfl rfl) ?_; refine zS ?_; refine zQ ?_
 rfl
theorem Qg8 (x : En) (l : List En) : FC Tryz.prog 184 [.agg (enC x), ens l] (bl (KN l x)) := by
 refine Qd [4] Tryz.func184 rfl rfl 8 Tryz.ntmps184 (Nat.le_of_ble_eq_true rfl) ?_
 intro E hN
 refine Je ?_; refine Qu (J2 2 0 rfl rfl rfl rfl) ?_; refine QO ?_; refine zP (Qec rfl rfl) ?_
 refine zP (Qc (Qmc l (fun y _ => QkL x y)) rfl rfl rfl) ?_; refine zS ?_; refine zQ ?_
 rfl
theorem QqP (l : Qs) : FC Tryz.prog 141 [.agg (QF l)] (.agg (Xm (KZ l).1)) := by
 refine YV [.c 2 30 4 true] ⟨⟨inferInstance, rfl⟩, trivial⟩ Tryz.func141 rfl rfl 11 Tryz.ntmps141 (Nat.le_of_ble_eq_true rfl) ?_
 intro E hN
 refine XJ ?_; refine zP (Qc (Qpv l) rfl rfl rfl) ?_; refine JA ?_; refine QG ?_
 change (resY _ _).bind AV.fzt = some _
 refine Yj rfl ?_
 rfl
def JZ (b : Qn) (s : Nm) : Option Qn := if X5 s b.nm 0 < 0 then none else b.ps[(X5 s b.nm 0).toNat]?
theorem QbP (s : Nm) : ∀ (l : List Nm) (i : Nat), X5 s l i = -1 ∨ ∃ j, i ≤ j ∧ j < i + l.length ∧ X5 s l i = (j : Int)
 | [], i => .inl rfl
 | x :: l, i => by
  unfold X5
  by_cases h : (s == x) = true
  ·rw [if_pos h]; exact .inr ⟨i, Nat.le_refl _, by simp, rfl⟩
  rw [if_neg h]
  rcases QbP s l (i + 1) with h1 | ⟨j, h1, h2, h3⟩
  ·exact .inl h1
  exact .inr ⟨j, by omega, by simp only [List.length_cons]; omega, h3⟩
theorem QfS {b : Qn} {s : Nm} {j : Nat} {y : Qn} (h : X5 s b.nm 0 = (j : Int)) (hy : b.ps[j]? = some y) : JZ b s = some y := by
 unfold JZ; rw [h, if_neg (by omega)]; simpa using hy
theorem QcS {b : Qn} {s : Nm} (h : X5 s b.nm 0 < 0) : JZ b s = none := by
 unfold JZ; rw [if_pos h]
mutual
def QU : Qs → Qn → Qn → Bool
 | .mk k _ _ _ ps _, a, b =>
  if k == 1 || k == 2 then decide (a.N ≤ b.N)
  else if k == 3 then decide (a.N ≥ b.N)
  else if k == 4 || k == 10 then JR a.nm b.nm
  else if k == 5 then QtV ps (a.nm.zip a.ps) b
  else if k == 6 then QdP ps a.ps b.ps
  else if k == 7 then Qt7 ps a.ps b.ps
  else if k == 8 then a.N == 0 || b.N == 2 || eqV a b
  else a.es.all (KN b.es)
def QtV : List Qs → List (Nm × Qn) → Qn → Bool
 | [], _, _ => false
 | q :: _, l, b => l.all fun x => match JZ b x.1 with | some y => QU q x.2 y | none => false
def QdP : List Qs → List Qn → List Qn → Bool
 | [], _, _ => true
 | q :: r, x :: a, y :: b => QU q x y && QdP r a b
 | _ :: _, _, _ => false
def Qt7 : List Qs → List Qn → List Qn → Bool
 | [p, q], [x1, x2], [y1, y2] => if eqV x1 y1 then QU q x2 y2 else QU p x1 y1
 | _, _, _ => false
end
def Qkr (q : Qs) (b : Qn) (x : Nm × Qn) : Bool := match JZ b x.1 with | some y => QU q x.2 y | none => false
theorem QkC (q : Qs) (r : List Qs) (l : List (Nm × Qn)) (b : Qn) : QtV (q :: r) l b = l.all (Qkr q b) := by rw [QtV]; rfl
theorem Yp (l : Qs) (a b : Qn) : QU l a b =
  if l.k == 1 || l.k == 2 then decide (a.N ≤ b.N)
  else if l.k == 3 then decide (a.N ≥ b.N)
  else if l.k == 4 || l.k == 10 then JR a.nm b.nm
  else if l.k == 5 then QtV l.ps (a.nm.zip a.ps) b
  else if l.k == 6 then QdP l.ps a.ps b.ps
  else if l.k == 7 then Qt7 l.ps a.ps b.ps
  else if l.k == 8 then a.N == 0 || b.N == 2 || eqV a b
  else a.es.all (KN b.es) := by
 cases l with
 | mk k lo hi nm ps rs => rw [QU]; rfl
section
variable {ls : List Qs} {xs ys : List Qn} {k : Nat} {q : Qs} {x y : Qn} {b : Bool}
theorem Qwy (hg : QdP (ls.drop k) (xs.drop k) (ys.drop k) = b) (hq : ls[k]? = some q) (hx : xs[k]? = some x) (hy : ys[k]? = some y) : b = (QU q x y && QdP (ls.drop (k + 1)) (xs.drop (k + 1)) (ys.drop (k + 1))) := by
 rw [← hg, XL hq, XL hx, XL hy, QdP]
theorem Qvp (hg : QdP (ls.drop k) (xs.drop k) (ys.drop k) = b) (h : ls.length ≤ k) : b = true := by
 rw [← hg, List.drop_of_length_le h, QdP]
theorem XP : ∀ {xs : List Qn} {ls : List Qs} {k : Nat} {x : Qn} {q : Qs}, KR xs ls = true → xs[k]? = some x → ls[k]? = some q → Qr x q = true
 | [], _, _, _, _, _, hx, _ => by simp at hx
 | _ :: _, [], _, _, _, _, _, hq => by simp at hq
 | a :: r, p :: s, 0, x, q, h, hx, hq => by
  rw [KR, Bool.and_eq_true] at h
  simp at hx hq; subst hx hq; exact h.1
 | a :: r, p :: s, k + 1, x, q, h, hx, hq => by
  rw [KR, Bool.and_eq_true] at h
  exact XP h.2 (by simpa using hx) (by simpa using hq)
end
theorem Qwv {v : Qn} {l : Qs} {q : Qs} {r : List Qs} (h : Qr v l = true) (hk : l.k = 5) (hp : l.ps = q :: r) : v.nm.length = v.ps.length ∧ ∀ p ∈ v.ps, Qr p q = true := by
 rw [QI, hk, hp] at h
 simp [QbH, QdT] at h
 exact ⟨by omega, fun p hp => (h.2 p hp).1⟩
theorem QtU {v : Qn} {l : Qs} (h : Qr v l = true) (hk : l.k = 6 ∨ l.k = 7) : v.ps.length = l.ps.length ∧ KR v.ps l.ps = true := by
 rw [QI] at h
 rcases hk with hk | hk <;> rw [hk] at h <;> simp at h <;> exact ⟨by omega, h.2⟩
theorem Kt {l : Qs} (h : Xq l = 0) (hk : l.k = 7) : ∃ a b, l.ps = [a, b] := by
 unfold Xq at h
 rw [if_pos (by rw [hk]; decide)] at h
 have hb : KE l = false := by
  cases hb : KE l
  ·rfl
  rw [hb] at h; simp [Yh] at h
 have h2 : l.ps.length = 2 := by
  simp only [KE, Yb, hk] at hb
  simp at hb
  omega
 match hl : l.ps, h2 with
 | [a, b], _ => exact ⟨a, b, rfl⟩
theorem Yw {l : Qs} {v : Qn} {a b : Qs} (h : Qr v l = true) (hk : l.k = 7) (hp : l.ps = [a, b]) : ∃ x y, v.ps = [x, y] ∧ Qr x a = true ∧ Qr y b = true := by
 obtain ⟨h1, h2⟩ := QtU h (.inr hk)
 rw [hp] at h1 h2
 match hl : v.ps, h1 with
 | [x, y], _ =>
  rw [hl] at h2
  simp only [KR, Bool.and_eq_true] at h2
  exact ⟨x, y, rfl, h2.1, h2.2.1⟩
theorem Qc9 {l : List Nm} {m : List Qn} {k : Nat} {x : Nm} {p : Qn} (h1 : l[k]? = some x) (h2 : m[k]? = some p) : (l.zip m)[k]? = some (x, p) := by
 rw [List.getElem?_zip_eq_some]; exact ⟨h1, h2⟩
theorem Qwn (l : Qs) (hO : Kv l) (ih : ∀ q ∈ l.ps, ∀ x y, Qr x q = true → Qr y q = true → FC Tryz.prog 171 [.agg (QF q), .agg (Xm x), .agg (Xm y)] (bl (QU q x y))) (a b : Qn) (ha : Qr a l = true) (hb : Qr b l = true) : FC Tryz.prog 171 [.agg (QF l), .agg (Xm a), .agg (Xm b)] (bl (QU l a b)) := by
 refine Qd [6] Tryz.func171 rfl rfl 163 Tryz.ntmps171 (Nat.le_of_ble_eq_true rfl) ?_
 intro E hN
 refine Qis ?_
 refine zq ?_ ?_ <;> intro h9
 ·
  refine XN ?_; refine zQ ?_
  exact Qt (by rw [Yp]; simp_all)
 refine QJ ?_
 refine zq ?_ ?_ <;> intro h15
 ·
  refine XJ ?_; refine zQ ?_
  exact Qt (by rw [Yp]; simp_all)
 refine QA ?_
 refine zq ?_ ?_ <;> intro h21
 ·
  refine XJ ?_; refine zQ ?_
  exact Qt (by rw [Yp]; simp_all)
 refine Je ?_
 refine zq ?_ ?_ <;> intro h27
 ·
  refine XJ ?_; refine zP (Qc (QbC _ _) rfl rfl rfl) ?_; refine zS ?_; refine zQ ?_
  exact Qt (by rw [Yp]; simp_all)
 refine QJ ?_
 refine zq ?_ ?_ <;> intro h33
 ·
  refine Je ?_; refine zP (Qc (QbC _ _) rfl rfl rfl) ?_; refine zS ?_; refine zQ ?_
  exact Qt (by rw [Yp]; simp_all)
 refine QA ?_
 refine zq ?_ ?_ <;> intro h39
 ·
  refine JU ?_
  obtain ⟨q, r, hps⟩ := Qo1 hO.shape (by simp_all)
  have hk5 : l.k = 5 := by simp_all
  have hqm : q ∈ l.ps := by rw [hps]; exact List.mem_cons_self
  have hq0 : l.ps[0]? = some q := by rw [hps]; rfl
  obtain ⟨hla, hea⟩ := Qwv ha hk5 hps
  obtain ⟨hlb, heb⟩ := Qwv hb hk5 hps
  have hE : QU l a b = (a.nm.zip a.ps).all (Qkr q b) := by rw [Yp, hk5, hps]; simp [QkC]
  refine Qi (fun x : {k : Nat // k ≤ (a.nm).length ∧ ((a.nm.zip a.ps).drop k).all (Qkr q b) = (a.nm.zip a.ps).all (Qkr q b)} => ⟨[(3, .ptr 0 0), (4, .ptr 1 0), (5, .ptr 2 0), (42, XU a.nm), (43, i64 a.nm.length), (44, i64 (x.1 : Nat))], [(0, .var 26 (QF l)), (1, .var 30 (Xm a)), (2, .var 30 (Xm b))], 3⟩) (fun x => (a.nm).length - x.1) (⟨0, Nat.zero_le _, by simp⟩) ?_ ?_
  ·
   exact Qa rfl (QR ⟨(QE (by simp)), rfl, (Xu trivial)⟩) ⟨rfl, rfl, rfl, rfl, rfl, rfl, rfl, rfl, rfl, trivial⟩
  rintro ⟨k, hk, hg⟩
  dsimp only
  refine JK 42 rfl (fun hl8 => ?_)
  refine QA ?_
  refine zq ?_ ?_ <;> intro h49
  rotate_left
  ·
   have hge : (a.nm).length ≤ k := by simpa using h49
   refine QJ ?_; refine zQ ?_
   exact Qt (by rw [hE, X4 hg (by simp; omega)])
  have hlt : k < (a.nm).length := by simpa using h49
  obtain ⟨x, hx⟩ := Qk hlt
  obtain ⟨p, hp⟩ := Qk (show k < a.ps.length by omega)
  refine Je ?_; refine zP (Qh rfl rfl rfl k rfl _ (Qq hx) rfl) ?_; refine JU ?_; refine zP (Qc (QeV _ _) rfl rfl rfl) ?_
  refine QC ?_; refine Qy 19 (by kernel_rfl) (by kernel_rfl) ?_; refine QC ?_
  refine zd 55 ?_ ?_ <;> intro h55
  ·
   have hpo := QcS (s := x) (b := b) (by simpa using h55)
   refine QeT ?_; change Qz _ _ _ _ _ _; refine Je ?_; refine zQ ?_
   exact Qt (by rw [hE, Q6 hg (Qc9 hx hp) (by simp only [Qkr, hpo]; first | done | simp_all)])
  obtain ⟨j, hj, hjl⟩ : ∃ j : Nat, X5 x b.nm 0 = (j : Int) ∧ j < b.ps.length := by
   rcases QbP x b.nm 0 with h1 | ⟨j, -, h2, h3⟩
   ·simp [h1] at h55
   exact ⟨j, h3, by omega⟩
  obtain ⟨y, hy⟩ := Qk hjl
  have hpo := QfS hj hy
  refine QO ?_; refine vP (JI h55) (Qh rfl rfl rfl 0 rfl _ (Xt hq0) rfl) ?_; refine QJ ?_
  refine vP (JI h55) (Qh rfl rfl rfl k rfl _ (Xk hp) rfl) ?_; refine QJ ?_
  refine vP (JI h55) (Qh rfl rfl rfl j hj _ (Xk hy) rfl) ?_; refine KO ?_
  refine vP (JI h55) (Qc (ih q hqm p y (hea p (List.mem_of_getElem? hp)) (heb y (List.mem_of_getElem? hy))) rfl rfl rfl) ?_; refine KO ?_
  change Qz _ _ _ _ _ _; refine QO ?_
  refine zq ?_ ?_ <;> intro h68
  ·
   refine QC ?_; refine zQ ?_
   exact Qt (by rw [hE, Q6 hg (Qc9 hx hp) (by simp only [Qkr, hpo]; first | done | simp_all)])
  refine QJ ?_; refine Qb ?_
  exact ⟨⟨k + 1, hlt, XF hg (Qc9 hx hp) (by simp only [Qkr, hpo]; simp_all)⟩, Qa rfl (QR (Xu ⟨(QE (by dsimp only; omega)), rfl, trivial⟩)) ⟨rfl, rfl, rfl, rfl, rfl, rfl, rfl, rfl, rfl, trivial⟩, by dsimp only; omega⟩
 refine QA ?_
 refine zq ?_ ?_ <;> intro h70
 ·
  refine JU ?_
  have hk6 : l.k = 6 := by simp_all
  obtain ⟨hla, hza⟩ := QtU ha (.inl hk6)
  obtain ⟨hlb, hzb⟩ := QtU hb (.inl hk6)
  have hE : QU l a b = QdP l.ps a.ps b.ps := by rw [Yp, hk6]; rfl
  refine Qi (fun x : {k : Nat // k ≤ (l.ps).length ∧ QdP (l.ps.drop k) (a.ps.drop k) (b.ps.drop k) = QdP l.ps a.ps b.ps} => ⟨[(3, .ptr 0 0), (4, .ptr 1 0), (5, .ptr 2 0), (77, Qp5 l.ps), (78, i64 l.ps.length), (79, i64 (x.1 : Nat))], [(0, .var 26 (QF l)), (1, .var 30 (Xm a)), (2, .var 30 (Xm b))], 3⟩) (fun x => (l.ps).length - x.1) (⟨0, Nat.zero_le _, by simp⟩) ?_ ?_
  ·
   exact Qa rfl (QR ⟨(QE (by simp)), rfl, (Xu trivial)⟩) ⟨rfl, rfl, rfl, rfl, rfl, rfl, rfl, rfl, rfl, trivial⟩
  rintro ⟨k, hk, hg⟩
  dsimp only
  refine JK 77 rfl (fun hl8 => ?_)
  refine QA ?_
  refine zq ?_ ?_ <;> intro h80
  rotate_left
  ·
   have hge : (l.ps).length ≤ k := by simpa using h80
   refine QJ ?_; refine zQ ?_
   exact Qt (by rw [hE, Qvp hg hge])
  have hlt : k < l.ps.length := by simpa using h80
  obtain ⟨q, hq⟩ := Qk hlt
  obtain ⟨x, hx⟩ := Qk (show k < a.ps.length by omega)
  obtain ⟨y, hy⟩ := Qk (show k < b.ps.length by omega)
  have hqm : q ∈ l.ps := List.mem_of_getElem? hq
  have hs := Qwy hg hq hx hy
  refine Je ?_; refine zP (Qh rfl rfl rfl k rfl _ (Xt hq) rfl) ?_; refine Je ?_; refine Qy 12 (by kernel_rfl) (by kernel_rfl) ?_
  refine QJ ?_; refine zp (Qh rfl rfl rfl k rfl _ (Xk hx) rfl) ?_; refine QJ ?_; refine zp (Qh rfl rfl rfl k rfl _ (Xk hy) rfl) ?_
  refine zl ?_; refine zp (Qc (ih q hqm x y (XP hza hx hq) (XP hzb hy hq)) rfl rfl rfl) ?_; change Qz _ _ _ _ _ _; refine QO ?_
  refine zq ?_ ?_ <;> intro h94
  ·
   refine QC ?_; refine zQ ?_
   exact Qt (by rw [hE, hs]; simp_all)
  refine QJ ?_; refine Qb ?_
  exact ⟨⟨k + 1, hlt, by simp_all⟩, Qa rfl (QR (Xu ⟨(QE (by dsimp only; omega)), rfl, trivial⟩)) ⟨rfl, rfl, rfl, rfl, rfl, rfl, rfl, rfl, rfl, trivial⟩, by dsimp only; omega⟩
 refine QA ?_
 refine zq ?_ ?_ <;> intro h96
 ·
  refine QO ?_
  have hk7 : l.k = 7 := by simp_all
  obtain ⟨q1, q2, hps⟩ := Kt hO.shape hk7
  obtain ⟨x1, x2, hpa, hx1, hx2⟩ := Yw ha hk7 hps
  obtain ⟨y1, y2, hpb, hy1, hy2⟩ := Yw hb hk7 hps
  have hE : QU l a b = if eqV x1 y1 then QU q2 x2 y2 else QU q1 x1 y1 := by rw [Yp, hk7, hps, hpa, hpb]; simp [Qt7]
  have hq1' : l.ps[0]? = some q1 := by rw [hps]; rfl
  have hq2' : l.ps[1]? = some q2 := by rw [hps]; rfl
  have hx1' : a.ps[0]? = some x1 := by rw [hpa]; rfl
  have hx2' : a.ps[1]? = some x2 := by rw [hpa]; rfl
  have hy1' : b.ps[0]? = some y1 := by rw [hpb]; rfl
  have hy2' : b.ps[1]? = some y2 := by rw [hpb]; rfl
  refine Qy 8 (by kernel_rfl) (by kernel_rfl) ?_; refine QO ?_; refine zp (Qh rfl rfl rfl 0 rfl _ (Xk hx1') rfl) ?_; refine QC ?_
  refine zp (Qh rfl rfl rfl 0 rfl _ (Xk hy1') rfl) ?_; refine zl ?_; change Qz _ _ _ _ _ _; refine zP (Qc (Qhr _ _) rfl rfl rfl) ?_
  refine zN ?_
  refine zq ?_ ?_ <;> intro h105
  ·
   have h28 := h105
   refine KO ?_; refine Qy 13 (by kernel_rfl) (by kernel_rfl) ?_; refine QO ?_; refine zp (Qh rfl rfl rfl 1 rfl _ (Xt hq2') rfl) ?_
   refine QC ?_; refine zp (Qh rfl rfl rfl 1 rfl _ (Xk hx2') rfl) ?_; refine QC ?_
   refine zp (Qh rfl rfl rfl 1 rfl _ (Xk hy2') rfl) ?_; refine zl ?_
   refine zp (Qc (ih q2 (by rw [hps]; simp) x2 y2 hx2 hy2) rfl rfl rfl) ?_
   change Qz _ _ _ _ _ _; refine zS ?_; refine zQ ?_
   exact Qt (by rw [hE, if_pos h28])
  have h28 := h105
  refine QO ?_; refine Qy 13 (by kernel_rfl) (by kernel_rfl) ?_; refine QO ?_; refine zp (Qh rfl rfl rfl 0 rfl _ (Xt hq1') rfl) ?_
  refine QC ?_; refine zp (Qh rfl rfl rfl 0 rfl _ (Xk hx1') rfl) ?_; refine QC ?_
  refine zp (Qh rfl rfl rfl 0 rfl _ (Xk hy1') rfl) ?_; refine zl ?_
  refine zp (Qc (ih q1 (by rw [hps]; simp) x1 y1 hx1 hy1) rfl rfl rfl) ?_
  change Qz _ _ _ _ _ _; refine zS ?_; refine zQ ?_
  exact Qt (by rw [hE, if_neg (by simp [h28])])
 refine QA ?_
 refine zq ?_ ?_ <;> intro h132
 ·
  refine Je ?_
  refine zc 140 ?_ ?_ <;> intro h135
  ·
   refine XN ?_; refine zQ ?_
   exact Qt (by rw [Yp]; simp_all)
  refine QA ?_
  refine zc 145 ?_ ?_ <;> intro h138
  ·
   refine QA ?_; refine zQ ?_
   exact Qt (by rw [Yp]; simp_all)
  refine QO ?_; refine uP (JI h138) (Qc (Qhr _ _) rfl rfl rfl) ?_; refine QO ?_; refine zQ ?_
  exact Qt (by rw [Yp]; simp_all)
 refine XN ?_
 have hE : QU l a b = a.es.all (KN b.es) := by rw [Yp]; simp_all
 refine Qi (fun x : {k : Nat // k ≤ (a.es).length ∧ (a.es.drop k).all (KN b.es) = a.es.all (KN b.es)} => ⟨[(3, .ptr 0 0), (4, .ptr 1 0), (5, .ptr 2 0), (151, ens a.es), (152, i64 a.es.length), (153, i64 (x.1 : Nat))], [(0, .var 26 (QF l)), (1, .var 30 (Xm a)), (2, .var 30 (Xm b))], 3⟩) (fun x => (a.es).length - x.1) (⟨0, Nat.zero_le _, by simp⟩) ?_ ?_
 ·
  exact Qa rfl (QR ⟨(QE (by simp)), rfl, (Xu trivial)⟩) ⟨rfl, rfl, rfl, rfl, rfl, rfl, rfl, rfl, rfl, trivial⟩
 rintro ⟨k, hk, hg⟩
 dsimp only
 refine JK 151 rfl (fun hl8 => ?_)
 refine QA ?_
 refine zq ?_ ?_ <;> intro h151
 rotate_left
 ·
  have hge : (a.es).length ≤ k := by simpa using h151
  refine QJ ?_; refine zQ ?_
  exact Qt (by rw [hE, X4 hg hge])
 have hlt : k < (a.es).length := by simpa using h151
 obtain ⟨x, hx⟩ := Qk hlt
 refine QA ?_; refine zP (Qh rfl rfl rfl k rfl _ (Qq hx) rfl) ?_; refine JU ?_; refine zP (Qc (Qg8 _ _) rfl rfl rfl) ?_
 refine QO ?_
 refine zq ?_ ?_ <;> intro h159
 ·
  refine QC ?_; refine zQ ?_
  exact Qt (by rw [hE, Q6 hg hx (by simp_all)])
 refine QJ ?_; refine Qb ?_
 exact ⟨⟨k + 1, hlt, XF hg hx (by simp_all)⟩, Qa rfl (QR (Xu ⟨(QE (by dsimp only; omega)), rfl, trivial⟩)) ⟨rfl, rfl, rfl, rfl, rfl, rfl, rfl, rfl, rfl, trivial⟩, by dsimp only; omega⟩
theorem Qhf (l : Qs) (hO : Kv l) (a b : Qn) (ha : Qr a l = true) (hb : Qr b l = true) : FC Tryz.prog 171 [.agg (QF l), .agg (Xm a), .agg (Xm b)] (bl (QU l a b)) := Qwn l hO (fun q hq x y hx hy => Qhf q (hO.part q hq) x y hx hy) a b ha hb
termination_by l
decreasing_by exact Qs.sizeOf_ps ‹_›
def Qdq (l : Qs) (vs : List Qn) : Bool := vs.all (Qbt l)
def KL (l : Qs) (vs : List Qn) : Int := if Q0 l != 0 then 1 else if Qdq l vs then 0 else 4
theorem QpA {l : Qs} {vs : List Qn} (h : KL l vs = 0) : Q0 l = 0 ∧ ∀ v ∈ vs, Qr v l = true := by
 unfold KL at h
 split at h
 ·cases h
 rename_i h1
 split at h
 ·rename_i h2
  refine ⟨by simpa using h1, fun v hv => ?_⟩
  have := List.all_eq_true.1 h2 v hv
  simp only [Qbt, Bool.and_eq_true] at this
  exact this.2
 cases h
def Qlf (l : Qs) (a b : Qn) : Bool := KL l [a, b] == 0 && QU l a b
theorem Ql0 (l : Qs) (vs : List Qn) : FC Tryz.prog 165 [.agg (QF l), JM vs] (bl (Qdq l vs)) := by
 refine Qd [4] Tryz.func165 rfl rfl 18 Tryz.ntmps165 (Nat.le_of_ble_eq_true rfl) ?_
 intro E hN
 refine JK 1 rfl (fun hl1 => ?_)
 refine Wi ?_
 refine Qi (fun x : {k : Nat // k ≤ (vs).length ∧ (vs.drop k).all (Qbt l) = vs.all (Qbt l)} => ⟨[(2, .ptr 0 0), (7, JM vs), (8, i64 vs.length), (9, i64 (x.1 : Nat))], [(0, .var 26 (QF l))], 1⟩) (fun x => (vs).length - x.1) (⟨0, Nat.zero_le _, by simp⟩) ?_ ?_
 ·
  exact Qa rfl (Jg ⟨(QE (by simp)), rfl, (Xu trivial)⟩) ⟨rfl, rfl, rfl, trivial⟩
 rintro ⟨k, hk, hg⟩
 dsimp only
 refine QA ?_
 refine zq ?_ ?_ <;> intro h9
 rotate_left
 ·
  have hge : (vs).length ≤ k := by simpa using h9
  refine QJ ?_; refine zQ ?_
  exact Qt (X4 hg hge).symm
 have hlt : k < (vs).length := by simpa using h9
 obtain ⟨x, hx⟩ := Qk hlt
 refine QA ?_; refine zP (Qh rfl rfl rfl k rfl _ (Xk hx) rfl) ?_; refine XJ ?_; refine zP (Qc (Qqi _ _) rfl rfl rfl) ?_
 refine QO ?_
 refine zq ?_ ?_ <;> intro h16
 ·
  refine QC ?_; refine zQ ?_
  exact Qt (Q6 hg hx (by simp_all)).symm
 refine QJ ?_; refine Qb ?_
 exact ⟨⟨k + 1, hlt, XF hg hx (by simp_all)⟩, Qa rfl (Xl ⟨(QE (by dsimp only; omega)), rfl, trivial⟩) ⟨rfl, rfl, rfl, trivial⟩, by dsimp only; omega⟩
theorem Qpd (l : Qs) (vs : List Qn) : FC Tryz.prog 140 [.agg (QF l), JM vs] (i64 (KL l vs)) := by
 refine Qd [4] Tryz.func140 rfl rfl 12 Tryz.ntmps140 (Nat.le_of_ble_eq_true rfl) ?_
 intro E hN
 refine JU ?_; refine zP (Qc (Wx l) rfl rfl rfl) ?_; refine QO ?_
 refine zq ?_ ?_ <;> intro h6
 ·
  refine QC ?_; refine zQ ?_
  exact Q2 (by simp_all [KL])
 refine Je ?_; refine zP (Qc (Ql0 l vs) rfl rfl rfl) ?_; refine QO ?_
 refine zq ?_ ?_ <;> intro h8
 ·
  refine QC ?_; refine zQ ?_
  exact Q2 (by simp_all [KL])
 refine QJ ?_; refine zQ ?_
 exact Q2 (by simp_all [KL])
theorem QqR (a b : Qn) : Qg 4 2 [i64 a.N, XU a.nm, JM a.ps, ens a.es, i64 b.N, XU b.nm, JM b.ps, ens b.es] = [a, b].map Xx := by
 show [Xm a, Xm b] = _
 simp [X3]
end Go.Proofs.YtaecccdkjmipeaaGreat
