/-
  Contracts: the order of a lattice's elements.
-/
import Derived.Test.YtnkkokmmeplbgaaGreatB7
import Derived.Test.YtnkkokmmeplbgaaGreatA3
namespace Go.Proofs.YtnkkokmmeplbgaaGreat
set_option maxRecDepth 100000
set_option maxHeartbeats 1000000
open Go.RowKit
def Qcb (p q : En) : Bool := if QeB p.1 q.1 == 1 then true else if QeB p.1 q.1 == 0 then p.2 == q.2 else false
def J1 (l : List En) (p : En) : Bool := l.any (Qcb p)
def QgU {α : Type} (q : α → Bool) : List α → Nat → Int
 | [], _ => -1
 | x :: l, i => if q x then (i : Int) else QgU q l (i + 1)
theorem Qkl {α : Type} (q : α → Bool) : ∀ (l : List α) (i : Nat), decide (QgU q l i ≥ 0) = l.any q
 | [], i => by simp [QgU]
 | x :: l, i => by
  unfold QgU
  by_cases h : q x = true
  ·rw [if_pos h, List.any_cons, h]; simp
  ·rw [if_neg h, List.any_cons, Qkl q l (i + 1)]; simp [h]
theorem QqC {f : FuncId} [Q8 Tryz.prog f] {cs : List AV} {q : En → Bool} (l : List En) (hc : ∀ y ∈ l, FC Tryz.prog f [.agg (K3 y), .el cs] (bl (q y))) : FC Tryz.prog 222 [WA l, .fn f [.el cs]] (i64 (QgU q l 0)) := by
 refine Qh [4] Tryz.func222 rfl rfl 19 Tryz.ntmps222 (Nat.le_of_ble_eq_true rfl) ?_
 intro E hN;refine Jq 0 rfl (fun hl0 => ?_);refine Jx ?_;refine Qm (fun x : {k : Nat // k ≤ (l).length ∧ QgU q (l.drop k) k = QgU q l 0} => ⟨[(0, WA l), (1, .fn f [.el cs]), (7, i64 l.length), (8, i64 (x.1 : Nat))], [], 0⟩) (fun x => (l).length - x.1) (⟨0, Nat.zero_le _, by simp⟩) ?_ ?_
 ·exact Qa rfl (Yf ⟨(Y6 (by simp)), rfl, (XE trivial)⟩) trivial
 rintro ⟨k, hk, hg⟩;dsimp only;refine Qy ?_
 refine zq ?_ ?_ <;> intro h8
 rotate_left
 ·have hge : (l).length ≤ k := by simpa using h8
  refine QC ?_;refine zQ ?_;exact QZ (by rw [← hg, List.drop_of_length_le hge]; rfl)
 have hlt : k < (l).length := by simpa using h8
 obtain ⟨x, hx⟩ := Qq hlt
 have hs : QgU q l 0 = if q x then (k : Int) else QgU q (l.drop (k + 1)) (k + 1) := by rw [← hg, XC hx]; rfl
 refine WV ?_;refine zP (Qf rfl rfl rfl k rfl _ (Qi hx) rfl) ?_;refine zL ?_;refine zP (Qar (hc x (List.mem_of_getElem? hx)) rfl rfl rfl rfl) ?_;refine zN ?_
 refine zq ?_ ?_ <;> intro h11
 ·have h4 := h11
  refine QC ?_;refine zQ ?_;exact QZ (by rw [hs, if_pos (by simp_all)])
 have hn : QgU q (l.drop (k + 1)) (k + 1) = QgU q l 0 := by rw [hs, if_neg (by simp_all)]
 refine QC ?_;refine Qb ?_;exact ⟨⟨k + 1, hlt, hn⟩, Qa rfl (JZ ⟨X5, rfl, trivial⟩) trivial, by dsimp only; omega⟩
theorem QkL {f : FuncId} [Q8 Tryz.prog f] {cs : List AV} {q : En → Bool} (l : List En) (hc : ∀ y ∈ l, FC Tryz.prog f [.agg (K3 y), .el cs] (bl (q y))) : FC Tryz.prog 199 [WA l, .fn f [.el cs]] (bl (l.any q)) := by
 refine Qh [4] Tryz.func199 rfl rfl 9 Tryz.ntmps199 (Nat.le_of_ble_eq_true rfl) ?_
 intro E hN;refine Xo ?_;refine zP (Qd (QqC l hc) rfl rfl rfl) ?_;refine QH ?_;refine zQ ?_;exact Qo (Qkl q l 0)
theorem QrJ (x y : En) : FC Tryz.prog 201 [.agg (K3 x), .agg (K3 y)] (bl (Qcb x y)) := by
 refine Qh [4] Tryz.func201 rfl rfl 19 Tryz.ntmps201 (Nat.le_of_ble_eq_true rfl) ?_
 intro E hN;refine WV ?_;refine zP (Qd (Qge _ _) rfl rfl rfl) ?_;refine Xg ?_
 refine zq ?_ ?_ <;> intro h10
 ·refine QD ?_;refine zQ ?_;exact Qo (by simp_all [Qcb])
 refine Qy ?_
 refine zq ?_ ?_ <;> intro h11
 ·refine Xo ?_;refine zQ ?_;exact Qo (by simp_all [Qcb])
 refine QC ?_;refine zQ ?_;exact Qo (by simp_all [Qcb])
theorem Qk1 (x y : En) : FC Tryz.prog 200 [.agg (K3 y), .el (K3 x)] (bl (Qcb x y)) := by
 refine Qh [3] Tryz.func200 rfl rfl 7 Tryz.ntmps200 (Nat.le_of_ble_eq_true rfl) ?_
 intro E hN;refine X3 ?_;refine zP (Qd (QrJ x y) rfl rfl rfl) ?_;refine zS ?_;refine zQ ?_
 rfl
theorem Qg4 (x : En) (l : List En) : FC Tryz.prog 164 [.agg (K3 x), WA l] (bl (J1 l x)) := by
 refine Qh [4] Tryz.func164 rfl rfl 8 Tryz.ntmps164 (Nat.le_of_ble_eq_true rfl) ?_
 intro E hN;refine Xk ?_;refine Qx (Qau 2 0 rfl rfl rfl rfl) ?_;refine QH ?_;refine zP (Qmp rfl rfl) ?_;refine zP (Qd (QkL l (fun y _ => Qk1 x y)) rfl rfl rfl) ?_;refine zS ?_;refine zQ ?_
 rfl
theorem Qrd (l : Qv) : FC Tryz.prog 158 [.agg (Q2 l)] (.agg (QF (YC l).1)) := by
 refine Ju [.c 2 30 4 true] ⟨⟨inferInstance, rfl⟩, trivial⟩ Tryz.func158 rfl rfl 11 Tryz.ntmps158 (Nat.le_of_ble_eq_true rfl) ?_
 intro E hN;refine Xo ?_;refine zP (Qd (Qi0 l) rfl rfl rfl) ?_;refine Jx ?_;refine Qg ?_;change (resY _ _).bind AV.fzt = some _;refine Xm rfl ?_
 rfl
def XB (b : Qp) (s : Nm) : Option Qp := if Xu s b.nm 0 < 0 then none else b.ps[(Xu s b.nm 0).toNat]?
theorem QbO (s : Nm) : ∀ (l : List Nm) (i : Nat), Xu s l i = -1 ∨ ∃ j, i ≤ j ∧ j < i + l.length ∧ Xu s l i = (j : Int)
 | [], i => .inl rfl
 | x :: l, i => by
  unfold Xu
  by_cases h : (s == x) = true
  ·rw [if_pos h]; exact .inr ⟨i, Nat.le_refl _, by simp, rfl⟩
  rw [if_neg h]
  rcases QbO s l (i + 1) with h1 | ⟨j, h1, h2, h3⟩
  ·exact .inl h1
  exact .inr ⟨j, by omega, by simp only [List.length_cons]; omega, h3⟩
theorem Qbs {b : Qp} {s : Nm} {j : Nat} {y : Qp} (h : Xu s b.nm 0 = (j : Int)) (hy : b.ps[j]? = some y) : XB b s = some y := by
 unfold XB; rw [h, if_neg (by omega)]; simpa using hy
theorem QaB {b : Qp} {s : Nm} (h : Xu s b.nm 0 < 0) : XB b s = none := by
 unfold XB; rw [if_pos h]
mutual
def QJ : Qv → Qp → Qp → Bool
 | .mk k _ _ _ ps _, a, b =>
  if k == 1 || k == 2 then decide (a.N ≤ b.N)
  else if k == 3 then decide (a.N ≥ b.N)
  else if k == 4 || k == 10 then J6 a.nm b.nm
  else if k == 5 then Qs9 ps (a.nm.zip a.ps) b
  else if k == 6 then Qch ps a.ps b.ps
  else if k == 7 then QpJ ps a.ps b.ps
  else if k == 8 then a.N == 0 || b.N == 2 || WH a b
  else a.es.all (J1 b.es)
def Qs9 : List Qv → List (Nm × Qp) → Qp → Bool
 | [], _, _ => false
 | q :: _, l, b => l.all fun x => match XB b x.1 with | some y => QJ q x.2 y | none => false
def Qch : List Qv → List Qp → List Qp → Bool
 | [], _, _ => true
 | q :: r, x :: a, y :: b => QJ q x y && Qch r a b
 | _ :: _, _, _ => false
def QpJ : List Qv → List Qp → List Qp → Bool
 | [p, q], [x1, x2], [y1, y2] => if WH x1 y1 then QJ q x2 y2 else QJ p x1 y1
 | _, _, _ => false
end
def Qd0 (q : Qv) (b : Qp) (x : Nm × Qp) : Bool := match XB b x.1 with | some y => QJ q x.2 y | none => false
theorem Qhi (q : Qv) (r : List Qv) (l : List (Nm × Qp)) (b : Qp) : Qs9 (q :: r) l b = l.all (Qd0 q b) := by rw [Qs9]; rfl
theorem XN (l : Qv) (a b : Qp) : QJ l a b =
  if l.k == 1 || l.k == 2 then decide (a.N ≤ b.N)
  else if l.k == 3 then decide (a.N ≥ b.N)
  else if l.k == 4 || l.k == 10 then J6 a.nm b.nm
  else if l.k == 5 then Qs9 l.ps (a.nm.zip a.ps) b
  else if l.k == 6 then Qch l.ps a.ps b.ps
  else if l.k == 7 then QpJ l.ps a.ps b.ps
  else if l.k == 8 then a.N == 0 || b.N == 2 || WH a b
  else a.es.all (J1 b.es) := by
 cases l with
 | mk k lo hi nm ps rs => rw [QJ]; rfl
section
variable {ls : List Qv} {xs ys : List Qp} {k : Nat} {q : Qv} {x y : Qp} {b : Bool}
theorem Qt9 (hg : Qch (ls.drop k) (xs.drop k) (ys.drop k) = b) (hq : ls[k]? = some q) (hx : xs[k]? = some x) (hy : ys[k]? = some y) : b = (QJ q x y && Qch (ls.drop (k + 1)) (xs.drop (k + 1)) (ys.drop (k + 1))) := by
 rw [← hg, XC hq, XC hx, XC hy, Qch]
theorem QpH (hg : Qch (ls.drop k) (xs.drop k) (ys.drop k) = b) (h : ls.length ≤ k) : b = true := by
 rw [← hg, List.drop_of_length_le h, Qch]
theorem Jd : ∀ {xs : List Qp} {ls : List Qv} {k : Nat} {x : Qp} {q : Qv}, Kj xs ls = true → xs[k]? = some x → ls[k]? = some q → Qw x q = true
 | [], _, _, _, _, _, hx, _ => by simp at hx
 | _ :: _, [], _, _, _, _, _, hq => by simp at hq
 | a :: r, p :: s, 0, x, q, h, hx, hq => by
  rw [Kj, Bool.and_eq_true] at h
  simp at hx hq; subst hx hq; exact h.1
 | a :: r, p :: s, k + 1, x, q, h, hx, hq => by
  rw [Kj, Bool.and_eq_true] at h;exact Jd h.2 (by simpa using hx) (by simpa using hq)
end
theorem QtR {v : Qp} {l : Qv} {q : Qv} {r : List Qv} (h : Qw v l = true) (hk : l.k = 5) (hp : l.ps = q :: r) : v.nm.length = v.ps.length ∧ ∀ p ∈ v.ps, Qw p q = true := by
 rw [Qu, hk, hp] at h
 simp [Qa4, QaO] at h
 exact ⟨by omega, fun p hp => (h.2 p hp).1⟩
theorem QoL {v : Qp} {l : Qv} (h : Qw v l = true) (hk : l.k = 6 ∨ l.k = 7) : v.ps.length = l.ps.length ∧ Kj v.ps l.ps = true := by
 rw [Qu] at h
 rcases hk with hk | hk <;> rw [hk] at h <;> simp at h <;> exact ⟨by omega, h.2⟩
theorem KI {l : Qv} (h : Xr l = 0) (hk : l.k = 7) : ∃ a b, l.ps = [a, b] := by
 unfold Xr at h
 rw [if_pos (by rw [hk]; decide)] at h
 have hb : KN l = false := by
  cases hb : KN l
  ·rfl
  rw [hb] at h; simp [Yb] at h
 have h2 : l.ps.length = 2 := by
  simp only [KN, J3, hk] at hb
  simp at hb
  omega
 match hl : l.ps, h2 with
 | [a, b], _ => exact ⟨a, b, rfl⟩
theorem Yw {l : Qv} {v : Qp} {a b : Qv} (h : Qw v l = true) (hk : l.k = 7) (hp : l.ps = [a, b]) : ∃ x y, v.ps = [x, y] ∧ Qw x a = true ∧ Qw y b = true := by
 obtain ⟨h1, h2⟩ := QoL h (.inr hk);rw [hp] at h1 h2
 match hl : v.ps, h1 with
 | [x, y], _ =>
  rw [hl] at h2
  simp only [Kj, Bool.and_eq_true] at h2
  exact ⟨x, y, rfl, h2.1, h2.2.1⟩
theorem Qat {l : List Nm} {m : List Qp} {k : Nat} {x : Nm} {p : Qp} (h1 : l[k]? = some x) (h2 : m[k]? = some p) : (l.zip m)[k]? = some (x, p) := by
 rw [List.getElem?_zip_eq_some]; exact ⟨h1, h2⟩
theorem Qwg (l : Qv) (hO : YM l) (ih : ∀ q ∈ l.ps, ∀ x y, Qw x q = true → Qw y q = true → FC Tryz.prog 130 [.agg (Q2 q), .agg (QF x), .agg (QF y)] (bl (QJ q x y))) (a b : Qp) (ha : Qw a l = true) (hb : Qw b l = true) : FC Tryz.prog 130 [.agg (Q2 l), .agg (QF a), .agg (QF b)] (bl (QJ l a b)) := by
 refine Qh [6] Tryz.func130 rfl rfl 163 Tryz.ntmps130 (Nat.le_of_ble_eq_true rfl) ?_
 intro E hN;refine Qdb ?_
 refine zq ?_ ?_ <;> intro h9
 ·refine Xs ?_;refine zQ ?_;exact Qo (by rw [XN]; simp_all)
 refine QC ?_
 refine zq ?_ ?_ <;> intro h15
 ·refine Xo ?_;refine zQ ?_;exact Qo (by rw [XN]; simp_all)
 refine Qy ?_
 refine zq ?_ ?_ <;> intro h21
 ·refine Xo ?_;refine zQ ?_;exact Qo (by rw [XN]; simp_all)
 refine Xk ?_
 refine zq ?_ ?_ <;> intro h27
 ·refine Xo ?_;refine zP (Qd (Qdm _ _) rfl rfl rfl) ?_;refine zS ?_;refine zQ ?_;exact Qo (by rw [XN]; simp_all)
 refine QC ?_
 refine zq ?_ ?_ <;> intro h33
 ·refine Xk ?_;refine zP (Qd (Qdm _ _) rfl rfl rfl) ?_;refine zS ?_;refine zQ ?_;exact Qo (by rw [XN]; simp_all)
 refine Qy ?_
 refine zq ?_ ?_ <;> intro h39
 ·refine X3 ?_;obtain ⟨q, r, hps⟩ := QeZ hO.shape (by simp_all)
  have hk5 : l.k = 5 := by simp_all
  have hqm : q ∈ l.ps := by rw [hps]; exact List.mem_cons_self
  have hq0 : l.ps[0]? = some q := by rw [hps]; rfl
  obtain ⟨hla, hea⟩ := QtR ha hk5 hps;obtain ⟨hlb, heb⟩ := QtR hb hk5 hps
  have hE : QJ l a b = (a.nm.zip a.ps).all (Qd0 q b) := by rw [XN, hk5, hps]; simp [Qhi]
  refine Qm (fun x : {k : Nat // k ≤ (a.nm).length ∧ ((a.nm.zip a.ps).drop k).all (Qd0 q b) = (a.nm.zip a.ps).all (Qd0 q b)} => ⟨[(3, .ptr 0 0), (4, .ptr 1 0), (5, .ptr 2 0), (42, XS a.nm), (43, i64 a.nm.length), (44, i64 (x.1 : Nat))], [(0, .var 26 (Q2 l)), (1, .var 30 (QF a)), (2, .var 30 (QF b))], 3⟩) (fun x => (a.nm).length - x.1) (⟨0, Nat.zero_le _, by simp⟩) ?_ ?_
  ·exact Qa rfl (YO ⟨(Y6 (by simp)), rfl, (XE trivial)⟩) ⟨rfl, rfl, rfl, rfl, rfl, rfl, rfl, rfl, rfl, trivial⟩
  rintro ⟨k, hk, hg⟩;dsimp only;refine Jq 42 rfl (fun hl8 => ?_);refine Qy ?_
  refine zq ?_ ?_ <;> intro h49
  rotate_left
  ·have hge : (a.nm).length ≤ k := by simpa using h49
   refine QC ?_;refine zQ ?_;exact Qo (by rw [hE, X4 hg (by simp; omega)])
  have hlt : k < (a.nm).length := by simpa using h49
  obtain ⟨x, hx⟩ := Qq hlt;obtain ⟨p, hp⟩ := Qq (show k < a.ps.length by omega);refine Xk ?_;refine zP (Qf rfl rfl rfl k rfl _ (Qi hx) rfl) ?_;refine X3 ?_;refine zP (Qd (Qel _ _) rfl rfl rfl) ?_;refine QD ?_;refine zD 19 ?_;refine QD ?_
  refine zd 55 ?_ ?_ <;> intro h55
  ·have hpo := QaB (s := x) (b := b) (by simpa using h55)
   refine Qof ?_;refine zQ ?_;exact Qo (by rw [hE, Q6 hg (Qat hx hp) (by simp only [Qd0, hpo]; first | done | simp_all)])
  obtain ⟨j, hj, hjl⟩ : ∃ j : Nat, Xu x b.nm 0 = (j : Int) ∧ j < b.ps.length := by
   rcases QbO x b.nm 0 with h1 | ⟨j, -, h2, h3⟩
   ·simp [h1] at h55
   exact ⟨j, h3, by omega⟩
  obtain ⟨y, hy⟩ := Qq hjl
  have hpo := Qbs hj hy
  refine QH ?_;refine vP (X0 h55) (Qf rfl rfl rfl 0 rfl _ (XK hq0) rfl) ?_;refine QC ?_;refine vP (X0 h55) (Qf rfl rfl rfl k rfl _ (QR hp) rfl) ?_;refine QC ?_;refine vP (X0 h55) (Qf rfl rfl rfl j hj _ (QR hy) rfl) ?_;refine JB ?_;refine vP (X0 h55) (Qd (ih q hqm p y (hea p (List.mem_of_getElem? hp)) (heb y (List.mem_of_getElem? hy))) rfl rfl rfl) ?_;refine QD ?_
  refine zq ?_ ?_ <;> intro h68
  ·refine QD ?_;refine zQ ?_;exact Qo (by rw [hE, Q6 hg (Qat hx hp) (by simp only [Qd0, hpo]; first | done | simp_all)])
  refine QC ?_;refine Qb ?_;exact ⟨⟨k + 1, hlt, XG hg (Qat hx hp) (by simp only [Qd0, hpo]; simp_all)⟩, Qa rfl (YO (XE ⟨X5, rfl, trivial⟩)) ⟨rfl, rfl, rfl, rfl, rfl, rfl, rfl, rfl, rfl, trivial⟩, by dsimp only; omega⟩
 refine Qy ?_
 refine zq ?_ ?_ <;> intro h70
 ·refine X3 ?_
  have hk6 : l.k = 6 := by simp_all
  obtain ⟨hla, hza⟩ := QoL ha (.inl hk6);obtain ⟨hlb, hzb⟩ := QoL hb (.inl hk6)
  have hE : QJ l a b = Qch l.ps a.ps b.ps := by rw [XN, hk6]; rfl
  refine Qm (fun x : {k : Nat // k ≤ (l.ps).length ∧ Qch (l.ps.drop k) (a.ps.drop k) (b.ps.drop k) = Qch l.ps a.ps b.ps} => ⟨[(3, .ptr 0 0), (4, .ptr 1 0), (5, .ptr 2 0), (77, Qkk l.ps), (78, i64 l.ps.length), (79, i64 (x.1 : Nat))], [(0, .var 26 (Q2 l)), (1, .var 30 (QF a)), (2, .var 30 (QF b))], 3⟩) (fun x => (l.ps).length - x.1) (⟨0, Nat.zero_le _, by simp⟩) ?_ ?_
  ·exact Qa rfl (YO ⟨(Y6 (by simp)), rfl, (XE trivial)⟩) ⟨rfl, rfl, rfl, rfl, rfl, rfl, rfl, rfl, rfl, trivial⟩
  rintro ⟨k, hk, hg⟩;dsimp only;refine Jq 77 rfl (fun hl8 => ?_);refine Qy ?_
  refine zq ?_ ?_ <;> intro h80
  rotate_left
  ·have hge : (l.ps).length ≤ k := by simpa using h80
   refine QC ?_;refine zQ ?_;exact Qo (by rw [hE, QpH hg hge])
  have hlt : k < l.ps.length := by simpa using h80
  obtain ⟨q, hq⟩ := Qq hlt;obtain ⟨x, hx⟩ := Qq (show k < a.ps.length by omega);obtain ⟨y, hy⟩ := Qq (show k < b.ps.length by omega)
  have hqm : q ∈ l.ps := List.mem_of_getElem? hq
  have hs := Qt9 hg hq hx hy
  refine Xk ?_;refine zP (Qf rfl rfl rfl k rfl _ (XK hq) rfl) ?_;refine Xk ?_;refine zD 12 ?_;refine QC ?_;refine zp (Qf rfl rfl rfl k rfl _ (QR hx) rfl) ?_;refine QC ?_;refine zp (Qf rfl rfl rfl k rfl _ (QR hy) rfl) ?_;refine zl ?_;refine zp (Qd (ih q hqm x y (Jd hza hx hq) (Jd hzb hy hq)) rfl rfl rfl) ?_;refine QH ?_
  refine zq ?_ ?_ <;> intro h94
  ·refine QD ?_;refine zQ ?_;exact Qo (by rw [hE, hs]; simp_all)
  refine QC ?_;refine Qb ?_;exact ⟨⟨k + 1, hlt, by simp_all⟩, Qa rfl (YO (XE ⟨X5, rfl, trivial⟩)) ⟨rfl, rfl, rfl, rfl, rfl, rfl, rfl, rfl, rfl, trivial⟩, by dsimp only; omega⟩
 refine Qy ?_
 refine zq ?_ ?_ <;> intro h96
 ·refine QH ?_
  have hk7 : l.k = 7 := by simp_all
  obtain ⟨q1, q2, hps⟩ := KI hO.shape hk7;obtain ⟨x1, x2, hpa, hx1, hx2⟩ := Yw ha hk7 hps;obtain ⟨y1, y2, hpb, hy1, hy2⟩ := Yw hb hk7 hps
  have hE : QJ l a b = if WH x1 y1 then QJ q2 x2 y2 else QJ q1 x1 y1 := by rw [XN, hk7, hps, hpa, hpb]; simp [QpJ]
  have hq1' : l.ps[0]? = some q1 := by rw [hps]; rfl
  have hq2' : l.ps[1]? = some q2 := by rw [hps]; rfl
  have hx1' : a.ps[0]? = some x1 := by rw [hpa]; rfl
  have hx2' : a.ps[1]? = some x2 := by rw [hpa]; rfl
  have hy1' : b.ps[0]? = some y1 := by rw [hpb]; rfl
  have hy2' : b.ps[1]? = some y2 := by rw [hpb]; rfl
  refine zD 8 ?_;refine QH ?_;refine zp (Qf rfl rfl rfl 0 rfl _ (QR hx1') rfl) ?_;refine QD ?_;refine zp (Qf rfl rfl rfl 0 rfl _ (QR hy1') rfl) ?_;refine zl ?_;refine zP (Qd (Qfu _ _) rfl rfl rfl) ?_;refine zN ?_
  refine zq ?_ ?_ <;> intro h105
  ·have h28 := h105
   refine JB ?_;refine zD 13 ?_;refine QH ?_;refine zp (Qf rfl rfl rfl 1 rfl _ (XK hq2') rfl) ?_;refine QD ?_;refine zp (Qf rfl rfl rfl 1 rfl _ (QR hx2') rfl) ?_;refine QD ?_;refine zp (Qf rfl rfl rfl 1 rfl _ (QR hy2') rfl) ?_;refine zl ?_;refine zp (Qd (ih q2 (by rw [hps]; simp) x2 y2 hx2 hy2) rfl rfl rfl) ?_;refine zS ?_;refine zQ ?_;exact Qo (by rw [hE, if_pos h28])
  have h28 := h105
  refine QH ?_;refine zD 13 ?_;refine QH ?_;refine zp (Qf rfl rfl rfl 0 rfl _ (XK hq1') rfl) ?_;refine QD ?_;refine zp (Qf rfl rfl rfl 0 rfl _ (QR hx1') rfl) ?_;refine QD ?_;refine zp (Qf rfl rfl rfl 0 rfl _ (QR hy1') rfl) ?_;refine zl ?_;refine zp (Qd (ih q1 (by rw [hps]; simp) x1 y1 hx1 hy1) rfl rfl rfl) ?_;refine zS ?_;refine zQ ?_;exact Qo (by rw [hE, if_neg (by simp [h28])])
 refine Qy ?_
 refine zq ?_ ?_ <;> intro h132
 ·refine Xk ?_
  refine zc 140 ?_ ?_ <;> intro h135
  ·refine Xs ?_;refine zQ ?_;exact Qo (by rw [XN]; simp_all)
  refine Qy ?_
  refine zc 145 ?_ ?_ <;> intro h138
  ·refine Qy ?_;refine zQ ?_;exact Qo (by rw [XN]; simp_all)
  refine QH ?_;refine uP (X0 h138) (Qd (Qfu _ _) rfl rfl rfl) ?_;refine QH ?_;refine zQ ?_;exact Qo (by rw [XN]; simp_all)
 refine Xs ?_
 have hE : QJ l a b = a.es.all (J1 b.es) := by rw [XN]; simp_all
 refine Qm (fun x : {k : Nat // k ≤ (a.es).length ∧ (a.es.drop k).all (J1 b.es) = a.es.all (J1 b.es)} => ⟨[(3, .ptr 0 0), (4, .ptr 1 0), (5, .ptr 2 0), (151, WA a.es), (152, i64 a.es.length), (153, i64 (x.1 : Nat))], [(0, .var 26 (Q2 l)), (1, .var 30 (QF a)), (2, .var 30 (QF b))], 3⟩) (fun x => (a.es).length - x.1) (⟨0, Nat.zero_le _, by simp⟩) ?_ ?_
 ·exact Qa rfl (YO ⟨(Y6 (by simp)), rfl, (XE trivial)⟩) ⟨rfl, rfl, rfl, rfl, rfl, rfl, rfl, rfl, rfl, trivial⟩
 rintro ⟨k, hk, hg⟩;dsimp only;refine Jq 151 rfl (fun hl8 => ?_);refine Qy ?_
 refine zq ?_ ?_ <;> intro h151
 rotate_left
 ·have hge : (a.es).length ≤ k := by simpa using h151
  refine QC ?_;refine zQ ?_;exact Qo (by rw [hE, X4 hg hge])
 have hlt : k < (a.es).length := by simpa using h151
 obtain ⟨x, hx⟩ := Qq hlt;refine Qy ?_;refine zP (Qf rfl rfl rfl k rfl _ (Qi hx) rfl) ?_;refine X3 ?_;refine zP (Qd (Qg4 _ _) rfl rfl rfl) ?_;refine QH ?_
 refine zq ?_ ?_ <;> intro h159
 ·refine QD ?_;refine zQ ?_;exact Qo (by rw [hE, Q6 hg hx (by simp_all)])
 refine QC ?_;refine Qb ?_;exact ⟨⟨k + 1, hlt, XG hg hx (by simp_all)⟩, Qa rfl (YO (XE ⟨X5, rfl, trivial⟩)) ⟨rfl, rfl, rfl, rfl, rfl, rfl, rfl, rfl, rfl, trivial⟩, by dsimp only; omega⟩
theorem Qfy (l : Qv) (hO : YM l) (a b : Qp) (ha : Qw a l = true) (hb : Qw b l = true) : FC Tryz.prog 130 [.agg (Q2 l), .agg (QF a), .agg (QF b)] (bl (QJ l a b)) := Qwg l hO (fun q hq x y hx hy => Qfy q (hO.part q hq) x y hx hy) a b ha hb
termination_by l
decreasing_by exact Qv.sizeOf_ps ‹_›
def Qaj (l : Qv) (vs : List Qp) : Bool := vs.all (XR l)
def J2 (l : Qv) (vs : List Qp) : Int := if QB l != 0 then 1 else if Qaj l vs then 0 else 4
theorem Qfn {l : Qv} {vs : List Qp} (h : J2 l vs = 0) : QB l = 0 ∧ ∀ v ∈ vs, Qw v l = true := by
 unfold J2 at h
 split at h
 ·cases h
 rename_i h1
 split at h
 ·rename_i h2
  refine ⟨by simpa using h1, fun v hv => ?_⟩
  have := List.all_eq_true.1 h2 v hv
  simp only [XR, Bool.and_eq_true] at this
  exact this.2
 cases h
def QeC (l : Qv) (a b : Qp) : Bool := J2 l [a, b] == 0 && QJ l a b
theorem QlM (l : Qv) (vs : List Qp) : FC Tryz.prog 161 [.agg (Q2 l), Y8 vs] (bl (Qaj l vs)) := by
 refine Qh [4] Tryz.func161 rfl rfl 18 Tryz.ntmps161 (Nat.le_of_ble_eq_true rfl) ?_
 intro E hN;refine Jq 1 rfl (fun hl1 => ?_);refine WV ?_;refine Qm (fun x : {k : Nat // k ≤ (vs).length ∧ (vs.drop k).all (XR l) = vs.all (XR l)} => ⟨[(2, .ptr 0 0), (7, Y8 vs), (8, i64 vs.length), (9, i64 (x.1 : Nat))], [(0, .var 26 (Q2 l))], 1⟩) (fun x => (vs).length - x.1) (⟨0, Nat.zero_le _, by simp⟩) ?_ ?_
 ·exact Qa rfl (Yf ⟨(Y6 (by simp)), rfl, (XE trivial)⟩) ⟨rfl, rfl, rfl, trivial⟩
 rintro ⟨k, hk, hg⟩;dsimp only;refine Qy ?_
 refine zq ?_ ?_ <;> intro h9
 rotate_left
 ·have hge : (vs).length ≤ k := by simpa using h9
  refine QC ?_;refine zQ ?_;exact Qo (X4 hg hge).symm
 have hlt : k < (vs).length := by simpa using h9
 obtain ⟨x, hx⟩ := Qq hlt;refine Qy ?_;refine zP (Qf rfl rfl rfl k rfl _ (QR hx) rfl) ?_;refine Xo ?_;refine zP (Qd (Qa6 _ _) rfl rfl rfl) ?_;refine QH ?_
 refine zq ?_ ?_ <;> intro h16
 ·refine QD ?_;refine zQ ?_;exact Qo (Q6 hg hx (by simp_all)).symm
 refine QC ?_;refine Qb ?_;exact ⟨⟨k + 1, hlt, XG hg hx (by simp_all)⟩, Qa rfl (JZ ⟨X5, rfl, trivial⟩) ⟨rfl, rfl, rfl, trivial⟩, by dsimp only; omega⟩
theorem QiN (l : Qv) (vs : List Qp) : FC Tryz.prog 129 [.agg (Q2 l), Y8 vs] (i64 (J2 l vs)) := by
 refine Qh [4] Tryz.func129 rfl rfl 12 Tryz.ntmps129 (Nat.le_of_ble_eq_true rfl) ?_
 intro E hN;refine X3 ?_;refine zP (Qd (QbG l) rfl rfl rfl) ?_;refine QH ?_
 refine zq ?_ ?_ <;> intro h6
 ·refine QD ?_;refine zQ ?_;exact QZ (by simp_all [J2])
 refine Xk ?_;refine zP (Qd (QlM l vs) rfl rfl rfl) ?_;refine QH ?_
 refine zq ?_ ?_ <;> intro h8
 ·refine QD ?_;refine zQ ?_;exact QZ (by simp_all [J2])
 refine QC ?_;refine zQ ?_;exact QZ (by simp_all [J2])
theorem QaI (a b : Qp) : JI 4 2 [i64 a.N, XS a.nm, Y8 a.ps, WA a.es, i64 b.N, XS b.nm, Y8 b.ps, WA b.es] = [a, b].map KV := by
 show [QF a, QF b] = _
 simp [W0]
theorem Qsv (l : Qv) (a b : Qp) : FC Tryz.prog 84 [.agg (Q2 l), .agg (QF a), .agg (QF b)] (bl (QeC l a b)) := by
 refine Qh [6] Tryz.func84 rfl rfl 19 Tryz.ntmps84 (Nat.le_of_ble_eq_true rfl) ?_
 intro E hN;refine Jx ?_;refine zP (J7 rfl rfl rfl rfl (by exact rfl) (by decide) (by decide) (QaI a b)) ?_;refine zP (Qd (QiN l [a, b]) rfl rfl rfl) ?_;refine QH ?_
 refine zc 13 ?_ ?_ <;> intro h12
 ·have hok := Qfn (by simpa using h12)
  refine QD ?_;refine uP (XO h12) (Qd (Qfy l (Xb hok.1) a b (hok.2 a (by simp)) (hok.2 b (by simp))) rfl rfl rfl) ?_;refine QH ?_;refine zQ ?_;exact Qo (by simp_all [QeC])
 refine Xk ?_;refine zQ ?_;exact Qo (by simp_all [QeC])
end Go.Proofs.YtnkkokmmeplbgaaGreat
