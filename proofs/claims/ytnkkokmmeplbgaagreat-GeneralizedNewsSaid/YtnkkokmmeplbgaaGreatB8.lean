/-
  Contracts: the order of a lattice's elements.
-/
import Derived.Test.YtnkkokmmeplbgaaGreatB7
import Derived.Test.YtnkkokmmeplbgaaGreatA3
namespace Go.Proofs.YtnkkokmmeplbgaaGreat
set_option maxRecDepth 100000
set_option maxHeartbeats 1000000
open Go.RowKit
def W2 (p q : En) : Bool := if Qbh p.1 q.1 == 1 then true else if Qbh p.1 q.1 == 0 then p.2 == q.2 else false
def JR (l : List En) (p : En) : Bool := l.any (W2 p)
def Qc5 {α : Type} (q : α → Bool) : List α → Nat → Int
 | [], _ => -1
 | x :: l, i => if q x then (i : Int) else Qc5 q l (i + 1)
theorem Qf1 {α : Type} (q : α → Bool) : ∀ (l : List α) (i : Nat), decide (Qc5 q l i ≥ 0) = l.any q
 | [], i => by simp [Qc5]
 | x :: l, i => by
  unfold Qc5
  by_cases h : q x = true
  ·rw [if_pos h, List.any_cons, h]; simp
  ·rw [if_neg h, List.any_cons, Qf1 q l (i + 1)]; simp [h]
theorem Qki {f : FuncId} [QZ Tryz.prog f] {cs : List AV} {q : En → Bool} (l : List En) (hc : ∀ y ∈ l, FC Tryz.prog f [.agg (K6 y), .el cs] (bl (q y))) : FC Tryz.prog 222 [KU l, .fn f [.el cs]] (i64 (Qc5 q l 0)) := by
 refine Qe [4] Tryz.func222 rfl rfl 19 Tryz.ntmps222 (Nat.le_of_ble_eq_true rfl) ?_
 intro E hN
 refine X7 0 rfl (fun hl0 => ?_)
 refine Jn ?_
 refine Qo (fun x : {k : Nat // k ≤ (l).length ∧ Qc5 q (l.drop k) k = Qc5 q l 0} => ⟨[(0, KU l), (1, .fn f [.el cs]), (7, i64 l.length), (8, i64 (x.1 : Nat))], [], 0⟩) (fun x => (l).length - x.1) (⟨0, Nat.zero_le _, by simp⟩) ?_ ?_
 ·
  exact Qa rfl (Yv ⟨(Xe (by simp)), rfl, (Xr trivial)⟩) trivial
 rintro ⟨k, hk, hg⟩
 dsimp only
 refine QA ?_
 refine zq ?_ ?_ <;> intro h8
 rotate_left
 ·
  have hge : (l).length ≤ k := by simpa using h8
  refine Qz ?_; refine zQ ?_
  exact QB (by rw [← hg, List.drop_of_length_le hge]; rfl)
 have hlt : k < (l).length := by simpa using h8
 obtain ⟨x, hx⟩ := Qr hlt
 have hs : Qc5 q l 0 = if q x then (k : Int) else Qc5 q (l.drop (k + 1)) (k + 1) := by rw [← hg, Q4 hx]; rfl
 refine Wz ?_; refine zP (Qf rfl rfl rfl k rfl _ (Qu hx) rfl) ?_; refine zL ?_
 refine zP (Y2 (hc x (List.mem_of_getElem? hx)) rfl rfl rfl rfl) ?_; refine zN ?_
 refine zq ?_ ?_ <;> intro h11
 ·
  have h4 := h11
  refine Qz ?_; refine zQ ?_
  exact QB (by rw [hs, if_pos (by simp_all)])
 have hn : Qc5 q (l.drop (k + 1)) (k + 1) = Qc5 q l 0 := by rw [hs, if_neg (by simp_all)]
 refine Qz ?_; refine Qc ?_
 exact ⟨⟨k + 1, hlt, hn⟩, Qa rfl (Ya ⟨(Xe (by dsimp only; omega)), rfl, trivial⟩) trivial, by dsimp only; omega⟩
theorem Qgj {f : FuncId} [QZ Tryz.prog f] {cs : List AV} {q : En → Bool} (l : List En) (hc : ∀ y ∈ l, FC Tryz.prog f [.agg (K6 y), .el cs] (bl (q y))) : FC Tryz.prog 199 [KU l, .fn f [.el cs]] (bl (l.any q)) := by
 refine Qe [4] Tryz.func199 rfl rfl 9 Tryz.ntmps199 (Nat.le_of_ble_eq_true rfl) ?_
 intro E hN
 refine Jf ?_; refine zP (Qb (Qki l hc) rfl rfl rfl) ?_; refine QC ?_; refine zQ ?_
 exact Qq (Qf1 q l 0)
theorem Qld (x y : En) : FC Tryz.prog 201 [.agg (K6 x), .agg (K6 y)] (bl (W2 x y)) := by
 refine Qe [4] Tryz.func201 rfl rfl 19 Tryz.ntmps201 (Nat.le_of_ble_eq_true rfl) ?_
 intro E hN
 refine Wz ?_; refine zP (Qb (QcA _ _) rfl rfl rfl) ?_; refine Xj ?_
 refine zq ?_ ?_ <;> intro h10
 ·
  refine Qx ?_; refine zQ ?_
  exact Qq (by simp_all [W2])
 refine QA ?_
 refine zq ?_ ?_ <;> intro h11
 ·
  refine Jf ?_; refine zQ ?_
  exact Qq (by simp_all [W2])
 refine Qz ?_; refine zQ ?_
 exact Qq (by simp_all [W2])
theorem Qgp (x y : En) : FC Tryz.prog 200 [.agg (K6 y), .el (K6 x)] (bl (W2 x y)) := by
 refine Qe [3] Tryz.func200 rfl rfl 7 Tryz.ntmps200 (Nat.le_of_ble_eq_true rfl) ?_
 intro E hN
 refine Jy ?_; refine zP (Qb (Qld x y) rfl rfl rfl) ?_; refine zS ?_; refine zQ ?_
 rfl
theorem Qdb (x : En) (l : List En) : FC Tryz.prog 164 [.agg (K6 x), KU l] (bl (JR l x)) := by
 refine Qe [4] Tryz.func164 rfl rfl 8 Tryz.ntmps164 (Nat.le_of_ble_eq_true rfl) ?_
 intro E hN
 refine Xk ?_; refine QF (WT 2 0 rfl rfl rfl rfl) ?_; refine QC ?_; refine zP (Qho rfl rfl) ?_
 refine zP (Qb (Qgj l (fun y _ => Qgp x y)) rfl rfl rfl) ?_; refine zS ?_; refine zQ ?_
 rfl
theorem QkL (l : Qs) : FC Tryz.prog 158 [.agg (QP l)] (.agg (QH (J2 l).1)) := by
 refine X9 [.c 2 30 4 true] ⟨⟨inferInstance, rfl⟩, trivial⟩ Tryz.func158 rfl rfl 11 Tryz.ntmps158 (Nat.le_of_ble_eq_true rfl) ?_
 intro E hN
 refine Jf ?_; refine zP (Qb (QeI l) rfl rfl rfl) ?_; refine Jn ?_; refine Qj ?_
 change (resY _ _).bind AV.fzt = some _
 refine Xs rfl ?_
 rfl
def Je (b : Qt) (s : Nm) : Option Qt := if Xd s b.nm 0 < 0 then none else b.ps[(Xd s b.nm 0).toNat]?
theorem QbT (s : Nm) : ∀ (l : List Nm) (i : Nat), Xd s l i = -1 ∨ ∃ j, i ≤ j ∧ j < i + l.length ∧ Xd s l i = (j : Int)
 | [], i => .inl rfl
 | x :: l, i => by
  unfold Xd
  by_cases h : (s == x) = true
  ·rw [if_pos h]; exact .inr ⟨i, Nat.le_refl _, by simp, rfl⟩
  rw [if_neg h]
  rcases QbT s l (i + 1) with h1 | ⟨j, h1, h2, h3⟩
  ·exact .inl h1
  exact .inr ⟨j, by omega, by simp only [List.length_cons]; omega, h3⟩
theorem Qcp {b : Qt} {s : Nm} {j : Nat} {y : Qt} (h : Xd s b.nm 0 = (j : Int)) (hy : b.ps[j]? = some y) : Je b s = some y := by
 unfold Je; rw [h, if_neg (by omega)]; simpa using hy
theorem Qaf {b : Qt} {s : Nm} (h : Xd s b.nm 0 < 0) : Je b s = none := by
 unfold Je; rw [if_pos h]
mutual
def Q0 : Qs → Qt → Qt → Bool
 | .mk k _ _ _ ps _, a, b =>
  if k == 1 || k == 2 then decide (a.N ≤ b.N)
  else if k == 3 then decide (a.N ≥ b.N)
  else if k == 4 || k == 10 then Js a.nm b.nm
  else if k == 5 then Qmn ps (a.nm.zip a.ps) b
  else if k == 6 then QaB ps a.ps b.ps
  else if k == 7 then QlR ps a.ps b.ps
  else if k == 8 then a.N == 0 || b.N == 2 || eqV a b
  else a.es.all (JR b.es)
def Qmn : List Qs → List (Nm × Qt) → Qt → Bool
 | [], _, _ => false
 | q :: _, l, b => l.all fun x => match Je b x.1 with | some y => Q0 q x.2 y | none => false
def QaB : List Qs → List Qt → List Qt → Bool
 | [], _, _ => true
 | q :: r, x :: a, y :: b => Q0 q x y && QaB r a b
 | _ :: _, _, _ => false
def QlR : List Qs → List Qt → List Qt → Bool
 | [p, q], [x1, x2], [y1, y2] => if eqV x1 y1 then Q0 q x2 y2 else Q0 p x1 y1
 | _, _, _ => false
end
def QeP (q : Qs) (b : Qt) (x : Nm × Qt) : Bool := match Je b x.1 with | some y => Q0 q x.2 y | none => false
theorem Qgt (q : Qs) (r : List Qs) (l : List (Nm × Qt)) (b : Qt) : Qmn (q :: r) l b = l.all (QeP q b) := by rw [Qmn]; rfl
theorem XT (l : Qs) (a b : Qt) : Q0 l a b =
  if l.k == 1 || l.k == 2 then decide (a.N ≤ b.N)
  else if l.k == 3 then decide (a.N ≥ b.N)
  else if l.k == 4 || l.k == 10 then Js a.nm b.nm
  else if l.k == 5 then Qmn l.ps (a.nm.zip a.ps) b
  else if l.k == 6 then QaB l.ps a.ps b.ps
  else if l.k == 7 then QlR l.ps a.ps b.ps
  else if l.k == 8 then a.N == 0 || b.N == 2 || eqV a b
  else a.es.all (JR b.es) := by
 cases l with
 | mk k lo hi nm ps rs => rw [Q0]; rfl
section
variable {ls : List Qs} {xs ys : List Qt} {k : Nat} {q : Qs} {x y : Qt} {b : Bool}
theorem Qox (hg : QaB (ls.drop k) (xs.drop k) (ys.drop k) = b) (hq : ls[k]? = some q) (hx : xs[k]? = some x) (hy : ys[k]? = some y) : b = (Q0 q x y && QaB (ls.drop (k + 1)) (xs.drop (k + 1)) (ys.drop (k + 1))) := by
 rw [← hg, Q4 hq, Q4 hx, Q4 hy, QaB]
theorem Qny (hg : QaB (ls.drop k) (xs.drop k) (ys.drop k) = b) (h : ls.length ≤ k) : b = true := by
 rw [← hg, List.drop_of_length_le h, QaB]
theorem Xt : ∀ {xs : List Qt} {ls : List Qs} {k : Nat} {x : Qt} {q : Qs}, J3 xs ls = true → xs[k]? = some x → ls[k]? = some q → Qv x q = true
 | [], _, _, _, _, _, hx, _ => by simp at hx
 | _ :: _, [], _, _, _, _, _, hq => by simp at hq
 | a :: r, p :: s, 0, x, q, h, hx, hq => by
  rw [J3, Bool.and_eq_true] at h
  simp at hx hq; subst hx hq; exact h.1
 | a :: r, p :: s, k + 1, x, q, h, hx, hq => by
  rw [J3, Bool.and_eq_true] at h
  exact Xt h.2 (by simpa using hx) (by simpa using hq)
end
theorem QoT {v : Qt} {l : Qs} {q : Qs} {r : List Qs} (h : Qv v l = true) (hk : l.k = 5) (hp : l.ps = q :: r) : v.nm.length = v.ps.length ∧ ∀ p ∈ v.ps, Qv p q = true := by
 rw [Qw, hk, hp] at h
 simp [We, QaF] at h
 exact ⟨by omega, fun p hp => (h.2 p hp).1⟩
theorem Qmr {v : Qt} {l : Qs} (h : Qv v l = true) (hk : l.k = 6 ∨ l.k = 7) : v.ps.length = l.ps.length ∧ J3 v.ps l.ps = true := by
 rw [Qw] at h
 rcases hk with hk | hk <;> rw [hk] at h <;> simp at h <;> exact ⟨by omega, h.2⟩
theorem YH {l : Qs} (h : QU l = 0) (hk : l.k = 7) : ∃ a b, l.ps = [a, b] := by
 unfold QU at h
 rw [if_pos (by rw [hk]; decide)] at h
 have hb : JV l = false := by
  cases hb : JV l
  ·rfl
  rw [hb] at h; simp [X4] at h
 have h2 : l.ps.length = 2 := by
  simp only [JV, XO, hk] at hb
  simp at hb
  omega
 match hl : l.ps, h2 with
 | [a, b], _ => exact ⟨a, b, rfl⟩
theorem JL {l : Qs} {v : Qt} {a b : Qs} (h : Qv v l = true) (hk : l.k = 7) (hp : l.ps = [a, b]) : ∃ x y, v.ps = [x, y] ∧ Qv x a = true ∧ Qv y b = true := by
 obtain ⟨h1, h2⟩ := Qmr h (.inr hk)
 rw [hp] at h1 h2
 match hl : v.ps, h1 with
 | [x, y], _ =>
  rw [hl] at h2
  simp only [J3, Bool.and_eq_true] at h2
  exact ⟨x, y, rfl, h2.1, h2.2.1⟩
theorem Qba {l : List Nm} {m : List Qt} {k : Nat} {x : Nm} {p : Qt} (h1 : l[k]? = some x) (h2 : m[k]? = some p) : (l.zip m)[k]? = some (x, p) := by
 rw [List.getElem?_zip_eq_some]; exact ⟨h1, h2⟩
theorem Qo1 (l : Qs) (hO : Ys l) (ih : ∀ q ∈ l.ps, ∀ x y, Qv x q = true → Qv y q = true → FC Tryz.prog 130 [.agg (QP q), .agg (QH x), .agg (QH y)] (bl (Q0 q x y))) (a b : Qt) (ha : Qv a l = true) (hb : Qv b l = true) : FC Tryz.prog 130 [.agg (QP l), .agg (QH a), .agg (QH b)] (bl (Q0 l a b)) := by
 refine Qe [6] Tryz.func130 rfl rfl 163 Tryz.ntmps130 (Nat.le_of_ble_eq_true rfl) ?_
 intro E hN
 refine Qm5 ?_
 refine zq ?_ ?_ <;> intro h9
 ·
  refine XM ?_; refine zQ ?_
  exact Qq (by rw [XT]; simp_all)
 refine Qz ?_
 refine zq ?_ ?_ <;> intro h15
 ·
  refine Jf ?_; refine zQ ?_
  exact Qq (by rw [XT]; simp_all)
 refine QA ?_
 refine zq ?_ ?_ <;> intro h21
 ·
  refine Jf ?_; refine zQ ?_
  exact Qq (by rw [XT]; simp_all)
 refine Xk ?_
 refine zq ?_ ?_ <;> intro h27
 ·
  refine Jf ?_; refine zP (Qb (Qan _ _) rfl rfl rfl) ?_; refine zS ?_; refine zQ ?_
  exact Qq (by rw [XT]; simp_all)
 refine Qz ?_
 refine zq ?_ ?_ <;> intro h33
 ·
  refine Xk ?_; refine zP (Qb (Qan _ _) rfl rfl rfl) ?_; refine zS ?_; refine zQ ?_
  exact Qq (by rw [XT]; simp_all)
 refine QA ?_
 refine zq ?_ ?_ <;> intro h39
 ·
  refine Jy ?_
  obtain ⟨q, r, hps⟩ := Qiy hO.shape (by simp_all)
  have hk5 : l.k = 5 := by simp_all
  have hqm : q ∈ l.ps := by rw [hps]; exact List.mem_cons_self
  have hq0 : l.ps[0]? = some q := by rw [hps]; rfl
  obtain ⟨hla, hea⟩ := QoT ha hk5 hps
  obtain ⟨hlb, heb⟩ := QoT hb hk5 hps
  have hE : Q0 l a b = (a.nm.zip a.ps).all (QeP q b) := by rw [XT, hk5, hps]; simp [Qgt]
  refine Qo (fun x : {k : Nat // k ≤ (a.nm).length ∧ ((a.nm.zip a.ps).drop k).all (QeP q b) = (a.nm.zip a.ps).all (QeP q b)} => ⟨[(3, .ptr 0 0), (4, .ptr 1 0), (5, .ptr 2 0), (42, XN a.nm), (43, i64 a.nm.length), (44, i64 (x.1 : Nat))], [(0, .var 26 (QP l)), (1, .var 30 (QH a)), (2, .var 30 (QH b))], 3⟩) (fun x => (a.nm).length - x.1) (⟨0, Nat.zero_le _, by simp⟩) ?_ ?_
  ·
   exact Qa rfl (Yg ⟨(Xe (by simp)), rfl, (Xr trivial)⟩) ⟨rfl, rfl, rfl, rfl, rfl, rfl, rfl, rfl, rfl, trivial⟩
  rintro ⟨k, hk, hg⟩
  dsimp only
  refine X7 42 rfl (fun hl8 => ?_)
  refine QA ?_
  refine zq ?_ ?_ <;> intro h49
  rotate_left
  ·
   have hge : (a.nm).length ≤ k := by simpa using h49
   refine Qz ?_; refine zQ ?_
   exact Qq (by rw [hE, XZ hg (by simp; omega)])
  have hlt : k < (a.nm).length := by simpa using h49
  obtain ⟨x, hx⟩ := Qr hlt
  obtain ⟨p, hp⟩ := Qr (show k < a.ps.length by omega)
  refine Xk ?_; refine zP (Qf rfl rfl rfl k rfl _ (Qu hx) rfl) ?_; refine Jy ?_; refine zP (Qb (Qa7 _ _) rfl rfl rfl) ?_
  refine Qx ?_; refine Qg 19 (by kernel_rfl) (by kernel_rfl) ?_; refine Qx ?_
  refine zd 55 ?_ ?_ <;> intro h55
  ·
   have hpo := Qaf (s := x) (b := b) (by simpa using h55)
   refine QdO ?_; change Ql _ _ _ _ _ _; refine Xk ?_; refine zQ ?_
   exact Qq (by rw [hE, Q1 hg (Qba hx hp) (by simp only [QeP, hpo]; first | done | simp_all)])
  obtain ⟨j, hj, hjl⟩ : ∃ j : Nat, Xd x b.nm 0 = (j : Int) ∧ j < b.ps.length := by
   rcases QbT x b.nm 0 with h1 | ⟨j, -, h2, h3⟩
   ·simp [h1] at h55
   exact ⟨j, h3, by omega⟩
  obtain ⟨y, hy⟩ := Qr hjl
  have hpo := Qcp hj hy
  refine QC ?_; refine vP (XF h55) (Qf rfl rfl rfl 0 rfl _ (Xv hq0) rfl) ?_; refine Qz ?_
  refine vP (XF h55) (Qf rfl rfl rfl k rfl _ (Q9 hp) rfl) ?_; refine Qz ?_
  refine vP (XF h55) (Qf rfl rfl rfl j hj _ (Q9 hy) rfl) ?_; refine Yb ?_
  refine vP (XF h55) (Qb (ih q hqm p y (hea p (List.mem_of_getElem? hp)) (heb y (List.mem_of_getElem? hy))) rfl rfl rfl) ?_; refine Yb ?_
  change Ql _ _ _ _ _ _; refine QC ?_
  refine zq ?_ ?_ <;> intro h68
  ·
   refine Qx ?_; refine zQ ?_
   exact Qq (by rw [hE, Q1 hg (Qba hx hp) (by simp only [QeP, hpo]; first | done | simp_all)])
  refine Qz ?_; refine Qc ?_
  exact ⟨⟨k + 1, hlt, Xx hg (Qba hx hp) (by simp only [QeP, hpo]; simp_all)⟩, Qa rfl (Yg (Xr ⟨(Xe (by dsimp only; omega)), rfl, trivial⟩)) ⟨rfl, rfl, rfl, rfl, rfl, rfl, rfl, rfl, rfl, trivial⟩, by dsimp only; omega⟩
 refine QA ?_
 refine zq ?_ ?_ <;> intro h70
 ·
  refine Jy ?_
  have hk6 : l.k = 6 := by simp_all
  obtain ⟨hla, hza⟩ := Qmr ha (.inl hk6)
  obtain ⟨hlb, hzb⟩ := Qmr hb (.inl hk6)
  have hE : Q0 l a b = QaB l.ps a.ps b.ps := by rw [XT, hk6]; rfl
  refine Qo (fun x : {k : Nat // k ≤ (l.ps).length ∧ QaB (l.ps.drop k) (a.ps.drop k) (b.ps.drop k) = QaB l.ps a.ps b.ps} => ⟨[(3, .ptr 0 0), (4, .ptr 1 0), (5, .ptr 2 0), (77, Qf0 l.ps), (78, i64 l.ps.length), (79, i64 (x.1 : Nat))], [(0, .var 26 (QP l)), (1, .var 30 (QH a)), (2, .var 30 (QH b))], 3⟩) (fun x => (l.ps).length - x.1) (⟨0, Nat.zero_le _, by simp⟩) ?_ ?_
  ·
   exact Qa rfl (Yg ⟨(Xe (by simp)), rfl, (Xr trivial)⟩) ⟨rfl, rfl, rfl, rfl, rfl, rfl, rfl, rfl, rfl, trivial⟩
  rintro ⟨k, hk, hg⟩
  dsimp only
  refine X7 77 rfl (fun hl8 => ?_)
  refine QA ?_
  refine zq ?_ ?_ <;> intro h80
  rotate_left
  ·
   have hge : (l.ps).length ≤ k := by simpa using h80
   refine Qz ?_; refine zQ ?_
   exact Qq (by rw [hE, Qny hg hge])
  have hlt : k < l.ps.length := by simpa using h80
  obtain ⟨q, hq⟩ := Qr hlt
  obtain ⟨x, hx⟩ := Qr (show k < a.ps.length by omega)
  obtain ⟨y, hy⟩ := Qr (show k < b.ps.length by omega)
  have hqm : q ∈ l.ps := List.mem_of_getElem? hq
  have hs := Qox hg hq hx hy
  refine Xk ?_; refine zP (Qf rfl rfl rfl k rfl _ (Xv hq) rfl) ?_; refine Xk ?_; refine Qg 12 (by kernel_rfl) (by kernel_rfl) ?_
  refine Qz ?_; refine zp (Qf rfl rfl rfl k rfl _ (Q9 hx) rfl) ?_; refine Qz ?_; refine zp (Qf rfl rfl rfl k rfl _ (Q9 hy) rfl) ?_
  refine zl ?_; refine zp (Qb (ih q hqm x y (Xt hza hx hq) (Xt hzb hy hq)) rfl rfl rfl) ?_; change Ql _ _ _ _ _ _; refine QC ?_
  refine zq ?_ ?_ <;> intro h94
  ·
   refine Qx ?_; refine zQ ?_
   exact Qq (by rw [hE, hs]; simp_all)
  refine Qz ?_; refine Qc ?_
  exact ⟨⟨k + 1, hlt, by simp_all⟩, Qa rfl (Yg (Xr ⟨(Xe (by dsimp only; omega)), rfl, trivial⟩)) ⟨rfl, rfl, rfl, rfl, rfl, rfl, rfl, rfl, rfl, trivial⟩, by dsimp only; omega⟩
 refine QA ?_
 refine zq ?_ ?_ <;> intro h96
 ·
  refine QC ?_
  have hk7 : l.k = 7 := by simp_all
  obtain ⟨q1, q2, hps⟩ := YH hO.shape hk7
  obtain ⟨x1, x2, hpa, hx1, hx2⟩ := JL ha hk7 hps
  obtain ⟨y1, y2, hpb, hy1, hy2⟩ := JL hb hk7 hps
  have hE : Q0 l a b = if eqV x1 y1 then Q0 q2 x2 y2 else Q0 q1 x1 y1 := by rw [XT, hk7, hps, hpa, hpb]; simp [QlR]
  have hq1' : l.ps[0]? = some q1 := by rw [hps]; rfl
  have hq2' : l.ps[1]? = some q2 := by rw [hps]; rfl
  have hx1' : a.ps[0]? = some x1 := by rw [hpa]; rfl
  have hx2' : a.ps[1]? = some x2 := by rw [hpa]; rfl
  have hy1' : b.ps[0]? = some y1 := by rw [hpb]; rfl
  have hy2' : b.ps[1]? = some y2 := by rw [hpb]; rfl
  refine Qg 8 (by kernel_rfl) (by kernel_rfl) ?_; refine QC ?_; refine zp (Qf rfl rfl rfl 0 rfl _ (Q9 hx1') rfl) ?_; refine Qx ?_
  refine zp (Qf rfl rfl rfl 0 rfl _ (Q9 hy1') rfl) ?_; refine zl ?_; change Ql _ _ _ _ _ _; refine zP (Qb (QbN _ _) rfl rfl rfl) ?_
  refine zN ?_
  refine zq ?_ ?_ <;> intro h105
  ·
   have h28 := h105
   refine Yb ?_; refine Qg 13 (by kernel_rfl) (by kernel_rfl) ?_; refine QC ?_; refine zp (Qf rfl rfl rfl 1 rfl _ (Xv hq2') rfl) ?_
   refine Qx ?_; refine zp (Qf rfl rfl rfl 1 rfl _ (Q9 hx2') rfl) ?_; refine Qx ?_
   refine zp (Qf rfl rfl rfl 1 rfl _ (Q9 hy2') rfl) ?_; refine zl ?_
   refine zp (Qb (ih q2 (by rw [hps]; simp) x2 y2 hx2 hy2) rfl rfl rfl) ?_
   change Ql _ _ _ _ _ _; refine zS ?_; refine zQ ?_
   exact Qq (by rw [hE, if_pos h28])
  have h28 := h105
  refine QC ?_; refine Qg 13 (by kernel_rfl) (by kernel_rfl) ?_; refine QC ?_; refine zp (Qf rfl rfl rfl 0 rfl _ (Xv hq1') rfl) ?_
  refine Qx ?_; refine zp (Qf rfl rfl rfl 0 rfl _ (Q9 hx1') rfl) ?_; refine Qx ?_
  refine zp (Qf rfl rfl rfl 0 rfl _ (Q9 hy1') rfl) ?_; refine zl ?_
  refine zp (Qb (ih q1 (by rw [hps]; simp) x1 y1 hx1 hy1) rfl rfl rfl) ?_
  change Ql _ _ _ _ _ _; refine zS ?_; refine zQ ?_
  exact Qq (by rw [hE, if_neg (by simp [h28])])
 refine QA ?_
 refine zq ?_ ?_ <;> intro h132
 ·
  refine Xk ?_
  refine zc 140 ?_ ?_ <;> intro h135
  ·
   refine XM ?_; refine zQ ?_
   exact Qq (by rw [XT]; simp_all)
  refine QA ?_
  refine zc 145 ?_ ?_ <;> intro h138
  ·
   refine QA ?_; refine zQ ?_
   exact Qq (by rw [XT]; simp_all)
  refine QC ?_; refine uP (XF h138) (Qb (QbN _ _) rfl rfl rfl) ?_; refine QC ?_; refine zQ ?_
  exact Qq (by rw [XT]; simp_all)
 refine XM ?_
 have hE : Q0 l a b = a.es.all (JR b.es) := by rw [XT]; simp_all
 refine Qo (fun x : {k : Nat // k ≤ (a.es).length ∧ (a.es.drop k).all (JR b.es) = a.es.all (JR b.es)} => ⟨[(3, .ptr 0 0), (4, .ptr 1 0), (5, .ptr 2 0), (151, KU a.es), (152, i64 a.es.length), (153, i64 (x.1 : Nat))], [(0, .var 26 (QP l)), (1, .var 30 (QH a)), (2, .var 30 (QH b))], 3⟩) (fun x => (a.es).length - x.1) (⟨0, Nat.zero_le _, by simp⟩) ?_ ?_
 ·
  exact Qa rfl (Yg ⟨(Xe (by simp)), rfl, (Xr trivial)⟩) ⟨rfl, rfl, rfl, rfl, rfl, rfl, rfl, rfl, rfl, trivial⟩
 rintro ⟨k, hk, hg⟩
 dsimp only
 refine X7 151 rfl (fun hl8 => ?_)
 refine QA ?_
 refine zq ?_ ?_ <;> intro h151
 rotate_left
 ·
  have hge : (a.es).length ≤ k := by simpa using h151
  refine Qz ?_; refine zQ ?_
  exact Qq (by rw [hE, XZ hg hge])
 have hlt : k < (a.es).length := by simpa using h151
 obtain ⟨x, hx⟩ := Qr hlt
 refine QA ?_; refine zP (Qf rfl rfl rfl k rfl _ (Qu hx) rfl) ?_; refine Jy ?_; refine zP (Qb (Qdb _ _) rfl rfl rfl) ?_
 refine QC ?_
 refine zq ?_ ?_ <;> intro h159
 ·
  refine Qx ?_; refine zQ ?_
  exact Qq (by rw [hE, Q1 hg hx (by simp_all)])
 refine Qz ?_; refine Qc ?_
 exact ⟨⟨k + 1, hlt, Xx hg hx (by simp_all)⟩, Qa rfl (Yg (Xr ⟨(Xe (by dsimp only; omega)), rfl, trivial⟩)) ⟨rfl, rfl, rfl, rfl, rfl, rfl, rfl, rfl, rfl, trivial⟩, by dsimp only; omega⟩
theorem QbU (l : Qs) (hO : Ys l) (a b : Qt) (ha : Qv a l = true) (hb : Qv b l = true) : FC Tryz.prog 130 [.agg (QP l), .agg (QH a), .agg (QH b)] (bl (Q0 l a b)) := Qo1 l hO (fun q hq x y hx hy => QbU q (hO.part q hq) x y hx hy) a b ha hb
termination_by l
decreasing_by exact Qs.sizeOf_ps ‹_›
def Qav (l : Qs) (vs : List Qt) : Bool := vs.all (Ka l)
def J6 (l : Qs) (vs : List Qt) : Int := if QK l != 0 then 1 else if Qav l vs then 0 else 4
theorem Qd5 {l : Qs} {vs : List Qt} (h : J6 l vs = 0) : QK l = 0 ∧ ∀ v ∈ vs, Qv v l = true := by
 unfold J6 at h
 split at h
 ·cases h
 rename_i h1
 split at h
 ·rename_i h2
  refine ⟨by simpa using h1, fun v hv => ?_⟩
  have := List.all_eq_true.1 h2 v hv
  simp only [Ka, Bool.and_eq_true] at this
  exact this.2
 cases h
def Qc9 (l : Qs) (a b : Qt) : Bool := J6 l [a, b] == 0 && Q0 l a b
theorem QgV (l : Qs) (vs : List Qt) : FC Tryz.prog 161 [.agg (QP l), J8 vs] (bl (Qav l vs)) := by
 refine Qe [4] Tryz.func161 rfl rfl 18 Tryz.ntmps161 (Nat.le_of_ble_eq_true rfl) ?_
 intro E hN
 refine X7 1 rfl (fun hl1 => ?_)
 refine Wz ?_
 refine Qo (fun x : {k : Nat // k ≤ (vs).length ∧ (vs.drop k).all (Ka l) = vs.all (Ka l)} => ⟨[(2, .ptr 0 0), (7, J8 vs), (8, i64 vs.length), (9, i64 (x.1 : Nat))], [(0, .var 26 (QP l))], 1⟩) (fun x => (vs).length - x.1) (⟨0, Nat.zero_le _, by simp⟩) ?_ ?_
 ·
  exact Qa rfl (Yv ⟨(Xe (by simp)), rfl, (Xr trivial)⟩) ⟨rfl, rfl, rfl, trivial⟩
 rintro ⟨k, hk, hg⟩
 dsimp only
 refine QA ?_
 refine zq ?_ ?_ <;> intro h9
 rotate_left
 ·
  have hge : (vs).length ≤ k := by simpa using h9
  refine Qz ?_; refine zQ ?_
  exact Qq (XZ hg hge).symm
 have hlt : k < (vs).length := by simpa using h9
 obtain ⟨x, hx⟩ := Qr hlt
 refine QA ?_; refine zP (Qf rfl rfl rfl k rfl _ (Q9 hx) rfl) ?_; refine Jf ?_; refine zP (Qb (Qb2 _ _) rfl rfl rfl) ?_
 refine QC ?_
 refine zq ?_ ?_ <;> intro h16
 ·
  refine Qx ?_; refine zQ ?_
  exact Qq (Q1 hg hx (by simp_all)).symm
 refine Qz ?_; refine Qc ?_
 exact ⟨⟨k + 1, hlt, Xx hg hx (by simp_all)⟩, Qa rfl (Ya ⟨(Xe (by dsimp only; omega)), rfl, trivial⟩) ⟨rfl, rfl, rfl, trivial⟩, by dsimp only; omega⟩
theorem QeB (l : Qs) (vs : List Qt) : FC Tryz.prog 129 [.agg (QP l), J8 vs] (i64 (J6 l vs)) := by
 refine Qe [4] Tryz.func129 rfl rfl 12 Tryz.ntmps129 (Nat.le_of_ble_eq_true rfl) ?_
 intro E hN
 refine Jy ?_; refine zP (Qb (K9 l) rfl rfl rfl) ?_; refine QC ?_
 refine zq ?_ ?_ <;> intro h6
 ·
  refine Qx ?_; refine zQ ?_
  exact QB (by simp_all [J6])
 refine Xk ?_; refine zP (Qb (QgV l vs) rfl rfl rfl) ?_; refine QC ?_
 refine zq ?_ ?_ <;> intro h8
 ·
  refine Qx ?_; refine zQ ?_
  exact QB (by simp_all [J6])
 refine Qz ?_; refine zQ ?_
 exact QB (by simp_all [J6])
theorem Qdj (a b : Qt) : X2 4 2 [i64 a.N, XN a.nm, J8 a.ps, KU a.es, i64 b.N, XN b.nm, J8 b.ps, KU b.es] = [a, b].map YR := by
 show [QH a, QH b] = _
 simp [WB]
theorem Ql0 (l : Qs) (a b : Qt) : FC Tryz.prog 84 [.agg (QP l), .agg (QH a), .agg (QH b)] (bl (Qc9 l a b)) := by
 refine Qe [6] Tryz.func84 rfl rfl 19 Tryz.ntmps84 (Nat.le_of_ble_eq_true rfl) ?_
 intro E hN
 refine Jn ?_; refine zP (Kq rfl rfl rfl rfl (by exact rfl) (by decide) (by decide) (Qdj a b)) ?_
 refine zP (Qb (QeB l [a, b]) rfl rfl rfl) ?_; refine QC ?_
 refine zc 13 ?_ ?_ <;> intro h12
 ·
  have hok := Qd5 (by simpa using h12)
  refine Qx ?_; refine uP (Xo h12) (Qb (QbU l (Xg hok.1) a b (hok.2 a (by simp)) (hok.2 b (by simp))) rfl rfl rfl) ?_; refine QC ?_
  refine zQ ?_
  exact Qq (by simp_all [Qc9])
 refine Xk ?_; refine zQ ?_
 exact Qq (by simp_all [Qc9])
end Go.Proofs.YtnkkokmmeplbgaaGreat
