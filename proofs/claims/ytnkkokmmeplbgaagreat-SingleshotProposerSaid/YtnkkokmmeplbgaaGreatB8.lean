/-
  Contracts: the order of a lattice's elements.
-/
import Derived.Test.YtnkkokmmeplbgaaGreatB7
import Derived.Test.YtnkkokmmeplbgaaGreatA3
namespace Go.Proofs.YtnkkokmmeplbgaaGreat
set_option maxRecDepth 100000
set_option maxHeartbeats 1000000
open Go.RowKit
def QbL (p q : En) : Bool := if Qev p.1 q.1 == 1 then true else if Qev p.1 q.1 == 0 then p.2 == q.2 else false
def JK (l : List En) (p : En) : Bool := l.any (QbL p)
def Qgf {α : Type} (q : α → Bool) : List α → Nat → Int
 | [], _ => -1
 | x :: l, i => if q x then (i : Int) else Qgf q l (i + 1)
theorem QjZ {α : Type} (q : α → Bool) : ∀ (l : List α) (i : Nat), decide (Qgf q l i ≥ 0) = l.any q
 | [], i => by simp [Qgf]
 | x :: l, i => by
  unfold Qgf
  by_cases h : q x = true
  ·rw [if_pos h, List.any_cons, h]; simp
  ·rw [if_neg h, List.any_cons, QjZ q l (i + 1)]; simp [h]
theorem Qpx {f : FuncId} [Xh Tryz.prog f] {cs : List AV} {q : En → Bool} (l : List En) (hc : ∀ y ∈ l, FC Tryz.prog f [.agg (Kv y), .el cs] (bl (q y))) : FC Tryz.prog 222 [W7 l, .fn f [.el cs]] (i64 (Qgf q l 0)) := by
 refine Qg [4] Tryz.func222 rfl rfl 19 Tryz.ntmps222 (Nat.le_of_ble_eq_true rfl) ?_
 intro E hN
 refine Jj 0 rfl (fun hl0 => ?_)
 refine X6 ?_
 refine Ql (fun x : {k : Nat // k ≤ (l).length ∧ Qgf q (l.drop k) k = Qgf q l 0} => ⟨[(0, W7 l), (1, .fn f [.el cs]), (7, i64 l.length), (8, i64 (x.1 : Nat))], [], 0⟩) (fun x => (l).length - x.1) (⟨0, Nat.zero_le _, by simp⟩) ?_ ?_
 ·
  exact Qa rfl (JI ⟨(Q0 (by simp)), rfl, (Xv trivial)⟩) trivial
 rintro ⟨k, hk, hg⟩
 dsimp only
 refine QF ?_
 refine zq ?_ ?_ <;> intro h8
 rotate_left
 ·
  have hge : (l).length ≤ k := by simpa using h8
  refine Qv ?_; refine zQ ?_
  exact QS (by rw [← hg, List.drop_of_length_le hge]; rfl)
 have hlt : k < (l).length := by simpa using h8
 obtain ⟨x, hx⟩ := Qn hlt
 have hs : Qgf q l 0 = if q x then (k : Int) else Qgf q (l.drop (k + 1)) (k + 1) := by rw [← hg, XA hx]; rfl
 refine YR ?_; refine zP (Qf rfl rfl rfl k rfl _ (Qk hx) rfl) ?_; refine zL ?_
 refine zP (WJ (hc x (List.mem_of_getElem? hx)) rfl rfl rfl rfl) ?_; refine zN ?_
 refine zq ?_ ?_ <;> intro h11
 ·
  have h4 := h11
  refine Qv ?_; refine zQ ?_
  exact QS (by rw [hs, if_pos (by simp_all)])
 have hn : Qgf q (l.drop (k + 1)) (k + 1) = Qgf q l 0 := by rw [hs, if_neg (by simp_all)]
 refine Qv ?_; refine Qb ?_
 exact ⟨⟨k + 1, hlt, hn⟩, Qa rfl (JO ⟨(Q0 (by dsimp only; omega)), rfl, trivial⟩) trivial, by dsimp only; omega⟩
theorem QkC {f : FuncId} [Xh Tryz.prog f] {cs : List AV} {q : En → Bool} (l : List En) (hc : ∀ y ∈ l, FC Tryz.prog f [.agg (Kv y), .el cs] (bl (q y))) : FC Tryz.prog 199 [W7 l, .fn f [.el cs]] (bl (l.any q)) := by
 refine Qg [4] Tryz.func199 rfl rfl 9 Tryz.ntmps199 (Nat.le_of_ble_eq_true rfl) ?_
 intro E hN
 refine XN ?_; refine zP (Qc (Qpx l hc) rfl rfl rfl) ?_; refine Qu ?_; refine zQ ?_
 exact Qm (QjZ q l 0)
theorem QoL (x y : En) : FC Tryz.prog 201 [.agg (Kv x), .agg (Kv y)] (bl (QbL x y)) := by
 refine Qg [4] Tryz.func201 rfl rfl 19 Tryz.ntmps201 (Nat.le_of_ble_eq_true rfl) ?_
 intro E hN
 refine YR ?_; refine zP (Qc (QfS _ _) rfl rfl rfl) ?_; refine Q4 ?_
 refine zq ?_ ?_ <;> intro h10
 ·
  refine Qs ?_; refine zQ ?_
  exact Qm (by simp_all [QbL])
 refine QF ?_
 refine zq ?_ ?_ <;> intro h11
 ·
  refine XN ?_; refine zQ ?_
  exact Qm (by simp_all [QbL])
 refine Qv ?_; refine zQ ?_
 exact Qm (by simp_all [QbL])
theorem Qjp (x y : En) : FC Tryz.prog 200 [.agg (Kv y), .el (Kv x)] (bl (QbL x y)) := by
 refine Qg [3] Tryz.func200 rfl rfl 7 Tryz.ntmps200 (Nat.le_of_ble_eq_true rfl) ?_
 intro E hN
 refine JA ?_; refine zP (Qc (QoL x y) rfl rfl rfl) ?_; refine zS ?_; refine zQ ?_
 rfl
theorem QgS (x : En) (l : List En) : FC Tryz.prog 164 [.agg (Kv x), W7 l] (bl (JK l x)) := by
 refine Qg [4] Tryz.func164 rfl rfl 8 Tryz.ntmps164 (Nat.le_of_ble_eq_true rfl) ?_
 intro E hN
 refine Q8 ?_; refine QI (Qcq 2 0 rfl rfl rfl rfl) ?_; refine Qu ?_; refine zP (Qpq rfl rfl) ?_
 refine zP (Qc (QkC l (fun y _ => Qjp x y)) rfl rfl rfl) ?_; refine zS ?_; refine zQ ?_
 rfl
theorem Qpr (l : QD) : FC Tryz.prog 158 [.agg (Q2 l)] (.agg (Qz (KE l).1)) := by
 refine Jf [.c 2 30 4 true] ⟨⟨inferInstance, rfl⟩, trivial⟩ Tryz.func158 rfl rfl 11 Tryz.ntmps158 (Nat.le_of_ble_eq_true rfl) ?_
 intro E hN
 refine XN ?_; refine zP (Qc (Qhv l) rfl rfl rfl) ?_; refine X6 ?_; refine Qh ?_
 change (resY _ _).bind AV.fzt = some _
 refine XD rfl ?_
 rfl
def Xy (b : Qw) (s : Nm) : Option Qw := if Xs s b.nm 0 < 0 then none else b.ps[(Xs s b.nm 0).toNat]?
theorem Qbs (s : Nm) : ∀ (l : List Nm) (i : Nat), Xs s l i = -1 ∨ ∃ j, i ≤ j ∧ j < i + l.length ∧ Xs s l i = (j : Int)
 | [], i => .inl rfl
 | x :: l, i => by
  unfold Xs
  by_cases h : (s == x) = true
  ·rw [if_pos h]; exact .inr ⟨i, Nat.le_refl _, by simp, rfl⟩
  rw [if_neg h]
  rcases Qbs s l (i + 1) with h1 | ⟨j, h1, h2, h3⟩
  ·exact .inl h1
  exact .inr ⟨j, by omega, by simp only [List.length_cons]; omega, h3⟩
theorem QaK {b : Qw} {s : Nm} {j : Nat} {y : Qw} (h : Xs s b.nm 0 = (j : Int)) (hy : b.ps[j]? = some y) : Xy b s = some y := by
 unfold Xy; rw [h, if_neg (by omega)]; simpa using hy
theorem WM {b : Qw} {s : Nm} (h : Xs s b.nm 0 < 0) : Xy b s = none := by
 unfold Xy; rw [if_pos h]
mutual
def Xl : QD → Qw → Qw → Bool
 | .mk k _ _ _ ps _, a, b =>
  if k == 1 || k == 2 then decide (a.N ≤ b.N)
  else if k == 3 then decide (a.N ≥ b.N)
  else if k == 4 || k == 10 then JT a.nm b.nm
  else if k == 5 then QqZ ps (a.nm.zip a.ps) b
  else if k == 6 then QbZ ps a.ps b.ps
  else if k == 7 then Qpa ps a.ps b.ps
  else if k == 8 then a.N == 0 || b.N == 2 || eqV a b
  else a.es.all (JK b.es)
def QqZ : List QD → List (Nm × Qw) → Qw → Bool
 | [], _, _ => false
 | q :: _, l, b => l.all fun x => match Xy b x.1 with | some y => Xl q x.2 y | none => false
def QbZ : List QD → List Qw → List Qw → Bool
 | [], _, _ => true
 | q :: r, x :: a, y :: b => Xl q x y && QbZ r a b
 | _ :: _, _, _ => false
def Qpa : List QD → List Qw → List Qw → Bool
 | [p, q], [x1, x2], [y1, y2] => if eqV x1 y1 then Xl q x2 y2 else Xl p x1 y1
 | _, _, _ => false
end
def QdJ (q : QD) (b : Qw) (x : Nm × Qw) : Bool := match Xy b x.1 with | some y => Xl q x.2 y | none => false
theorem Qgr (q : QD) (r : List QD) (l : List (Nm × Qw)) (b : Qw) : QqZ (q :: r) l b = l.all (QdJ q b) := by rw [QqZ]; rfl
theorem XI (l : QD) (a b : Qw) : Xl l a b =
  if l.k == 1 || l.k == 2 then decide (a.N ≤ b.N)
  else if l.k == 3 then decide (a.N ≥ b.N)
  else if l.k == 4 || l.k == 10 then JT a.nm b.nm
  else if l.k == 5 then QqZ l.ps (a.nm.zip a.ps) b
  else if l.k == 6 then QbZ l.ps a.ps b.ps
  else if l.k == 7 then Qpa l.ps a.ps b.ps
  else if l.k == 8 then a.N == 0 || b.N == 2 || eqV a b
  else a.es.all (JK b.es) := by
 cases l with
 | mk k lo hi nm ps rs => rw [Xl]; rfl
section
variable {ls : List QD} {xs ys : List Qw} {k : Nat} {q : QD} {x y : Qw} {b : Bool}
theorem QrM (hg : QbZ (ls.drop k) (xs.drop k) (ys.drop k) = b) (hq : ls[k]? = some q) (hx : xs[k]? = some x) (hy : ys[k]? = some y) : b = (Xl q x y && QbZ (ls.drop (k + 1)) (xs.drop (k + 1)) (ys.drop (k + 1))) := by
 rw [← hg, XA hq, XA hx, XA hy, QbZ]
theorem QoZ (hg : QbZ (ls.drop k) (xs.drop k) (ys.drop k) = b) (h : ls.length ≤ k) : b = true := by
 rw [← hg, List.drop_of_length_le h, QbZ]
theorem Ja : ∀ {xs : List Qw} {ls : List QD} {k : Nat} {x : Qw} {q : QD}, YU xs ls = true → xs[k]? = some x → ls[k]? = some q → Qt x q = true
 | [], _, _, _, _, _, hx, _ => by simp at hx
 | _ :: _, [], _, _, _, _, _, hq => by simp at hq
 | a :: r, p :: s, 0, x, q, h, hx, hq => by
  rw [YU, Bool.and_eq_true] at h
  simp at hx hq; subst hx hq; exact h.1
 | a :: r, p :: s, k + 1, x, q, h, hx, hq => by
  rw [YU, Bool.and_eq_true] at h
  exact Ja h.2 (by simpa using hx) (by simpa using hq)
end
theorem QqO {v : Qw} {l : QD} {q : QD} {r : List QD} (h : Qt v l = true) (hk : l.k = 5) (hp : l.ps = q :: r) : v.nm.length = v.ps.length ∧ ∀ p ∈ v.ps, Qt p q = true := by
 rw [Qr, hk, hp] at h
 simp [Qah, W5] at h
 exact ⟨by omega, fun p hp => (h.2 p hp).1⟩
theorem Qm6 {v : Qw} {l : QD} (h : Qt v l = true) (hk : l.k = 6 ∨ l.k = 7) : v.ps.length = l.ps.length ∧ YU v.ps l.ps = true := by
 rw [Qr] at h
 rcases hk with hk | hk <;> rw [hk] at h <;> simp at h <;> exact ⟨by omega, h.2⟩
theorem Kd {l : QD} (h : Xo l = 0) (hk : l.k = 7) : ∃ a b, l.ps = [a, b] := by
 unfold Xo at h
 rw [if_pos (by rw [hk]; decide)] at h
 have hb : Kj l = false := by
  cases hb : Kj l
  ·rfl
  rw [hb] at h; simp [J1] at h
 have h2 : l.ps.length = 2 := by
  simp only [Kj, JL, hk] at hb
  simp at hb
  omega
 match hl : l.ps, h2 with
 | [a, b], _ => exact ⟨a, b, rfl⟩
theorem Ye {l : QD} {v : Qw} {a b : QD} (h : Qt v l = true) (hk : l.k = 7) (hp : l.ps = [a, b]) : ∃ x y, v.ps = [x, y] ∧ Qt x a = true ∧ Qt y b = true := by
 obtain ⟨h1, h2⟩ := Qm6 h (.inr hk)
 rw [hp] at h1 h2
 match hl : v.ps, h1 with
 | [x, y], _ =>
  rw [hl] at h2
  simp only [YU, Bool.and_eq_true] at h2
  exact ⟨x, y, rfl, h2.1, h2.2.1⟩
theorem WO {l : List Nm} {m : List Qw} {k : Nat} {x : Nm} {p : Qw} (h1 : l[k]? = some x) (h2 : m[k]? = some p) : (l.zip m)[k]? = some (x, p) := by
 rw [List.getElem?_zip_eq_some]; exact ⟨h1, h2⟩
theorem QtH (l : QD) (hO : YK l) (ih : ∀ q ∈ l.ps, ∀ x y, Qt x q = true → Qt y q = true → FC Tryz.prog 130 [.agg (Q2 q), .agg (Qz x), .agg (Qz y)] (bl (Xl q x y))) (a b : Qw) (ha : Qt a l = true) (hb : Qt b l = true) : FC Tryz.prog 130 [.agg (Q2 l), .agg (Qz a), .agg (Qz b)] (bl (Xl l a b)) := by
 refine Qg [6] Tryz.func130 rfl rfl 163 Tryz.ntmps130 (Nat.le_of_ble_eq_true rfl) ?_
 intro E hN
 refine Qlr ?_
 refine zq ?_ ?_ <;> intro h9
 ·
  refine XB ?_; refine zQ ?_
  exact Qm (by rw [XI]; simp_all)
 refine Qv ?_
 refine zq ?_ ?_ <;> intro h15
 ·
  refine XN ?_; refine zQ ?_
  exact Qm (by rw [XI]; simp_all)
 refine QF ?_
 refine zq ?_ ?_ <;> intro h21
 ·
  refine XN ?_; refine zQ ?_
  exact Qm (by rw [XI]; simp_all)
 refine Q8 ?_
 refine zq ?_ ?_ <;> intro h27
 ·
  refine XN ?_; refine zP (Qc (Qc5 _ _) rfl rfl rfl) ?_; refine zS ?_; refine zQ ?_
  exact Qm (by rw [XI]; simp_all)
 refine Qv ?_
 refine zq ?_ ?_ <;> intro h33
 ·
  refine Q8 ?_; refine zP (Qc (Qc5 _ _) rfl rfl rfl) ?_; refine zS ?_; refine zQ ?_
  exact Qm (by rw [XI]; simp_all)
 refine QF ?_
 refine zq ?_ ?_ <;> intro h39
 ·
  refine JA ?_
  obtain ⟨q, r, hps⟩ := Qd7 hO.shape (by simp_all)
  have hk5 : l.k = 5 := by simp_all
  have hqm : q ∈ l.ps := by rw [hps]; exact List.mem_cons_self
  have hq0 : l.ps[0]? = some q := by rw [hps]; rfl
  obtain ⟨hla, hea⟩ := QqO ha hk5 hps
  obtain ⟨hlb, heb⟩ := QqO hb hk5 hps
  have hE : Xl l a b = (a.nm.zip a.ps).all (QdJ q b) := by rw [XI, hk5, hps]; simp [Qgr]
  refine Ql (fun x : {k : Nat // k ≤ (a.nm).length ∧ ((a.nm.zip a.ps).drop k).all (QdJ q b) = (a.nm.zip a.ps).all (QdJ q b)} => ⟨[(3, .ptr 0 0), (4, .ptr 1 0), (5, .ptr 2 0), (42, X1 a.nm), (43, i64 a.nm.length), (44, i64 (x.1 : Nat))], [(0, .var 26 (Q2 l)), (1, .var 30 (Qz a)), (2, .var 30 (Qz b))], 3⟩) (fun x => (a.nm).length - x.1) (⟨0, Nat.zero_le _, by simp⟩) ?_ ?_
  ·
   exact Qa rfl (JH ⟨(Q0 (by simp)), rfl, (Xv trivial)⟩) ⟨rfl, rfl, rfl, rfl, rfl, rfl, rfl, rfl, rfl, trivial⟩
  rintro ⟨k, hk, hg⟩
  dsimp only
  refine Jj 42 rfl (fun hl8 => ?_)
  refine QF ?_
  refine zq ?_ ?_ <;> intro h49
  rotate_left
  ·
   have hge : (a.nm).length ≤ k := by simpa using h49
   refine Qv ?_; refine zQ ?_
   exact Qm (by rw [hE, XU hg (by simp; omega)])
  have hlt : k < (a.nm).length := by simpa using h49
  obtain ⟨x, hx⟩ := Qn hlt
  obtain ⟨p, hp⟩ := Qn (show k < a.ps.length by omega)
  refine Q8 ?_; refine zP (Qf rfl rfl rfl k rfl _ (Qk hx) rfl) ?_; refine JA ?_; refine zP (Qc (Qeu _ _) rfl rfl rfl) ?_
  refine Qs ?_; refine Qd 19 (by kernel_rfl) (by kernel_rfl) ?_; refine Qs ?_
  refine zd 55 ?_ ?_ <;> intro h55
  ·
   have hpo := WM (s := x) (b := b) (by simpa using h55)
   refine Qcb ?_; change Qj _ _ _ _ _ _; refine Q8 ?_; refine zQ ?_
   exact Qm (by rw [hE, Q3 hg (WO hx hp) (by simp only [QdJ, hpo]; first | done | simp_all)])
  obtain ⟨j, hj, hjl⟩ : ∃ j : Nat, Xs x b.nm 0 = (j : Int) ∧ j < b.ps.length := by
   rcases Qbs x b.nm 0 with h1 | ⟨j, -, h2, h3⟩
   ·simp [h1] at h55
   exact ⟨j, h3, by omega⟩
  obtain ⟨y, hy⟩ := Qn hjl
  have hpo := QaK hj hy
  refine Qu ?_; refine vP (Xj h55) (Qf rfl rfl rfl 0 rfl _ (XK hq0) rfl) ?_; refine Qv ?_
  refine vP (Xj h55) (Qf rfl rfl rfl k rfl _ (QM hp) rfl) ?_; refine Qv ?_
  refine vP (Xj h55) (Qf rfl rfl rfl j hj _ (QM hy) rfl) ?_; refine Jk ?_
  refine vP (Xj h55) (Qc (ih q hqm p y (hea p (List.mem_of_getElem? hp)) (heb y (List.mem_of_getElem? hy))) rfl rfl rfl) ?_; refine Jk ?_
  change Qj _ _ _ _ _ _; refine Qu ?_
  refine zq ?_ ?_ <;> intro h68
  ·
   refine Qs ?_; refine zQ ?_
   exact Qm (by rw [hE, Q3 hg (WO hx hp) (by simp only [QdJ, hpo]; first | done | simp_all)])
  refine Qv ?_; refine Qb ?_
  exact ⟨⟨k + 1, hlt, Xx hg (WO hx hp) (by simp only [QdJ, hpo]; simp_all)⟩, Qa rfl (JH (Xv ⟨(Q0 (by dsimp only; omega)), rfl, trivial⟩)) ⟨rfl, rfl, rfl, rfl, rfl, rfl, rfl, rfl, rfl, trivial⟩, by dsimp only; omega⟩
 refine QF ?_
 refine zq ?_ ?_ <;> intro h70
 ·
  refine JA ?_
  have hk6 : l.k = 6 := by simp_all
  obtain ⟨hla, hza⟩ := Qm6 ha (.inl hk6)
  obtain ⟨hlb, hzb⟩ := Qm6 hb (.inl hk6)
  have hE : Xl l a b = QbZ l.ps a.ps b.ps := by rw [XI, hk6]; rfl
  refine Ql (fun x : {k : Nat // k ≤ (l.ps).length ∧ QbZ (l.ps.drop k) (a.ps.drop k) (b.ps.drop k) = QbZ l.ps a.ps b.ps} => ⟨[(3, .ptr 0 0), (4, .ptr 1 0), (5, .ptr 2 0), (77, Qgi l.ps), (78, i64 l.ps.length), (79, i64 (x.1 : Nat))], [(0, .var 26 (Q2 l)), (1, .var 30 (Qz a)), (2, .var 30 (Qz b))], 3⟩) (fun x => (l.ps).length - x.1) (⟨0, Nat.zero_le _, by simp⟩) ?_ ?_
  ·
   exact Qa rfl (JH ⟨(Q0 (by simp)), rfl, (Xv trivial)⟩) ⟨rfl, rfl, rfl, rfl, rfl, rfl, rfl, rfl, rfl, trivial⟩
  rintro ⟨k, hk, hg⟩
  dsimp only
  refine Jj 77 rfl (fun hl8 => ?_)
  refine QF ?_
  refine zq ?_ ?_ <;> intro h80
  rotate_left
  ·
   have hge : (l.ps).length ≤ k := by simpa using h80
   refine Qv ?_; refine zQ ?_
   exact Qm (by rw [hE, QoZ hg hge])
  have hlt : k < l.ps.length := by simpa using h80
  obtain ⟨q, hq⟩ := Qn hlt
  obtain ⟨x, hx⟩ := Qn (show k < a.ps.length by omega)
  obtain ⟨y, hy⟩ := Qn (show k < b.ps.length by omega)
  have hqm : q ∈ l.ps := List.mem_of_getElem? hq
  have hs := QrM hg hq hx hy
  refine Q8 ?_; refine zP (Qf rfl rfl rfl k rfl _ (XK hq) rfl) ?_; refine Q8 ?_; refine Qd 12 (by kernel_rfl) (by kernel_rfl) ?_
  refine Qv ?_; refine zp (Qf rfl rfl rfl k rfl _ (QM hx) rfl) ?_; refine Qv ?_; refine zp (Qf rfl rfl rfl k rfl _ (QM hy) rfl) ?_
  refine zl ?_; refine zp (Qc (ih q hqm x y (Ja hza hx hq) (Ja hzb hy hq)) rfl rfl rfl) ?_; change Qj _ _ _ _ _ _; refine Qu ?_
  refine zq ?_ ?_ <;> intro h94
  ·
   refine Qs ?_; refine zQ ?_
   exact Qm (by rw [hE, hs]; simp_all)
  refine Qv ?_; refine Qb ?_
  exact ⟨⟨k + 1, hlt, by simp_all⟩, Qa rfl (JH (Xv ⟨(Q0 (by dsimp only; omega)), rfl, trivial⟩)) ⟨rfl, rfl, rfl, rfl, rfl, rfl, rfl, rfl, rfl, trivial⟩, by dsimp only; omega⟩
 refine QF ?_
 refine zq ?_ ?_ <;> intro h96
 ·
  refine Qu ?_
  have hk7 : l.k = 7 := by simp_all
  obtain ⟨q1, q2, hps⟩ := Kd hO.shape hk7
  obtain ⟨x1, x2, hpa, hx1, hx2⟩ := Ye ha hk7 hps
  obtain ⟨y1, y2, hpb, hy1, hy2⟩ := Ye hb hk7 hps
  have hE : Xl l a b = if eqV x1 y1 then Xl q2 x2 y2 else Xl q1 x1 y1 := by rw [XI, hk7, hps, hpa, hpb]; simp [Qpa]
  have hq1' : l.ps[0]? = some q1 := by rw [hps]; rfl
  have hq2' : l.ps[1]? = some q2 := by rw [hps]; rfl
  have hx1' : a.ps[0]? = some x1 := by rw [hpa]; rfl
  have hx2' : a.ps[1]? = some x2 := by rw [hpa]; rfl
  have hy1' : b.ps[0]? = some y1 := by rw [hpb]; rfl
  have hy2' : b.ps[1]? = some y2 := by rw [hpb]; rfl
  refine Qd 8 (by kernel_rfl) (by kernel_rfl) ?_; refine Qu ?_; refine zp (Qf rfl rfl rfl 0 rfl _ (QM hx1') rfl) ?_; refine Qs ?_
  refine zp (Qf rfl rfl rfl 0 rfl _ (QM hy1') rfl) ?_; refine zl ?_; change Qj _ _ _ _ _ _; refine zP (Qc (QbU _ _) rfl rfl rfl) ?_
  refine zN ?_
  refine zq ?_ ?_ <;> intro h105
  ·
   have h28 := h105
   refine Jk ?_; refine Qd 13 (by kernel_rfl) (by kernel_rfl) ?_; refine Qu ?_; refine zp (Qf rfl rfl rfl 1 rfl _ (XK hq2') rfl) ?_
   refine Qs ?_; refine zp (Qf rfl rfl rfl 1 rfl _ (QM hx2') rfl) ?_; refine Qs ?_
   refine zp (Qf rfl rfl rfl 1 rfl _ (QM hy2') rfl) ?_; refine zl ?_
   refine zp (Qc (ih q2 (by rw [hps]; simp) x2 y2 hx2 hy2) rfl rfl rfl) ?_
   change Qj _ _ _ _ _ _; refine zS ?_; refine zQ ?_
   exact Qm (by rw [hE, if_pos h28])
  have h28 := h105
  refine Qu ?_; refine Qd 13 (by kernel_rfl) (by kernel_rfl) ?_; refine Qu ?_; refine zp (Qf rfl rfl rfl 0 rfl _ (XK hq1') rfl) ?_
  refine Qs ?_; refine zp (Qf rfl rfl rfl 0 rfl _ (QM hx1') rfl) ?_; refine Qs ?_
  refine zp (Qf rfl rfl rfl 0 rfl _ (QM hy1') rfl) ?_; refine zl ?_
  refine zp (Qc (ih q1 (by rw [hps]; simp) x1 y1 hx1 hy1) rfl rfl rfl) ?_
  change Qj _ _ _ _ _ _; refine zS ?_; refine zQ ?_
  exact Qm (by rw [hE, if_neg (by simp [h28])])
 refine QF ?_
 refine zq ?_ ?_ <;> intro h132
 ·
  refine Q8 ?_
  refine zc 140 ?_ ?_ <;> intro h135
  ·
   refine XB ?_; refine zQ ?_
   exact Qm (by rw [XI]; simp_all)
  refine QF ?_
  refine zc 145 ?_ ?_ <;> intro h138
  ·
   refine QF ?_; refine zQ ?_
   exact Qm (by rw [XI]; simp_all)
  refine Qu ?_; refine uP (Xj h138) (Qc (QbU _ _) rfl rfl rfl) ?_; refine Qu ?_; refine zQ ?_
  exact Qm (by rw [XI]; simp_all)
 refine XB ?_
 have hE : Xl l a b = a.es.all (JK b.es) := by rw [XI]; simp_all
 refine Ql (fun x : {k : Nat // k ≤ (a.es).length ∧ (a.es.drop k).all (JK b.es) = a.es.all (JK b.es)} => ⟨[(3, .ptr 0 0), (4, .ptr 1 0), (5, .ptr 2 0), (151, W7 a.es), (152, i64 a.es.length), (153, i64 (x.1 : Nat))], [(0, .var 26 (Q2 l)), (1, .var 30 (Qz a)), (2, .var 30 (Qz b))], 3⟩) (fun x => (a.es).length - x.1) (⟨0, Nat.zero_le _, by simp⟩) ?_ ?_
 ·
  exact Qa rfl (JH ⟨(Q0 (by simp)), rfl, (Xv trivial)⟩) ⟨rfl, rfl, rfl, rfl, rfl, rfl, rfl, rfl, rfl, trivial⟩
 rintro ⟨k, hk, hg⟩
 dsimp only
 refine Jj 151 rfl (fun hl8 => ?_)
 refine QF ?_
 refine zq ?_ ?_ <;> intro h151
 rotate_left
 ·
  have hge : (a.es).length ≤ k := by simpa using h151
  refine Qv ?_; refine zQ ?_
  exact Qm (by rw [hE, XU hg hge])
 have hlt : k < (a.es).length := by simpa using h151
 obtain ⟨x, hx⟩ := Qn hlt
 refine QF ?_; refine zP (Qf rfl rfl rfl k rfl _ (Qk hx) rfl) ?_; refine JA ?_; refine zP (Qc (QgS _ _) rfl rfl rfl) ?_
 refine Qu ?_
 refine zq ?_ ?_ <;> intro h159
 ·
  refine Qs ?_; refine zQ ?_
  exact Qm (by rw [hE, Q3 hg hx (by simp_all)])
 refine Qv ?_; refine Qb ?_
 exact ⟨⟨k + 1, hlt, Xx hg hx (by simp_all)⟩, Qa rfl (JH (Xv ⟨(Q0 (by dsimp only; omega)), rfl, trivial⟩)) ⟨rfl, rfl, rfl, rfl, rfl, rfl, rfl, rfl, rfl, trivial⟩, by dsimp only; omega⟩
theorem Qe2 (l : QD) (hO : YK l) (a b : Qw) (ha : Qt a l = true) (hb : Qt b l = true) : FC Tryz.prog 130 [.agg (Q2 l), .agg (Qz a), .agg (Qz b)] (bl (Xl l a b)) := QtH l hO (fun q hq x y hx hy => Qe2 q (hO.part q hq) x y hx hy) a b ha hb
termination_by l
decreasing_by exact QD.sizeOf_ps ‹_›
def Qag (l : QD) (vs : List Qw) : Bool := vs.all (XZ l)
def JZ (l : QD) (vs : List Qw) : Int := if Xp l != 0 then 1 else if Qag l vs then 0 else 4
theorem Qe6 {l : QD} {vs : List Qw} (h : JZ l vs = 0) : Xp l = 0 ∧ ∀ v ∈ vs, Qt v l = true := by
 unfold JZ at h
 split at h
 ·cases h
 rename_i h1
 split at h
 ·rename_i h2
  refine ⟨by simpa using h1, fun v hv => ?_⟩
  have := List.all_eq_true.1 h2 v hv
  simp only [XZ, Bool.and_eq_true] at this
  exact this.2
 cases h
def Qef (l : QD) (a b : Qw) : Bool := JZ l [a, b] == 0 && Xl l a b
theorem Qjj (l : QD) (vs : List Qw) : FC Tryz.prog 161 [.agg (Q2 l), Qad vs] (bl (Qag l vs)) := by
 refine Qg [4] Tryz.func161 rfl rfl 18 Tryz.ntmps161 (Nat.le_of_ble_eq_true rfl) ?_
 intro E hN
 refine Jj 1 rfl (fun hl1 => ?_)
 refine YR ?_
 refine Ql (fun x : {k : Nat // k ≤ (vs).length ∧ (vs.drop k).all (XZ l) = vs.all (XZ l)} => ⟨[(2, .ptr 0 0), (7, Qad vs), (8, i64 vs.length), (9, i64 (x.1 : Nat))], [(0, .var 26 (Q2 l))], 1⟩) (fun x => (vs).length - x.1) (⟨0, Nat.zero_le _, by simp⟩) ?_ ?_
 ·
  exact Qa rfl (JI ⟨(Q0 (by simp)), rfl, (Xv trivial)⟩) ⟨rfl, rfl, rfl, trivial⟩
 rintro ⟨k, hk, hg⟩
 dsimp only
 refine QF ?_
 refine zq ?_ ?_ <;> intro h9
 rotate_left
 ·
  have hge : (vs).length ≤ k := by simpa using h9
  refine Qv ?_; refine zQ ?_
  exact Qm (XU hg hge).symm
 have hlt : k < (vs).length := by simpa using h9
 obtain ⟨x, hx⟩ := Qn hlt
 refine QF ?_; refine zP (Qf rfl rfl rfl k rfl _ (QM hx) rfl) ?_; refine XN ?_; refine zP (Qc (KV _ _) rfl rfl rfl) ?_
 refine Qu ?_
 refine zq ?_ ?_ <;> intro h16
 ·
  refine Qs ?_; refine zQ ?_
  exact Qm (Q3 hg hx (by simp_all)).symm
 refine Qv ?_; refine Qb ?_
 exact ⟨⟨k + 1, hlt, Xx hg hx (by simp_all)⟩, Qa rfl (JO ⟨(Q0 (by dsimp only; omega)), rfl, trivial⟩) ⟨rfl, rfl, rfl, trivial⟩, by dsimp only; omega⟩
theorem QhD (l : QD) (vs : List Qw) : FC Tryz.prog 129 [.agg (Q2 l), Qad vs] (i64 (JZ l vs)) := by
 refine Qg [4] Tryz.func129 rfl rfl 12 Tryz.ntmps129 (Nat.le_of_ble_eq_true rfl) ?_
 intro E hN
 refine JA ?_; refine zP (Qc (Qd5 l) rfl rfl rfl) ?_; refine Qu ?_
 refine zq ?_ ?_ <;> intro h6
 ·
  refine Qs ?_; refine zQ ?_
  exact QS (by simp_all [JZ])
 refine Q8 ?_; refine zP (Qc (Qjj l vs) rfl rfl rfl) ?_; refine Qu ?_
 refine zq ?_ ?_ <;> intro h8
 ·
  refine Qs ?_; refine zQ ?_
  exact QS (by simp_all [JZ])
 refine Qv ?_; refine zQ ?_
 exact QS (by simp_all [JZ])
theorem QgP (a b : Qw) : Qo 4 2 [i64 a.N, X1 a.nm, Qad a.ps, W7 a.es, i64 b.N, X1 b.nm, Qad b.ps, W7 b.es] = [a, b].map JV := by
 show [Qz a, Qz b] = _
 simp [Kn]
theorem QqF (l : QD) (a b : Qw) : FC Tryz.prog 84 [.agg (Q2 l), .agg (Qz a), .agg (Qz b)] (bl (Qef l a b)) := by
 refine Qg [6] Tryz.func84 rfl rfl 19 Tryz.ntmps84 (Nat.le_of_ble_eq_true rfl) ?_
 intro E hN
 refine X6 ?_; refine zP (Qbf rfl rfl rfl rfl (by exact rfl) (by decide) (by decide) (QgP a b)) ?_
 refine zP (Qc (QhD l [a, b]) rfl rfl rfl) ?_; refine Qu ?_
 refine zc 13 ?_ ?_ <;> intro h12
 ·
  have hok := Qe6 (by simpa using h12)
  refine Qs ?_; refine uP (XG h12) (Qc (Qe2 l (X0 hok.1) a b (hok.2 a (by simp)) (hok.2 b (by simp))) rfl rfl rfl) ?_; refine Qu ?_
  refine zQ ?_
  exact Qm (by simp_all [Qef])
 refine Q8 ?_; refine zQ ?_
 exact Qm (by simp_all [Qef])
end Go.Proofs.YtnkkokmmeplbgaaGreat
