/-
  Contracts: names.Of at sorted names, Union, Intersect.
-/
import Derived.Test.YtnkkokmmeplbgaaGreatB8
import Derived.Test.YtnkkokmmeplbgaaGreatA4
import Derived.Test.YtnkkokmmeplbgaaGreatB1
import Derived.Test.YtnkkokmmeplbgaaGreatB4
namespace Go.Proofs.YtnkkokmmeplbgaaGreat
set_option maxRecDepth 100000
set_option maxHeartbeats 1000000
open Go.RowKit
def Qmv (q : En) (x : En) : Bool := Qev q.1 x.1 == 1
def W8 (b : List En) (x : En) : Bool := !JK b x
def Qbv (a : List En) (q : En) : Bool := !a.any (Qmv q)
def Qdw (x y : En) : Bool := decide (Jb x y ≤ 0)
def Jw (a b : List En) : List En := (a.filter (W8 b) ++ b.filter (Qbv a)).mergeSort Qdw
theorem Qk1 {l l2 : List En} (hp : l2.Perm l) (hs : l2.Pairwise (fun x y => 0 ≤ Jb y x)) : l2 = l.mergeSort Qdw := by
 have hle : ∀ x y, Qdw x y = true ↔ 0 ≤ Jb y x := fun x y => by simp [Qdw, Jg.anti x y]
 have h1 : l2.Pairwise (fun x y => Qdw x y = true) := hs.imp (fun h => (hle _ _).2 h)
 have h2 : (l.mergeSort Qdw).Pairwise (fun x y => Qdw x y = true) := List.pairwise_mergeSort (fun x y z h1 h2 => by
   simp only [Qdw, decide_eq_true_eq] at *
   exact Jg.trans _ _ _ h1 h2) (fun x y => by
   have := Jg.anti x y
   simp only [Qdw, Bool.or_eq_true, decide_eq_true_eq]
   omega) l
 refine List.Perm.eq_of_pairwise (le := fun x y => Qdw x y = true) (fun x y _ _ h3 h4 => ?_) h1 h2 (hp.trans (List.mergeSort_perm l Qdw).symm)
 simp only [Qdw, decide_eq_true_eq] at h3 h4
 have := Jg.anti y x
 exact Jg.eq _ _ (by omega)
theorem Qdt (e : En) : okE 2 (Kv e) = true := rfl
theorem QoK (e : En) : fzs (Kv e) = some (Kv e) := rfl
theorem QT {α : Type} {f : α → List AV} {L : Nat} {te : TypeId} {k : Nat} (h : ∀ x, (f x).all (okId L) = true) (l : List α) : Yj L (.arr te k (l.map f)) = true := by
 show ((l.map f).flatten).all (okId L) = true
 induction l with
 | nil => rfl
 | cons x l ih => rw [List.map_cons, List.flatten_cons, List.all_append, h, ih]; rfl
theorem Qhs (L : Nat) (e : En) : (Kv e).all (okId L) = true := rfl
theorem Qow (e : En) : Qo 2 1 (Kv e) = [Kv e] := rfl
theorem cgO {q n n' : Nat} (h : n = n') : some (AV.own q n) = some (AV.own q n') := by rw [h]
theorem cgA {te : TypeId} {k : Nat} {es es' : List (List AV)} (h : es = es') : some (Qx.arr te k es) = some (Qx.arr te k es') := by rw [h]
theorem Qcy {q : En → Bool} {l : List En} {k : Nat} {x : En} (hx : l[k]? = some x) (h : q x = true) : (l.take (k + 1)).filter q = (l.take k).filter q ++ [x] := by
 rw [List.take_add_one, hx, List.filter_append]; simp [h]
theorem Qfc {q : En → Bool} {l : List En} {k : Nat} {x : En} (hx : l[k]? = some x) (h : q x = false) : (l.take (k + 1)).filter q = (l.take k).filter q := by
 rw [List.take_add_one, hx, List.filter_append]; simp [h]
theorem Qe7 {q : En → Bool} {l : List En} {k : Nat} : ((l.take k).filter q).length ≤ l.length := Nat.le_trans (List.length_filter_le _ _) (by simp; omega)
theorem QnV (x y : En) : Jz (.mk 0 [] [] [x]) (.mk 0 [] [] [y]) = Jb x y := by
 rw [Ko]
 simp only [Qw.N, Qw.nm, Qw.ps, Qw.es, Xt, Lib.compareInt]
 by_cases h : Jb x y = 0 <;> simp [orE, h]
theorem Qlc (q x : En) : FC Tryz.prog 219 [.agg (Kv x), .el (Kv q)] (bl (Qmv q x)) := by
 refine Qg [3] Tryz.func219 rfl rfl 10 Tryz.ntmps219 (Nat.le_of_ble_eq_true rfl) ?_
 intro E hN
 refine Jv ?_; refine zP (Qc (QfS _ _) rfl rfl rfl) ?_; refine Qu ?_; refine zQ ?_
 rfl
theorem QlO (x y : En) : FC Tryz.prog 221 [.agg (Kv x), .agg (Kv y)] (i64 (Jb x y)) := by
 refine Qg [4] Tryz.func221 rfl rfl 12 Tryz.ntmps221 (Nat.le_of_ble_eq_true rfl) ?_
 intro E hN
 refine JA ?_; refine zP (QE rfl rfl rfl rfl (by exact rfl) (by decide) (by decide)) ?_; refine Qu ?_
 refine zP (QE rfl rfl rfl rfl (by exact rfl) (by decide) (by decide)) ?_; refine Jk ?_
 refine zP (Qc (QeZ (.mk 0 [] [] [x]) (.mk 0 [] [] [y])) rfl rfl rfl) ?_; refine zS ?_; refine zQ ?_
 exact QS (QnV x y)
theorem QnO (a b : List En) (hab : a.length + b.length ≤ 1000000) : FC Tryz.prog 196 [W7 a, W7 b] (W7 (Jw a b)) := by
 refine Qg [4] Tryz.func196 rfl rfl 43 Tryz.ntmps196 (Nat.le_of_ble_eq_true rfl) ?_
 intro E hN
 refine Qcb ?_; refine QI (WT rfl 5 149 2 rfl) ?_
 refine Ql (fun x : {k : Nat // k ≤ (a).length ∧ True} => ⟨[(0, W7 a), (1, W7 b), (10, W7 a), (11, i64 a.length), (12, i64 (x.1 : Nat)), (5, .own 0 ((a.take x.1).filter (W8 b)).length)], [(0, .arr 149 2 (((a.take x.1).filter (W8 b)).map Kv))], 1⟩) (fun x => (a).length - x.1) (⟨0, Nat.zero_le _, by simp⟩) ?_ ?_
 ·
  exact Qa rfl (JO ⟨(Q0 (by simp)), rfl, (JI trivial)⟩) ⟨rfl, rfl, (QT (Qhs _) _), trivial⟩
 rintro ⟨k, hk, hg⟩
 dsimp only
 refine Jj 10 rfl (fun hl8 => ?_)
 refine QF ?_
 refine zq ?_ ?_ <;> intro h10
 ·
  have hlt : k < (a).length := by simpa using h10
  obtain ⟨x, hx⟩ := Qn hlt
  refine QF ?_; refine zP (Qf rfl rfl rfl k rfl _ (Qk hx) rfl) ?_; refine XN ?_; refine zP (Qc (QgS _ _) rfl rfl rfl) ?_
  refine Qu ?_
  refine zq ?_ ?_ <;> intro h16
  ·
   have hkb : W8 b x = true := h16
   refine Qs ?_; refine zP (QE rfl rfl rfl rfl (by exact rfl) (by decide) (by decide)) ?_
   refine Xm hN rfl rfl rfl (by simp) rfl rfl rfl (by simp only [List.length_map, List.length_append, Xd, List.length_singleton]; have := Qe7 (q := W8 b) (l := a) (k := k); have := Qe7 (q := Qbv a) (l := b) (k := k);  omega) rfl rfl rfl rfl ?_
   refine QF ?_; refine Qb ?_
   exact ⟨⟨k + 1, hlt, trivial⟩, Qa rfl (JH ⟨(Q0 (by dsimp only; omega)), rfl, (cgO (by first | (rw [Qcy hx hkb]; simp [Xd, Kv] <;> omega) | rw [Qfc hx hkb])), rfl, trivial⟩) ⟨(cgA (by first | (rw [Qcy hx hkb]; simp [Xd, Kv] <;> omega) | rw [Qfc hx hkb])), rfl, (QT (Qhs _) _), trivial⟩, by dsimp only; omega⟩
  have hkb : W8 b x = false := h16
  refine Qv ?_; refine Qb ?_
  exact ⟨⟨k + 1, hlt, trivial⟩, Qa rfl (JH ⟨(Q0 (by dsimp only; omega)), rfl, (cgO (by first | (rw [Qcy hx hkb]; simp [Xd, Kv] <;> omega) | rw [Qfc hx hkb])), rfl, trivial⟩) ⟨(cgA (by first | (rw [Qcy hx hkb]; simp [Xd, Kv] <;> omega) | rw [Qfc hx hkb])), rfl, (QT (Qhs _) _), trivial⟩, by dsimp only; omega⟩
 have hge : (a).length ≤ k := by simpa using h10
 refine JA ?_
 refine Ql (fun x : {k : Nat // k ≤ (b).length ∧ True} => ⟨[(0, W7 a), (25, W7 b), (26, i64 b.length), (27, i64 (x.1 : Nat)), (5, .own 0 (a.filter (W8 b) ++ (b.take x.1).filter (Qbv a)).length)], [(0, .arr 149 2 ((a.filter (W8 b) ++ (b.take x.1).filter (Qbv a)).map Kv))], 1⟩) (fun x => (b).length - x.1) (⟨0, Nat.zero_le _, by simp⟩) ?_ ?_
 ·
  exact Qa rfl (JI ⟨(Q0 (by simp)), rfl, rfl, rfl, (cgO (by rw [List.take_of_length_le hge]; simp)), rfl, trivial⟩) ⟨(cgA (by rw [List.take_of_length_le hge]; simp)), rfl, (QT (Qhs _) _), trivial⟩
 rintro ⟨k, hk, hg⟩
 clear hge
 dsimp only
 refine Jj 25 rfl (fun hl8 => ?_)
 refine QF ?_
 refine zq ?_ ?_ <;> intro h28
 rotate_left
 ·
  have hge : (b).length ≤ k := by simpa using h28
  refine Qu ?_
  have hacc : (a.filter (W8 b) ++ (b.take k).filter (Qbv a)) = a.filter (W8 b) ++ b.filter (Qbv a) := by rw [List.take_of_length_le hge]
  refine Qu ?_
  refine Qs4 (sf := 220) hN Qlh rfl (by decide) Kv (a.filter (W8 b) ++ (b.take k).filter (Qbv a)) Jb (fun g => Jg.swo g) Qdt QoK Tryz.isAgg149 Tryz.sizeOf149 (fun x _ y _ => QlO x y) rfl rfl rfl rfl (by have := Qe7 (q := W8 b) (l := a) (k := a.length); have := Qe7 (q := Qbv a) (l := b) (k := k); rw [List.take_length] at *; simp only [List.length_append]; omega) rfl rfl rfl rfl (fun l2 hp hs2 => ?_)
  refine Qu ?_
  refine QI (Ju 5 0 rfl rfl (by simp [hp.length_eq]) (QN Qdt _) (fun e he => by obtain ⟨y, -, rfl⟩ := List.mem_map.1 he; exact QoK y) rfl) ?_
  refine Qs ?_; refine zQ ?_
  exact QdH (by rw [Qk1 hp hs2, hacc]; rfl)
 have hlt : k < (b).length := by simpa using h28
 obtain ⟨x, hx⟩ := Qn hlt
 refine QF ?_; refine zP (Qf rfl rfl rfl k rfl _ (Qk hx) rfl) ?_; refine QF ?_; refine QI (Qcq 9 1 rfl rfl rfl rfl) ?_
 refine Qu ?_; refine zP (Qpq rfl rfl) ?_; refine zP (Qc (QkC a (fun y _ => Qlc x y)) rfl rfl rfl) ?_; refine Qu ?_
 refine zq ?_ ?_ <;> intro h34
 ·
  have hka : Qbv a x = true := h34
  refine Qs ?_; refine zP (QE rfl rfl rfl rfl (by exact rfl) (by decide) (by decide)) ?_
  refine Xm hN rfl rfl rfl (by simp) rfl rfl rfl (by simp only [List.length_map, List.length_append, Xd, List.length_singleton]; have := Qe7 (q := W8 b) (l := a) (k := a.length); have := Qe7 (q := Qbv a) (l := b) (k := k); rw [List.take_length] at *; omega) rfl rfl rfl rfl ?_
  refine QF ?_; refine Qb ?_
  exact ⟨⟨k + 1, hlt, trivial⟩, Qa rfl (JO ⟨(Q0 (by dsimp only; omega)), rfl, (cgO (by first | (rw [Qcy hx hka]; simp [Xd, Kv] <;> omega) | rw [Qfc hx hka])), rfl, trivial⟩) ⟨(cgA (by first | (rw [Qcy hx hka]; simp [Xd, Kv] <;> omega) | rw [Qfc hx hka])), rfl, (QT (Qhs _) _), trivial⟩, by dsimp only; omega⟩
 have hka : Qbv a x = false := h34
 refine Qv ?_; refine Qb ?_
 exact ⟨⟨k + 1, hlt, trivial⟩, Qa rfl (JO ⟨(Q0 (by dsimp only; omega)), rfl, (cgO (by first | (rw [Qcy hx hka]; simp [Xd, Kv] <;> omega) | rw [Qfc hx hka])), rfl, trivial⟩) ⟨(cgA (by first | (rw [Qcy hx hka]; simp [Xd, Kv] <;> omega) | rw [Qfc hx hka])), rfl, (QT (Qhs _) _), trivial⟩, by dsimp only; omega⟩
def Qao (b : Bool) (x : Nm) (l : List Nm) : List Nm := if b then x :: l else l
def Qb6 (lf bo ri : Bool) : Nat → List Nm → List Nm → List Nm
 | 0, _, _ => []
 | _ + 1, [], [] => []
 | f + 1, x :: r, [] => Qao lf x (Qb6 lf bo ri f r [])
 | f + 1, [], y :: s => Qao ri y (Qb6 lf bo ri f [] s)
 | f + 1, x :: r, y :: s => if Op.bytesLess x y then Qao lf x (Qb6 lf bo ri f r (y :: s)) else if Op.bytesLess y x then Qao ri y (Qb6 lf bo ri f (x :: r) s) else Qao bo x (Qb6 lf bo ri f r s)
section
variable (lf bo ri : Bool)
theorem YC : ∀ (f g : Nat) (a b : List Nm), a.length + b.length ≤ f → a.length + b.length ≤ g → Qb6 lf bo ri f a b = Qb6 lf bo ri g a b
 | 0, 0, _, _, _, _ => rfl
 | 0, g + 1, a, b, h1, _ => by
  have ha : a = [] := List.eq_nil_of_length_eq_zero (by omega)
  have hb : b = [] := List.eq_nil_of_length_eq_zero (by omega)
  subst ha hb; rfl
 | f + 1, 0, a, b, _, h2 => by
  have ha : a = [] := List.eq_nil_of_length_eq_zero (by omega)
  have hb : b = [] := List.eq_nil_of_length_eq_zero (by omega)
  subst ha hb; rfl
 | f + 1, g + 1, [], [], _, _ => rfl
 | f + 1, g + 1, x :: r, [], h1, h2 => by simp only [List.length_cons, List.length_nil] at h1 h2; simp only [Qb6]; rw [YC f g r [] (by simp; omega) (by simp; omega)]
 | f + 1, g + 1, [], y :: s, h1, h2 => by simp only [List.length_cons, List.length_nil] at h1 h2; simp only [Qb6]; rw [YC f g [] s (by simp; omega) (by simp; omega)]
 | f + 1, g + 1, x :: r, y :: s, h1, h2 => by
  simp only [List.length_cons] at h1 h2
  simp only [Qb6]
  rw [YC f g r (y :: s) (by simp; omega) (by simp; omega), YC f g (x :: r) s (by simp; omega) (by simp; omega), YC f g r s (by omega) (by omega)]
def Wl (a b : List Nm) : List Nm := Qb6 lf bo ri (a.length + b.length) a b
end
section
variable {lf bo ri : Bool} {x y : Nm} {r s : List Nm}
theorem QsJ : Wl lf bo ri (x :: r) [] = Qao lf x (Wl lf bo ri r []) := by
 show Qb6 lf bo ri (r.length + 1 + 0) (x :: r) [] = _
 rfl
theorem QsF : Wl lf bo ri [] (y :: s) = Qao ri y (Wl lf bo ri [] s) := by
 unfold Wl
 rw [YC lf bo ri _ (s.length + 1) [] (y :: s) (by simp) (by simp), YC lf bo ri _ s.length [] s (by simp) (by simp)]
 rfl
theorem Qos (h : Op.bytesLess x y = true) : Wl lf bo ri (x :: r) (y :: s) = Qao lf x (Wl lf bo ri r (y :: s)) := by
 unfold Wl
 rw [YC lf bo ri _ (r.length + (s.length + 1) + 1) (x :: r) (y :: s) (Nat.le_refl _) (by simp only [List.length_cons]; omega), Qb6, if_pos h]
 rfl
theorem Qob (h : Op.bytesLess x y = false) (h2 : Op.bytesLess y x = true) : Wl lf bo ri (x :: r) (y :: s) = Qao ri y (Wl lf bo ri (x :: r) s) := by
 unfold Wl
 rw [YC lf bo ri _ (r.length + 1 + s.length + 1) (x :: r) (y :: s) (Nat.le_refl _) (by simp only [List.length_cons]; omega), Qb6, if_neg (by simp [h]), if_pos h2]
 rfl
theorem QpZ (h : Op.bytesLess x y = false) (h2 : Op.bytesLess y x = false) : Wl lf bo ri (x :: r) (y :: s) = Qao bo x (Wl lf bo ri r s) := by
 unfold Wl
 rw [YC lf bo ri _ (r.length + s.length + 1 + 1) (x :: r) (y :: s) (Nat.le_refl _) (by simp only [List.length_cons]; omega), Qb6, if_neg (by simp [h]), if_neg (by simp [h2]), YC lf bo ri _ (r.length + s.length) r s (by omega) (by omega)]
theorem Qgx {b : Bool} {x : Nm} {l acc u : List Nm} (h : b = true) (hg : acc ++ Qao b x l = u) : (acc ++ [x]) ++ l = u := by
 rw [← hg, Qao, if_pos h]; simp
theorem Qkt {b : Bool} {x : Nm} {l acc u : List Nm} (h : b = false) (hg : acc ++ Qao b x l = u) : acc ++ l = u := by
 rw [← hg, Qao, if_neg (by simp [h])]
theorem JN (s : Nm) : okE 1 (K2 s) = true := rfl
theorem QA (x : AV) : Qo 1 1 [x] = [[x]] := rfl
end
theorem Qrs (hof : ∀ l : List Nm, Qq l = true → l.length ≤ 1000000 → FC Tryz.prog 229 [X1 l] (X1 l)) (a b : List Nm) (ha : Qq a = true) (hb0 : Qq b = true) (hab : a.length + b.length ≤ 1000000) (lf bo ri : Bool) : FC Tryz.prog 214 [X1 a, X1 b, bl lf, bl bo, bl ri] (X1 (Wl lf bo ri a b)) := by
 refine Qg [10] Tryz.func214 rfl rfl 87 Tryz.ntmps214 (Nat.le_of_ble_eq_true rfl) ?_
 intro E hN
 refine Q4 ?_; refine zP (Qc (hof a ha (by omega)) rfl rfl rfl) ?_; refine zM ?_; refine zP (Qc (hof b hb0 (by omega)) rfl rfl rfl) ?_
 refine JA ?_; refine QI (Qce rfl 13 9 1 rfl) ?_
 refine Ql (fun x : {q : List Nm × List Nm × List Nm // q.2.2 ++ Wl lf bo ri q.1 q.2.1 = Wl lf bo ri a b ∧ q.2.2.length + q.1.length + q.2.1.length ≤ a.length + b.length} => ⟨[(2, bl lf), (3, bl bo), (4, bl ri), (11, X1 x.1.1), (12, X1 x.1.2.1), (13, .sl (x.1.2.2.map K2) (some 0))], [(0, .tok 9 1 x.1.2.2.length)], 1⟩) (fun x => x.1.1.length + x.1.2.1.length) (⟨(a, b, []), rfl, by simp⟩) ?_ ?_
 ·
  exact Qa rfl (JH (JI trivial)) ⟨rfl, rfl, rfl, trivial⟩
 rintro ⟨⟨u, v, acc⟩, hg, hlen⟩
 dsimp only at hg hlen ⊢
 rcases u with _ | ⟨x, r⟩ <;> rcases v with _ | ⟨y, s⟩
 ·
  skip
  refine QF ?_
  refine zP (QC (b := false) rfl rfl rfl (by simp <;> omega)) ?_
  refine Qs ?_
  refine zP (QC (b := false) rfl rfl rfl (by simp <;> omega)) ?_
  refine XN ?_; refine zQ ?_
  exact QdH (by rw [← hg]; simp [Wl, Qb6])
 ·
  skip
  refine QF ?_
  refine zP (QC (b := false) rfl rfl rfl (by simp <;> omega)) ?_
  refine Qs ?_
  refine zP (QC (b := true) rfl rfl rfl (by simp <;> omega)) ?_
  refine Q4 ?_; refine Qd 17 (by kernel_rfl) (by kernel_rfl) ?_; refine Qu ?_
  refine zp (QC (b := false) rfl rfl rfl (by simp <;> omega)) ?_
  refine Qs ?_
  refine zp (QC (b := false) rfl rfl rfl (by simp <;> omega)) ?_
  refine XB ?_; change Qj _ _ _ _ _ _; refine Qv ?_; refine Qd 12 (by kernel_rfl) (by kernel_rfl) ?_; refine Qu ?_
  refine zp (QC (b := true) rfl rfl rfl (by simp <;> omega)) ?_
  refine JA ?_; change Qj _ _ _ _ _ _; refine XN ?_
  refine zq ?_ ?_ <;> intro h10
  ·
   have hb := h10
   refine Qs ?_; refine zP (Qf rfl rfl rfl 0 rfl _ rfl rfl) ?_; refine zL ?_
   refine zP (QE rfl rfl rfl rfl (by exact rfl) (by decide) (by decide)) ?_
   refine QG hN rfl rfl rfl (by simp) rfl rfl (QN JN _) rfl (by simp [QA] at hlen ⊢ <;> omega) rfl rfl rfl rfl ?_
   refine Qv ?_; refine zP (Y1 rfl rfl rfl 1 rfl (by simp) (by exact fun _ => rfl)) ?_; refine zS ?_; refine Qb ?_
   exact ⟨⟨([], s, acc ++ [y]), Qgx hb (by rw [← hg, QsF]), by simp at hlen ⊢ <;> omega⟩, Qa rfl (JH (Xv ⟨(cgL (by simp [K2, QA])), rfl, trivial⟩)) ⟨(cgT (by simp [QA])), rfl, rfl, trivial⟩, by simp <;> omega⟩
  have hb := h10
  refine Qs ?_; refine zP (Y1 rfl rfl rfl 1 rfl (by simp) (by exact fun _ => rfl)) ?_; refine zS ?_; refine Qb ?_
  exact ⟨⟨([], s, acc), Qkt hb (by rw [← hg, QsF]), by simp at hlen ⊢ <;> omega⟩, Qa rfl (JH (Xv ⟨(cgL (by simp [K2, QA])), rfl, trivial⟩)) ⟨(cgT (by simp [QA])), rfl, rfl, trivial⟩, by simp <;> omega⟩
 ·
  skip
  refine QF ?_
  refine zP (QC (b := true) rfl rfl rfl (by simp <;> omega)) ?_
  refine Jv ?_; refine Qd 17 (by kernel_rfl) (by kernel_rfl) ?_; refine Qu ?_
  refine zp (QC (b := true) rfl rfl rfl (by simp <;> omega)) ?_
  refine Ki ?_; change Qj _ _ _ _ _ _; refine XN ?_
  refine zq ?_ ?_ <;> intro h8
  ·
   have hb := h8
   refine Qs ?_; refine zP (Qf rfl rfl rfl 0 rfl _ rfl rfl) ?_; refine zL ?_
   refine zP (QE rfl rfl rfl rfl (by exact rfl) (by decide) (by decide)) ?_
   refine QG hN rfl rfl rfl (by simp) rfl rfl (QN JN _) rfl (by simp [QA] at hlen ⊢ <;> omega) rfl rfl rfl rfl ?_
   refine Qv ?_; refine zP (Y1 rfl rfl rfl 1 rfl (by simp) (by exact fun _ => rfl)) ?_; refine zS ?_; refine Qb ?_
   exact ⟨⟨(r, [], acc ++ [x]), Qgx hb (by rw [← hg, QsJ]), by simp at hlen ⊢ <;> omega⟩, Qa rfl (JH (Xv ⟨(cgL (by simp [K2, QA])), rfl, trivial⟩)) ⟨(cgT (by simp [QA])), rfl, rfl, trivial⟩, by simp <;> omega⟩
  have hb := h8
  refine Qs ?_; refine zP (Y1 rfl rfl rfl 1 rfl (by simp) (by exact fun _ => rfl)) ?_; refine zS ?_; refine Qb ?_
  exact ⟨⟨(r, [], acc), Qkt hb (by rw [← hg, QsJ]), by simp at hlen ⊢ <;> omega⟩, Qa rfl (JH (Xv ⟨(cgL (by simp [K2, QA])), rfl, trivial⟩)) ⟨(cgT (by simp [QA])), rfl, rfl, trivial⟩, by simp <;> omega⟩
 skip
 refine QF ?_
 refine zP (QC (b := true) rfl rfl rfl (by simp <;> omega)) ?_
 refine Jv ?_; refine Qd 17 (by kernel_rfl) (by kernel_rfl) ?_; refine Qu ?_
 refine zp (QC (b := false) rfl rfl rfl (by simp <;> omega)) ?_
 refine Qs ?_
 refine zp (QC (b := true) rfl rfl rfl (by simp <;> omega)) ?_
 refine Qu ?_; refine zp (Qf rfl rfl rfl 0 rfl _ rfl rfl) ?_; refine Qu ?_; refine zp (Qf rfl rfl rfl 0 rfl _ rfl rfl) ?_; refine Qv ?_
 change Qj _ _ _ _ _ _; refine zT ?_
 refine zq ?_ ?_ <;> intro h42
 ·
  have hLt := h42
  refine QF ?_
  refine zq ?_ ?_ <;> intro h8
  ·
   have hb := h8
   refine Qs ?_; refine zP (Qf rfl rfl rfl 0 rfl _ rfl rfl) ?_; refine zL ?_
   refine zP (QE rfl rfl rfl rfl (by exact rfl) (by decide) (by decide)) ?_
   refine QG hN rfl rfl rfl (by simp) rfl rfl (QN JN _) rfl (by simp [QA] at hlen ⊢ <;> omega) rfl rfl rfl rfl ?_
   refine Qv ?_; refine zP (Y1 rfl rfl rfl 1 rfl (by simp) (by exact fun _ => rfl)) ?_; refine zS ?_; refine Qb ?_
   exact ⟨⟨(r, y :: s, acc ++ [x]), Qgx hb (by rw [← hg, Qos hLt]), by simp at hlen ⊢ <;> omega⟩, Qa rfl (JH (Xv ⟨(cgL (by simp [K2, QA])), rfl, trivial⟩)) ⟨(cgT (by simp [QA])), rfl, rfl, trivial⟩, by simp <;> omega⟩
  have hb := h8
  refine Qs ?_; refine zP (Y1 rfl rfl rfl 1 rfl (by simp) (by exact fun _ => rfl)) ?_; refine zS ?_; refine Qb ?_
  exact ⟨⟨(r, y :: s, acc), Qkt hb (by rw [← hg, Qos hLt]), by simp at hlen ⊢ <;> omega⟩, Qa rfl (JH (Xv ⟨(cgL (by simp [K2, QA])), rfl, trivial⟩)) ⟨(cgT (by simp [QA])), rfl, rfl, trivial⟩, by simp <;> omega⟩
 have hLt := h42
 refine Jk ?_; refine Qd 12 (by kernel_rfl) (by kernel_rfl) ?_; refine Qu ?_
 refine zp (QC (b := false) rfl rfl rfl (by simp <;> omega)) ?_
 refine Qu ?_; refine zp (Qf rfl rfl rfl 0 rfl _ rfl rfl) ?_; refine Qu ?_; refine zp (Qf rfl rfl rfl 0 rfl _ rfl rfl) ?_; refine Qs ?_
 change Qj _ _ _ _ _ _; refine zT ?_
 refine zq ?_ ?_ <;> intro h54
 ·
  have hGt := h54
  refine QF ?_
  refine zq ?_ ?_ <;> intro h10
  ·
   have hb := h10
   refine Qs ?_; refine zP (Qf rfl rfl rfl 0 rfl _ rfl rfl) ?_; refine zL ?_
   refine zP (QE rfl rfl rfl rfl (by exact rfl) (by decide) (by decide)) ?_
   refine QG hN rfl rfl rfl (by simp) rfl rfl (QN JN _) rfl (by simp [QA] at hlen ⊢ <;> omega) rfl rfl rfl rfl ?_
   refine Qv ?_; refine zP (Y1 rfl rfl rfl 1 rfl (by simp) (by exact fun _ => rfl)) ?_; refine zS ?_; refine Qb ?_
   exact ⟨⟨(x :: r, s, acc ++ [y]), Qgx hb (by rw [← hg, Qob hLt hGt]), by simp at hlen ⊢ <;> omega⟩, Qa rfl (JH (Xv ⟨(cgL (by simp [K2, QA])), rfl, trivial⟩)) ⟨(cgT (by simp [QA])), rfl, rfl, trivial⟩, by simp <;> omega⟩
  have hb := h10
  refine Qs ?_; refine zP (Y1 rfl rfl rfl 1 rfl (by simp) (by exact fun _ => rfl)) ?_; refine zS ?_; refine Qb ?_
  exact ⟨⟨(x :: r, s, acc), Qkt hb (by rw [← hg, Qob hLt hGt]), by simp at hlen ⊢ <;> omega⟩, Qa rfl (JH (Xv ⟨(cgL (by simp [K2, QA])), rfl, trivial⟩)) ⟨(cgT (by simp [QA])), rfl, rfl, trivial⟩, by simp <;> omega⟩
 have hGt := h54
 refine QF ?_
 refine zq ?_ ?_ <;> intro h9
 ·
  have hb := h9
  refine Qs ?_; refine zP (Qf rfl rfl rfl 0 rfl _ rfl rfl) ?_; refine zL ?_
  refine zP (QE rfl rfl rfl rfl (by exact rfl) (by decide) (by decide)) ?_
  refine QG hN rfl rfl rfl (by simp) rfl rfl (QN JN _) rfl (by simp [QA] at hlen ⊢ <;> omega) rfl rfl rfl rfl ?_
  refine zT ?_; refine Qd 5 (by kernel_rfl) (by kernel_rfl) ?_; refine zm ?_
  refine zp (Y1 rfl rfl rfl 1 rfl (by simp) (by exact fun _ => rfl)) ?_; refine zm ?_
  refine zp (Y1 rfl rfl rfl 1 rfl (by simp) (by exact fun _ => rfl)) ?_; refine zp (Xb rfl rfl) ?_; change Qj _ _ _ _ _ _; refine zS ?_
  refine Qb ?_
  exact ⟨⟨(r, s, acc ++ [x]), Qgx hb (by rw [← hg, QpZ hLt hGt]), by simp at hlen ⊢ <;> omega⟩, Qa rfl (JH (Xv ⟨(cgL (by simp [K2, QA])), rfl, trivial⟩)) ⟨(cgT (by simp [QA])), rfl, rfl, trivial⟩, by simp <;> omega⟩
 have hb := h9
 refine zW ?_; refine Qd 5 (by kernel_rfl) (by kernel_rfl) ?_; refine zm ?_
 refine zp (Y1 rfl rfl rfl 1 rfl (by simp) (by exact fun _ => rfl)) ?_; refine zm ?_
 refine zp (Y1 rfl rfl rfl 1 rfl (by simp) (by exact fun _ => rfl)) ?_; refine zp (Xb rfl rfl) ?_; change Qj _ _ _ _ _ _; refine zS ?_
 refine Qb ?_
 exact ⟨⟨(r, s, acc), Qkt hb (by rw [← hg, QpZ hLt hGt]), by simp at hlen ⊢ <;> omega⟩, Qa rfl (JH (Xv ⟨(cgL (by simp [K2, QA])), rfl, trivial⟩)) ⟨(cgT (by simp [QA])), rfl, rfl, trivial⟩, by simp <;> omega⟩
theorem Y5 (l : List Nm) : ∀ e ∈ l.map K2, fzs e = some e := fun e he => by
 obtain ⟨x, -, rfl⟩ := List.mem_map.1 he
 rfl
theorem Qky (l : List Nm) (hl : l.length ≤ 1000000) : FO Tryz.prog 197 [X1 l] 9 1 (l.map K2) := by
 refine QhZ 2 Tryz.func197 rfl rfl 8 Tryz.ntmps197 (Nat.le_of_ble_eq_true rfl) ?_
 intro E hN
 refine XN ?_
 refine Qpm hN rfl rfl rfl rfl rfl rfl rfl (fun b hbb => ?_)
 refine zN ?_
 refine zq ?_ ?_ <;> intro h2
 ·
  have hnil : l = [] := by
   rcases l with _ | ⟨x, r⟩
   ·rfl
   have := hbb (by simp); rw [this] at h2; cases h2
  subst hnil
  refine Qv ?_; refine QI (WT rfl 2 9 1 rfl) ?_; refine Qh ?_
  exact ⟨0, 0, rfl, rfl, rfl, Y5 []⟩
 refine Qs ?_; refine Yw hN rfl rfl rfl rfl rfl rfl ?_; refine zM ?_
 refine Xm hN rfl rfl rfl rfl rfl rfl (QN JN _) (by simp; omega) rfl rfl rfl rfl ?_
 refine zT ?_; refine Qh ?_
 exact ⟨0, _, rfl, by simp, rfl, Y5 l⟩
theorem QbV : ∀ a : Nm, Op.bytesLess a a = false
 | [] => rfl
 | x :: a => by
  unfold Op.bytesLess
  simp [QbV a, UInt8.lt_irrefl]
theorem QtS {a b : Nm} (h : Op.bytesLess a b = true) : (b == a) = false := by
 cases hb : (b == a) with
 | false => rfl
 | true =>
  have : b = a := by simpa using hb
  subst this
  rw [QbV] at h; cases h
theorem QlR (l : List Nm) (hs0 : Qq l = true) : FC Tryz.prog 240 [X1 l] (X1 l) := by
 refine Qg [2] Tryz.func240 rfl rfl 61 Tryz.ntmps240 (Nat.le_of_ble_eq_true rfl) ?_
 intro E hN
 refine Jj 0 rfl (fun hl0 => ?_)
 refine Jv ?_
 refine zq ?_ ?_ <;> intro h3
 ·
  refine Qv ?_; refine zQ ?_
  rfl
 refine Q4 ?_
 refine Ql (fun x : {k : Nat // 1 ≤ k ∧ Qq (l.drop (k - 1)) = Qq l ∧ k ≤ l.length + 1} => ⟨[(0, X1 l), (3, i64 (x.1 : Nat))], [], 0⟩) (fun x => l.length + 1 - x.1) (⟨1, Nat.le_refl _, rfl, by omega⟩) ?_ ?_
 ·
  exact Qa rfl (JI trivial) trivial
 rintro ⟨k, hk, hg, hk2⟩
 dsimp only
 refine XN ?_
 refine zq ?_ ?_ <;> intro h7
 rotate_left
 ·
  refine QF ?_; refine zQ ?_
  rfl
 have hlt : k < l.length := by simpa using h7
 obtain ⟨x, hx⟩ := Qn hlt
 obtain ⟨y, hy⟩ := Qn (show k - 1 < l.length by omega)
 have hs := Qc8 hk hg hy hx
 rw [hs0] at hs
 have hs1 : (Op.bytesLess y x && Qq (l.drop k)) = true := hs.symm
 rw [Bool.and_eq_true] at hs1
 have hn : Qq (l.drop (k + 1 - 1)) = Qq l := by rw [Nat.add_sub_cancel, hs0]; exact hs1.2
 refine Qv ?_; refine Qd 9 (by kernel_rfl) (by kernel_rfl) ?_; refine Qu ?_; refine zp (Qf rfl rfl rfl k rfl _ (Qk hx) rfl) ?_
 refine Qs ?_; refine zp (KM rfl rfl rfl (by omega)) ?_; refine zp (Qf rfl rfl rfl (k - 1) (by omega) _ (Qk hy) rfl) ?_; refine zl ?_
 change Qj _ _ _ _ _ _; refine zP (QC (b := false) rfl rfl rfl (congrArg Value.bool (QtS hs1.1))) ?_; refine Q4 ?_; refine Qb ?_
 exact ⟨⟨k + 1, by omega, hn, by omega⟩, Qa rfl (Xv ⟨(Q0 (by dsimp only; omega)), rfl, trivial⟩) trivial, by dsimp only; omega⟩
end Go.Proofs.YtnkkokmmeplbgaaGreat
namespace Go.Proofs.YtnkkokmmeplbgaaGreat
set_option maxRecDepth 100000
set_option maxHeartbeats 1000000
open Go.RowKit
theorem Qap : ∀ {a b d : Nm}, Op.bytesLess a b = true → Op.bytesLess b d = true → Op.bytesLess a d = true
 | _, [], _, h, _ => by rename_i a _; cases a <;> simp [Op.bytesLess] at h
 | [], _ :: _, [], _, h => by simp [Op.bytesLess] at h
 | [], _ :: _, _ :: _, _, _ => rfl
 | _ :: _, _ :: _, [], _, h => by simp [Op.bytesLess] at h
 | x :: a, y :: b, z :: d, h1, h2 => by
  unfold Op.bytesLess at h1 h2 ⊢
  simp only [Bool.or_eq_true, Bool.and_eq_true, decide_eq_true_eq, beq_iff_eq] at h1 h2 ⊢
  rcases h1 with h1 | ⟨rfl, h1⟩ <;> rcases h2 with h2 | ⟨rfl, h2⟩
  ·exact .inl (UInt8.lt_trans h1 h2)
  ·exact .inl h1
  ·exact .inl h2
  exact .inr ⟨rfl, Qap h1 h2⟩
theorem QrJ : ∀ {a b : Nm}, Op.bytesLess a b = true → a ≤ b
 | [], _, _ => List.nil_le _
 | _ :: _, [], h => by simp [Op.bytesLess] at h
 | x :: a, y :: b, h => by
  rw [List.cons_le_cons_iff]
  unfold Op.bytesLess at h
  simp only [Bool.or_eq_true, Bool.and_eq_true, decide_eq_true_eq, beq_iff_eq] at h
  rcases h with h | ⟨h1, h2⟩
  ·exact .inl h
  exact .inr ⟨h1, QrJ h2⟩
theorem XP : ∀ {l : List Nm}, Qq l = true → l.Pairwise (fun a b => Op.bytesLess a b = true)
 | [], _ => List.Pairwise.nil
 | [_], _ => List.pairwise_singleton _ _
 | a :: b :: l, h => by
  have h : (Op.bytesLess a b && Qq (b :: l)) = true := h
  rw [Bool.and_eq_true] at h
  have ih := XP h.2
  refine List.Pairwise.cons (fun d hd => ?_) ih
  rcases List.mem_cons.1 hd with rfl | hd
  ·exact h.1
  exact Qap h.1 ((List.pairwise_cons.1 ih).1 d hd)
theorem Qm0 {l : List Nm} (h : Qq l = true) : (l.mergeSort fun x y => decide (x ≤ y)) = l :=
 List.mergeSort_of_pairwise ((XP h).imp (fun h => by simpa using QrJ h))
theorem Qt0 (l : List Nm) (hs0 : Qq l = true) (hl : l.length ≤ 1000000) : FC Tryz.prog 229 [X1 l] (X1 l) := by
 refine Qg [2] Tryz.func229 rfl rfl 10 Tryz.ntmps229 (Nat.le_of_ble_eq_true rfl) ?_
 intro E hN
 refine Q4 ?_; refine Qry hN rfl (Qky l hl) (.fn _ _ _ _ rfl rfl) rfl rfl rfl rfl rfl ?_; refine QF ?_
 refine Qql hN Qoo Qnu l rfl rfl (by simp) rfl (by omega) rfl rfl rfl rfl ?_
 rw [Qm0 hs0]
 refine Qu ?_; refine QI (Ju 3 0 rfl rfl (by simp) (QN JN _) (Y5 l) rfl) ?_; refine Qu ?_
 refine zP (Qc (QlR l hs0) rfl rfl rfl) ?_; refine zS ?_; refine zQ ?_
 rfl
theorem QpH (a b : List Nm) (ha : Qq a = true) (hb : Qq b = true) (hab : a.length + b.length ≤ 1000000) (lf bo ri : Bool) : FC Tryz.prog 214 [X1 a, X1 b, bl lf, bl bo, bl ri] (X1 (Wl lf bo ri a b)) := Qrs (fun l h1 h2 => Qt0 l h1 h2) a b ha hb hab lf bo ri
theorem Qgq (a b : List Nm) (ha : Qq a = true) (hb : Qq b = true) (hab : a.length + b.length ≤ 1000000) : FC Tryz.prog 194 [X1 a, X1 b] (X1 (Wl true true true a b)) := by
 refine Qg [4] Tryz.func194 rfl rfl 8 Tryz.ntmps194 (Nat.le_of_ble_eq_true rfl) ?_
 intro E hN
 refine XN ?_; refine zP (Qc (QpH a b ha hb hab true true true) rfl rfl rfl) ?_; refine zS ?_; refine zQ ?_
 rfl
theorem Qlp (l : List Nm) (hl : l.length ≤ 1000000) : FC Tryz.prog 197 [X1 l] (X1 l) := QjA (Qky l hl) (QN JN _)
theorem Qmm (l : List Tk) : ∀ e ∈ l.map tkC, fzs e = some e := fun e he => by
 obtain ⟨x, -, rfl⟩ := List.mem_map.1 he
 rfl
theorem Ql0 (l : List Tk) (hl : l.length ≤ 1000000) : FO Tryz.prog 198 [tks l] 192 2 (l.map tkC) := by
 refine QhZ 2 Tryz.func198 rfl rfl 8 Tryz.ntmps198 (Nat.le_of_ble_eq_true rfl) ?_
 intro E hN
 refine XN ?_
 refine Qpm hN rfl rfl rfl rfl rfl rfl rfl (fun b hbb => ?_)
 refine zN ?_
 refine zq ?_ ?_ <;> intro h2
 ·
  have hnil : l = [] := by
   rcases l with _ | ⟨x, r⟩
   ·rfl
   have := hbb (by simp); rw [this] at h2; cases h2
  subst hnil
  refine Qv ?_; refine QI (WT rfl 2 192 2 rfl) ?_; refine Qh ?_
  exact ⟨0, 0, rfl, rfl, rfl, Qmm []⟩
 refine Qs ?_; refine Yw hN rfl rfl rfl rfl rfl rfl ?_; refine zM ?_
 refine Xm hN rfl rfl rfl rfl rfl rfl (QN Qdq _) (by simp; omega) rfl rfl rfl rfl ?_
 refine zT ?_; refine Qh ?_
 exact ⟨0, _, rfl, by simp, rfl, Qmm l⟩
theorem QkV (l : List Tk) (hl : l.length ≤ 1000000) : FC Tryz.prog 198 [tks l] (tks l) := QjA (Ql0 l hl) (QN Qdq _)
end Go.Proofs.YtnkkokmmeplbgaaGreat
