/-
  Contracts: names.Of at sorted names, Union, Intersect.
-/
import Derived.Test.YtnkkokmmeplbgaaGreatB8
import Derived.Test.YtnkkokmmeplbgaaGreatA4
import Derived.Test.YtnkkokmmeplbgaaGreatB1
import Derived.Test.YtnkkokmmeplbgaaGreatB4
namespace Go.Proofs.YtnkkokmmeplbgaaGreat
set_option maxRecDepth 100000
set_option maxHeartbeats 1000000
open Go.RowKit
def Qix (q : En) (x : En) : Bool := Qbh q.1 x.1 == 1
def Kj (b : List En) (x : En) : Bool := !JR b x
def Wg (a : List En) (q : En) : Bool := !a.any (Qix q)
def QaP (x y : En) : Bool := decide (XK x y ≤ 0)
def XR (a b : List En) : List En := (a.filter (Kj b) ++ b.filter (Wg a)).mergeSort QaP
theorem Qg7 {l l2 : List En} (hp : l2.Perm l) (hs : l2.Pairwise (fun x y => 0 ≤ XK y x)) : l2 = l.mergeSort QaP := by
 have hle : ∀ x y, QaP x y = true ↔ 0 ≤ XK y x := fun x y => by simp [QaP, Jl.anti x y]
 have h1 : l2.Pairwise (fun x y => QaP x y = true) := hs.imp (fun h => (hle _ _).2 h)
 have h2 : (l.mergeSort QaP).Pairwise (fun x y => QaP x y = true) := List.pairwise_mergeSort (fun x y z h1 h2 => by
   simp only [QaP, decide_eq_true_eq] at *
   exact Jl.trans _ _ _ h1 h2) (fun x y => by
   have := Jl.anti x y
   simp only [QaP, Bool.or_eq_true, decide_eq_true_eq]
   omega) l
 refine List.Perm.eq_of_pairwise (le := fun x y => QaP x y = true) (fun x y _ _ h3 h4 => ?_) h1 h2 (hp.trans (List.mergeSort_perm l QaP).symm)
 simp only [QaP, decide_eq_true_eq] at h3 h4
 have := Jl.anti y x
 exact Jl.eq _ _ (by omega)
theorem QhM (e : En) : WP 2 (K6 e) = true := rfl
theorem QjI (e : En) : fzs (K6 e) = some (K6 e) := rfl
theorem X0 {α : Type} {f : α → List AV} {L : Nat} {te : TypeId} {k : Nat} (h : ∀ x, (f x).all (okId L) = true) (l : List α) : X5 L (.arr te k (l.map f)) = true := by
 show ((l.map f).flatten).all (okId L) = true
 induction l with
 | nil => rfl
 | cons x l ih => rw [List.map_cons, List.flatten_cons, List.all_append, h, ih]; rfl
theorem Qec (L : Nat) (e : En) : (K6 e).all (okId L) = true := rfl
theorem Qj6 (e : En) : X2 2 1 (K6 e) = [K6 e] := rfl
theorem cgO {q n n' : Nat} (h : n = n') : some (AV.own q n) = some (AV.own q n') := by rw [h]
theorem cgA {te : TypeId} {k : Nat} {es es' : List (List AV)} (h : es = es') : some (Qi.arr te k es) = some (Qi.arr te k es') := by rw [h]
theorem W3 {q : En → Bool} {l : List En} {k : Nat} {x : En} (hx : l[k]? = some x) (h : q x = true) : (l.take (k + 1)).filter q = (l.take k).filter q ++ [x] := by
 rw [List.take_add_one, hx, List.filter_append]; simp [h]
theorem Qb8 {q : En → Bool} {l : List En} {k : Nat} {x : En} (hx : l[k]? = some x) (h : q x = false) : (l.take (k + 1)).filter q = (l.take k).filter q := by
 rw [List.take_add_one, hx, List.filter_append]; simp [h]
theorem QbC {q : En → Bool} {l : List En} {k : Nat} : ((l.take k).filter q).length ≤ l.length := Nat.le_trans (List.length_filter_le _ _) (by simp; omega)
theorem Qjg (x y : En) : Xw (.mk 0 [] [] [x]) (.mk 0 [] [] [y]) = XK x y := by
 rw [J0]
 simp only [Qt.N, Qt.nm, Qt.ps, Qt.es, QV, Lib.compareInt]
 by_cases h : XK x y = 0 <;> simp [KH, h]
theorem QhL (q x : En) : FC Tryz.prog 219 [.agg (K6 x), .el (K6 q)] (bl (Qix q x)) := by
 refine Qe [3] Tryz.func219 rfl rfl 10 Tryz.ntmps219 (Nat.le_of_ble_eq_true rfl) ?_
 intro E hN
 refine Jc ?_; refine zP (Qb (QcA _ _) rfl rfl rfl) ?_; refine QC ?_; refine zQ ?_
 rfl
theorem Qhw (x y : En) : FC Tryz.prog 221 [.agg (K6 x), .agg (K6 y)] (i64 (XK x y)) := by
 refine Qe [4] Tryz.func221 rfl rfl 12 Tryz.ntmps221 (Nat.le_of_ble_eq_true rfl) ?_
 intro E hN
 refine Jy ?_; refine zP (QJ rfl rfl rfl rfl (by exact rfl) (by decide) (by decide)) ?_; refine QC ?_
 refine zP (QJ rfl rfl rfl rfl (by exact rfl) (by decide) (by decide)) ?_; refine Yb ?_
 refine zP (Qb (QbS (.mk 0 [] [] [x]) (.mk 0 [] [] [y])) rfl rfl rfl) ?_; refine zS ?_; refine zQ ?_
 exact QB (Qjg x y)
theorem QiS (a b : List En) (hab : a.length + b.length ≤ 1000000) : FC Tryz.prog 196 [KU a, KU b] (KU (XR a b)) := by
 refine Qe [4] Tryz.func196 rfl rfl 43 Tryz.ntmps196 (Nat.le_of_ble_eq_true rfl) ?_
 intro E hN
 refine QdO ?_; refine QF (W6 rfl 5 149 2 rfl) ?_
 refine Qo (fun x : {k : Nat // k ≤ (a).length ∧ True} => ⟨[(0, KU a), (1, KU b), (10, KU a), (11, i64 a.length), (12, i64 (x.1 : Nat)), (5, .own 0 ((a.take x.1).filter (Kj b)).length)], [(0, .arr 149 2 (((a.take x.1).filter (Kj b)).map K6))], 1⟩) (fun x => (a).length - x.1) (⟨0, Nat.zero_le _, by simp⟩) ?_ ?_
 ·
  exact Qa rfl (Ya ⟨(Xe (by simp)), rfl, (Yv trivial)⟩) ⟨rfl, rfl, (X0 (Qec _) _), trivial⟩
 rintro ⟨k, hk, hg⟩
 dsimp only
 refine X7 10 rfl (fun hl8 => ?_)
 refine QA ?_
 refine zq ?_ ?_ <;> intro h10
 ·
  have hlt : k < (a).length := by simpa using h10
  obtain ⟨x, hx⟩ := Qr hlt
  refine QA ?_; refine zP (Qf rfl rfl rfl k rfl _ (Qu hx) rfl) ?_; refine Jf ?_; refine zP (Qb (Qdb _ _) rfl rfl rfl) ?_
  refine QC ?_
  refine zq ?_ ?_ <;> intro h16
  ·
   have hkb : Kj b x = true := h16
   refine Qx ?_; refine zP (QJ rfl rfl rfl rfl (by exact rfl) (by decide) (by decide)) ?_
   refine X1 hN rfl rfl rfl (by simp) rfl rfl rfl (by simp only [List.length_map, List.length_append, QI, List.length_singleton]; have := QbC (q := Kj b) (l := a) (k := k); have := QbC (q := Wg a) (l := b) (k := k);  omega) rfl rfl rfl rfl ?_
   refine QA ?_; refine Qc ?_
   exact ⟨⟨k + 1, hlt, trivial⟩, Qa rfl (Yg ⟨(Xe (by dsimp only; omega)), rfl, (cgO (by first | (rw [W3 hx hkb]; simp [QI, K6] <;> omega) | rw [Qb8 hx hkb])), rfl, trivial⟩) ⟨(cgA (by first | (rw [W3 hx hkb]; simp [QI, K6] <;> omega) | rw [Qb8 hx hkb])), rfl, (X0 (Qec _) _), trivial⟩, by dsimp only; omega⟩
  have hkb : Kj b x = false := h16
  refine Qz ?_; refine Qc ?_
  exact ⟨⟨k + 1, hlt, trivial⟩, Qa rfl (Yg ⟨(Xe (by dsimp only; omega)), rfl, (cgO (by first | (rw [W3 hx hkb]; simp [QI, K6] <;> omega) | rw [Qb8 hx hkb])), rfl, trivial⟩) ⟨(cgA (by first | (rw [W3 hx hkb]; simp [QI, K6] <;> omega) | rw [Qb8 hx hkb])), rfl, (X0 (Qec _) _), trivial⟩, by dsimp only; omega⟩
 have hge : (a).length ≤ k := by simpa using h10
 refine Jy ?_
 refine Qo (fun x : {k : Nat // k ≤ (b).length ∧ True} => ⟨[(0, KU a), (25, KU b), (26, i64 b.length), (27, i64 (x.1 : Nat)), (5, .own 0 (a.filter (Kj b) ++ (b.take x.1).filter (Wg a)).length)], [(0, .arr 149 2 ((a.filter (Kj b) ++ (b.take x.1).filter (Wg a)).map K6))], 1⟩) (fun x => (b).length - x.1) (⟨0, Nat.zero_le _, by simp⟩) ?_ ?_
 ·
  exact Qa rfl (Yv ⟨(Xe (by simp)), rfl, rfl, rfl, (cgO (by rw [List.take_of_length_le hge]; simp)), rfl, trivial⟩) ⟨(cgA (by rw [List.take_of_length_le hge]; simp)), rfl, (X0 (Qec _) _), trivial⟩
 rintro ⟨k, hk, hg⟩
 clear hge
 dsimp only
 refine X7 25 rfl (fun hl8 => ?_)
 refine QA ?_
 refine zq ?_ ?_ <;> intro h28
 rotate_left
 ·
  have hge : (b).length ≤ k := by simpa using h28
  refine QC ?_
  have hacc : (a.filter (Kj b) ++ (b.take k).filter (Wg a)) = a.filter (Kj b) ++ b.filter (Wg a) := by rw [List.take_of_length_le hge]
  refine QC ?_
  refine QnR (sf := 220) hN QhG rfl (by decide) K6 (a.filter (Kj b) ++ (b.take k).filter (Wg a)) XK (fun g => Jl.swo g) QhM QjI Tryz.isAgg149 Tryz.sizeOf149 (fun x _ y _ => Qhw x y) rfl rfl rfl rfl (by have := QbC (q := Kj b) (l := a) (k := a.length); have := QbC (q := Wg a) (l := b) (k := k); rw [List.take_length] at *; simp only [List.length_append]; omega) rfl rfl rfl rfl (fun l2 hp hs2 => ?_)
  refine QC ?_
  refine QF (Yt 5 0 rfl rfl (by simp [hp.length_eq]) (Q2 QhM _) (fun e he => by obtain ⟨y, -, rfl⟩ := List.mem_map.1 he; exact QjI y) rfl) ?_
  refine Qx ?_; refine zQ ?_
  exact QaV (by rw [Qg7 hp hs2, hacc]; rfl)
 have hlt : k < (b).length := by simpa using h28
 obtain ⟨x, hx⟩ := Qr hlt
 refine QA ?_; refine zP (Qf rfl rfl rfl k rfl _ (Qu hx) rfl) ?_; refine QA ?_; refine QF (WT 9 1 rfl rfl rfl rfl) ?_
 refine QC ?_; refine zP (Qho rfl rfl) ?_; refine zP (Qb (Qgj a (fun y _ => QhL x y)) rfl rfl rfl) ?_; refine QC ?_
 refine zq ?_ ?_ <;> intro h34
 ·
  have hka : Wg a x = true := h34
  refine Qx ?_; refine zP (QJ rfl rfl rfl rfl (by exact rfl) (by decide) (by decide)) ?_
  refine X1 hN rfl rfl rfl (by simp) rfl rfl rfl (by simp only [List.length_map, List.length_append, QI, List.length_singleton]; have := QbC (q := Kj b) (l := a) (k := a.length); have := QbC (q := Wg a) (l := b) (k := k); rw [List.take_length] at *; omega) rfl rfl rfl rfl ?_
  refine QA ?_; refine Qc ?_
  exact ⟨⟨k + 1, hlt, trivial⟩, Qa rfl (Ya ⟨(Xe (by dsimp only; omega)), rfl, (cgO (by first | (rw [W3 hx hka]; simp [QI, K6] <;> omega) | rw [Qb8 hx hka])), rfl, trivial⟩) ⟨(cgA (by first | (rw [W3 hx hka]; simp [QI, K6] <;> omega) | rw [Qb8 hx hka])), rfl, (X0 (Qec _) _), trivial⟩, by dsimp only; omega⟩
 have hka : Wg a x = false := h34
 refine Qz ?_; refine Qc ?_
 exact ⟨⟨k + 1, hlt, trivial⟩, Qa rfl (Ya ⟨(Xe (by dsimp only; omega)), rfl, (cgO (by first | (rw [W3 hx hka]; simp [QI, K6] <;> omega) | rw [Qb8 hx hka])), rfl, trivial⟩) ⟨(cgA (by first | (rw [W3 hx hka]; simp [QI, K6] <;> omega) | rw [Qb8 hx hka])), rfl, (X0 (Qec _) _), trivial⟩, by dsimp only; omega⟩
def Ku (b : Bool) (x : Nm) (l : List Nm) : List Nm := if b then x :: l else l
def WO (lf bo ri : Bool) : Nat → List Nm → List Nm → List Nm
 | 0, _, _ => []
 | _ + 1, [], [] => []
 | f + 1, x :: r, [] => Ku lf x (WO lf bo ri f r [])
 | f + 1, [], y :: s => Ku ri y (WO lf bo ri f [] s)
 | f + 1, x :: r, y :: s => if Op.bytesLess x y then Ku lf x (WO lf bo ri f r (y :: s)) else if Op.bytesLess y x then Ku ri y (WO lf bo ri f (x :: r) s) else Ku bo x (WO lf bo ri f r s)
section
variable (lf bo ri : Bool)
theorem Ju : ∀ (f g : Nat) (a b : List Nm), a.length + b.length ≤ f → a.length + b.length ≤ g → WO lf bo ri f a b = WO lf bo ri g a b
 | 0, 0, _, _, _, _ => rfl
 | 0, g + 1, a, b, h1, _ => by
  have ha : a = [] := List.eq_nil_of_length_eq_zero (by omega)
  have hb : b = [] := List.eq_nil_of_length_eq_zero (by omega)
  subst ha hb; rfl
 | f + 1, 0, a, b, _, h2 => by
  have ha : a = [] := List.eq_nil_of_length_eq_zero (by omega)
  have hb : b = [] := List.eq_nil_of_length_eq_zero (by omega)
  subst ha hb; rfl
 | f + 1, g + 1, [], [], _, _ => rfl
 | f + 1, g + 1, x :: r, [], h1, h2 => by simp only [List.length_cons, List.length_nil] at h1 h2; simp only [WO]; rw [Ju f g r [] (by simp; omega) (by simp; omega)]
 | f + 1, g + 1, [], y :: s, h1, h2 => by simp only [List.length_cons, List.length_nil] at h1 h2; simp only [WO]; rw [Ju f g [] s (by simp; omega) (by simp; omega)]
 | f + 1, g + 1, x :: r, y :: s, h1, h2 => by
  simp only [List.length_cons] at h1 h2
  simp only [WO]
  rw [Ju f g r (y :: s) (by simp; omega) (by simp; omega), Ju f g (x :: r) s (by simp; omega) (by simp; omega), Ju f g r s (by omega) (by omega)]
def YK (a b : List Nm) : List Nm := WO lf bo ri (a.length + b.length) a b
end
section
variable {lf bo ri : Bool} {x y : Nm} {r s : List Nm}
theorem QnL : YK lf bo ri (x :: r) [] = Ku lf x (YK lf bo ri r []) := by
 show WO lf bo ri (r.length + 1 + 0) (x :: r) [] = _
 rfl
theorem QnE : YK lf bo ri [] (y :: s) = Ku ri y (YK lf bo ri [] s) := by
 unfold YK
 rw [Ju lf bo ri _ (s.length + 1) [] (y :: s) (by simp) (by simp), Ju lf bo ri _ s.length [] s (by simp) (by simp)]
 rfl
theorem QkU (h : Op.bytesLess x y = true) : YK lf bo ri (x :: r) (y :: s) = Ku lf x (YK lf bo ri r (y :: s)) := by
 unfold YK
 rw [Ju lf bo ri _ (r.length + (s.length + 1) + 1) (x :: r) (y :: s) (Nat.le_refl _) (by simp only [List.length_cons]; omega), WO, if_pos h]
 rfl
theorem Qk6 (h : Op.bytesLess x y = false) (h2 : Op.bytesLess y x = true) : YK lf bo ri (x :: r) (y :: s) = Ku ri y (YK lf bo ri (x :: r) s) := by
 unfold YK
 rw [Ju lf bo ri _ (r.length + 1 + s.length + 1) (x :: r) (y :: s) (Nat.le_refl _) (by simp only [List.length_cons]; omega), WO, if_neg (by simp [h]), if_pos h2]
 rfl
theorem Qlu (h : Op.bytesLess x y = false) (h2 : Op.bytesLess y x = false) : YK lf bo ri (x :: r) (y :: s) = Ku bo x (YK lf bo ri r s) := by
 unfold YK
 rw [Ju lf bo ri _ (r.length + s.length + 1 + 1) (x :: r) (y :: s) (Nat.le_refl _) (by simp only [List.length_cons]; omega), WO, if_neg (by simp [h]), if_neg (by simp [h2]), Ju lf bo ri _ (r.length + s.length) r s (by omega) (by omega)]
theorem Qdx {b : Bool} {x : Nm} {l acc u : List Nm} (h : b = true) (hg : acc ++ Ku b x l = u) : (acc ++ [x]) ++ l = u := by
 rw [← hg, Ku, if_pos h]; simp
theorem Qf7 {b : Bool} {x : Nm} {l acc u : List Nm} (h : b = false) (hg : acc ++ Ku b x l = u) : acc ++ l = u := by
 rw [← hg, Ku, if_neg (by simp [h])]
theorem WA (s : Nm) : WP 1 (sv1 s) = true := rfl
theorem Xa (x : AV) : X2 1 1 [x] = [[x]] := rfl
end
theorem Qnb (hof : ∀ l : List Nm, Qn l = true → l.length ≤ 1000000 → FC Tryz.prog 229 [XN l] (XN l)) (a b : List Nm) (ha : Qn a = true) (hb0 : Qn b = true) (hab : a.length + b.length ≤ 1000000) (lf bo ri : Bool) : FC Tryz.prog 214 [XN a, XN b, bl lf, bl bo, bl ri] (XN (YK lf bo ri a b)) := by
 refine Qe [10] Tryz.func214 rfl rfl 87 Tryz.ntmps214 (Nat.le_of_ble_eq_true rfl) ?_
 intro E hN
 refine Xj ?_; refine zP (Qb (hof a ha (by omega)) rfl rfl rfl) ?_; refine zM ?_; refine zP (Qb (hof b hb0 (by omega)) rfl rfl rfl) ?_
 refine Jy ?_; refine QF (Qgs rfl 13 9 1 rfl) ?_
 refine Qo (fun x : {q : List Nm × List Nm × List Nm // q.2.2 ++ YK lf bo ri q.1 q.2.1 = YK lf bo ri a b ∧ q.2.2.length + q.1.length + q.2.1.length ≤ a.length + b.length} => ⟨[(2, bl lf), (3, bl bo), (4, bl ri), (11, XN x.1.1), (12, XN x.1.2.1), (13, .sl (x.1.2.2.map sv1) (some 0))], [(0, .tok 9 1 x.1.2.2.length)], 1⟩) (fun x => x.1.1.length + x.1.2.1.length) (⟨(a, b, []), rfl, by simp⟩) ?_ ?_
 ·
  exact Qa rfl (Yg (Yv trivial)) ⟨rfl, rfl, rfl, trivial⟩
 rintro ⟨⟨u, v, acc⟩, hg, hlen⟩
 dsimp only at hg hlen ⊢
 rcases u with _ | ⟨x, r⟩ <;> rcases v with _ | ⟨y, s⟩
 ·
  skip
  refine QA ?_
  refine zP (Q6 (b := false) rfl rfl rfl (by simp <;> omega)) ?_
  refine Qx ?_
  refine zP (Q6 (b := false) rfl rfl rfl (by simp <;> omega)) ?_
  refine Jf ?_; refine zQ ?_
  exact QaV (by rw [← hg]; simp [YK, WO])
 ·
  skip
  refine QA ?_
  refine zP (Q6 (b := false) rfl rfl rfl (by simp <;> omega)) ?_
  refine Qx ?_
  refine zP (Q6 (b := true) rfl rfl rfl (by simp <;> omega)) ?_
  refine Xj ?_; refine Qg 17 (by kernel_rfl) (by kernel_rfl) ?_; refine QC ?_
  refine zp (Q6 (b := false) rfl rfl rfl (by simp <;> omega)) ?_
  refine Qx ?_
  refine zp (Q6 (b := false) rfl rfl rfl (by simp <;> omega)) ?_
  refine XM ?_; change Ql _ _ _ _ _ _; refine Qz ?_; refine Qg 12 (by kernel_rfl) (by kernel_rfl) ?_; refine QC ?_
  refine zp (Q6 (b := true) rfl rfl rfl (by simp <;> omega)) ?_
  refine Jy ?_; change Ql _ _ _ _ _ _; refine Jf ?_
  refine zq ?_ ?_ <;> intro h10
  ·
   have hb := h10
   refine Qx ?_; refine zP (Qf rfl rfl rfl 0 rfl _ rfl rfl) ?_; refine zL ?_
   refine zP (QJ rfl rfl rfl rfl (by exact rfl) (by decide) (by decide)) ?_
   refine QM hN rfl rfl rfl (by simp) rfl rfl (Q2 WA _) rfl (by simp [Xa] at hlen ⊢ <;> omega) rfl rfl rfl rfl ?_
   refine Qz ?_; refine zP (JM rfl rfl rfl 1 rfl (by simp) (by exact fun _ => rfl)) ?_; refine zS ?_; refine Qc ?_
   exact ⟨⟨([], s, acc ++ [y]), Qdx hb (by rw [← hg, QnE]), by simp at hlen ⊢ <;> omega⟩, Qa rfl (Yg (Xr ⟨(cgL (by simp [sv1, Xa])), rfl, trivial⟩)) ⟨(cgT (by simp [Xa])), rfl, rfl, trivial⟩, by simp <;> omega⟩
  have hb := h10
  refine Qx ?_; refine zP (JM rfl rfl rfl 1 rfl (by simp) (by exact fun _ => rfl)) ?_; refine zS ?_; refine Qc ?_
  exact ⟨⟨([], s, acc), Qf7 hb (by rw [← hg, QnE]), by simp at hlen ⊢ <;> omega⟩, Qa rfl (Yg (Xr ⟨(cgL (by simp [sv1, Xa])), rfl, trivial⟩)) ⟨(cgT (by simp [Xa])), rfl, rfl, trivial⟩, by simp <;> omega⟩
 ·
  skip
  refine QA ?_
  refine zP (Q6 (b := true) rfl rfl rfl (by simp <;> omega)) ?_
  refine Jc ?_; refine Qg 17 (by kernel_rfl) (by kernel_rfl) ?_; refine QC ?_
  refine zp (Q6 (b := true) rfl rfl rfl (by simp <;> omega)) ?_
  refine KJ ?_; change Ql _ _ _ _ _ _; refine Jf ?_
  refine zq ?_ ?_ <;> intro h8
  ·
   have hb := h8
   refine Qx ?_; refine zP (Qf rfl rfl rfl 0 rfl _ rfl rfl) ?_; refine zL ?_
   refine zP (QJ rfl rfl rfl rfl (by exact rfl) (by decide) (by decide)) ?_
   refine QM hN rfl rfl rfl (by simp) rfl rfl (Q2 WA _) rfl (by simp [Xa] at hlen ⊢ <;> omega) rfl rfl rfl rfl ?_
   refine Qz ?_; refine zP (JM rfl rfl rfl 1 rfl (by simp) (by exact fun _ => rfl)) ?_; refine zS ?_; refine Qc ?_
   exact ⟨⟨(r, [], acc ++ [x]), Qdx hb (by rw [← hg, QnL]), by simp at hlen ⊢ <;> omega⟩, Qa rfl (Yg (Xr ⟨(cgL (by simp [sv1, Xa])), rfl, trivial⟩)) ⟨(cgT (by simp [Xa])), rfl, rfl, trivial⟩, by simp <;> omega⟩
  have hb := h8
  refine Qx ?_; refine zP (JM rfl rfl rfl 1 rfl (by simp) (by exact fun _ => rfl)) ?_; refine zS ?_; refine Qc ?_
  exact ⟨⟨(r, [], acc), Qf7 hb (by rw [← hg, QnL]), by simp at hlen ⊢ <;> omega⟩, Qa rfl (Yg (Xr ⟨(cgL (by simp [sv1, Xa])), rfl, trivial⟩)) ⟨(cgT (by simp [Xa])), rfl, rfl, trivial⟩, by simp <;> omega⟩
 skip
 refine QA ?_
 refine zP (Q6 (b := true) rfl rfl rfl (by simp <;> omega)) ?_
 refine Jc ?_; refine Qg 17 (by kernel_rfl) (by kernel_rfl) ?_; refine QC ?_
 refine zp (Q6 (b := false) rfl rfl rfl (by simp <;> omega)) ?_
 refine Qx ?_
 refine zp (Q6 (b := true) rfl rfl rfl (by simp <;> omega)) ?_
 refine QC ?_; refine zp (Qf rfl rfl rfl 0 rfl _ rfl rfl) ?_; refine QC ?_; refine zp (Qf rfl rfl rfl 0 rfl _ rfl rfl) ?_; refine Qz ?_
 change Ql _ _ _ _ _ _; refine zT ?_
 refine zq ?_ ?_ <;> intro h42
 ·
  have hLt := h42
  refine QA ?_
  refine zq ?_ ?_ <;> intro h8
  ·
   have hb := h8
   refine Qx ?_; refine zP (Qf rfl rfl rfl 0 rfl _ rfl rfl) ?_; refine zL ?_
   refine zP (QJ rfl rfl rfl rfl (by exact rfl) (by decide) (by decide)) ?_
   refine QM hN rfl rfl rfl (by simp) rfl rfl (Q2 WA _) rfl (by simp [Xa] at hlen ⊢ <;> omega) rfl rfl rfl rfl ?_
   refine Qz ?_; refine zP (JM rfl rfl rfl 1 rfl (by simp) (by exact fun _ => rfl)) ?_; refine zS ?_; refine Qc ?_
   exact ⟨⟨(r, y :: s, acc ++ [x]), Qdx hb (by rw [← hg, QkU hLt]), by simp at hlen ⊢ <;> omega⟩, Qa rfl (Yg (Xr ⟨(cgL (by simp [sv1, Xa])), rfl, trivial⟩)) ⟨(cgT (by simp [Xa])), rfl, rfl, trivial⟩, by simp <;> omega⟩
  have hb := h8
  refine Qx ?_; refine zP (JM rfl rfl rfl 1 rfl (by simp) (by exact fun _ => rfl)) ?_; refine zS ?_; refine Qc ?_
  exact ⟨⟨(r, y :: s, acc), Qf7 hb (by rw [← hg, QkU hLt]), by simp at hlen ⊢ <;> omega⟩, Qa rfl (Yg (Xr ⟨(cgL (by simp [sv1, Xa])), rfl, trivial⟩)) ⟨(cgT (by simp [Xa])), rfl, rfl, trivial⟩, by simp <;> omega⟩
 have hLt := h42
 refine Yb ?_; refine Qg 12 (by kernel_rfl) (by kernel_rfl) ?_; refine QC ?_
 refine zp (Q6 (b := false) rfl rfl rfl (by simp <;> omega)) ?_
 refine QC ?_; refine zp (Qf rfl rfl rfl 0 rfl _ rfl rfl) ?_; refine QC ?_; refine zp (Qf rfl rfl rfl 0 rfl _ rfl rfl) ?_; refine Qx ?_
 change Ql _ _ _ _ _ _; refine zT ?_
 refine zq ?_ ?_ <;> intro h54
 ·
  have hGt := h54
  refine QA ?_
  refine zq ?_ ?_ <;> intro h10
  ·
   have hb := h10
   refine Qx ?_; refine zP (Qf rfl rfl rfl 0 rfl _ rfl rfl) ?_; refine zL ?_
   refine zP (QJ rfl rfl rfl rfl (by exact rfl) (by decide) (by decide)) ?_
   refine QM hN rfl rfl rfl (by simp) rfl rfl (Q2 WA _) rfl (by simp [Xa] at hlen ⊢ <;> omega) rfl rfl rfl rfl ?_
   refine Qz ?_; refine zP (JM rfl rfl rfl 1 rfl (by simp) (by exact fun _ => rfl)) ?_; refine zS ?_; refine Qc ?_
   exact ⟨⟨(x :: r, s, acc ++ [y]), Qdx hb (by rw [← hg, Qk6 hLt hGt]), by simp at hlen ⊢ <;> omega⟩, Qa rfl (Yg (Xr ⟨(cgL (by simp [sv1, Xa])), rfl, trivial⟩)) ⟨(cgT (by simp [Xa])), rfl, rfl, trivial⟩, by simp <;> omega⟩
  have hb := h10
  refine Qx ?_; refine zP (JM rfl rfl rfl 1 rfl (by simp) (by exact fun _ => rfl)) ?_; refine zS ?_; refine Qc ?_
  exact ⟨⟨(x :: r, s, acc), Qf7 hb (by rw [← hg, Qk6 hLt hGt]), by simp at hlen ⊢ <;> omega⟩, Qa rfl (Yg (Xr ⟨(cgL (by simp [sv1, Xa])), rfl, trivial⟩)) ⟨(cgT (by simp [Xa])), rfl, rfl, trivial⟩, by simp <;> omega⟩
 have hGt := h54
 refine QA ?_
 refine zq ?_ ?_ <;> intro h9
 ·
  have hb := h9
  refine Qx ?_; refine zP (Qf rfl rfl rfl 0 rfl _ rfl rfl) ?_; refine zL ?_
  refine zP (QJ rfl rfl rfl rfl (by exact rfl) (by decide) (by decide)) ?_
  refine QM hN rfl rfl rfl (by simp) rfl rfl (Q2 WA _) rfl (by simp [Xa] at hlen ⊢ <;> omega) rfl rfl rfl rfl ?_
  refine zT ?_; refine Qg 5 (by kernel_rfl) (by kernel_rfl) ?_; refine zm ?_
  refine zp (JM rfl rfl rfl 1 rfl (by simp) (by exact fun _ => rfl)) ?_; refine zm ?_
  refine zp (JM rfl rfl rfl 1 rfl (by simp) (by exact fun _ => rfl)) ?_; refine zp (XB rfl rfl) ?_; change Ql _ _ _ _ _ _; refine zS ?_
  refine Qc ?_
  exact ⟨⟨(r, s, acc ++ [x]), Qdx hb (by rw [← hg, Qlu hLt hGt]), by simp at hlen ⊢ <;> omega⟩, Qa rfl (Yg (Xr ⟨(cgL (by simp [sv1, Xa])), rfl, trivial⟩)) ⟨(cgT (by simp [Xa])), rfl, rfl, trivial⟩, by simp <;> omega⟩
 have hb := h9
 refine zW ?_; refine Qg 5 (by kernel_rfl) (by kernel_rfl) ?_; refine zm ?_
 refine zp (JM rfl rfl rfl 1 rfl (by simp) (by exact fun _ => rfl)) ?_; refine zm ?_
 refine zp (JM rfl rfl rfl 1 rfl (by simp) (by exact fun _ => rfl)) ?_; refine zp (XB rfl rfl) ?_; change Ql _ _ _ _ _ _; refine zS ?_
 refine Qc ?_
 exact ⟨⟨(r, s, acc), Qf7 hb (by rw [← hg, Qlu hLt hGt]), by simp at hlen ⊢ <;> omega⟩, Qa rfl (Yg (Xr ⟨(cgL (by simp [sv1, Xa])), rfl, trivial⟩)) ⟨(cgT (by simp [Xa])), rfl, rfl, trivial⟩, by simp <;> omega⟩
theorem QcF (l : List Nm) : ∀ e ∈ l.map sv1, fzs e = some e := fun e he => by
 obtain ⟨x, -, rfl⟩ := List.mem_map.1 he
 rfl
theorem QfP (l : List Nm) (hl : l.length ≤ 1000000) : FO Tryz.prog 197 [XN l] 9 1 (l.map sv1) := by
 refine Qd9 2 Tryz.func197 rfl rfl 8 Tryz.ntmps197 (Nat.le_of_ble_eq_true rfl) ?_
 intro E hN
 refine Jf ?_
 refine QkG hN rfl rfl rfl rfl rfl rfl rfl (fun b hbb => ?_)
 refine zN ?_
 refine zq ?_ ?_ <;> intro h2
 ·
  have hnil : l = [] := by
   rcases l with _ | ⟨x, r⟩
   ·rfl
   have := hbb (by simp); rw [this] at h2; cases h2
  subst hnil
  refine Qz ?_; refine QF (W6 rfl 2 9 1 rfl) ?_; refine Qj ?_
  exact ⟨0, 0, rfl, rfl, rfl, QcF []⟩
 refine Qx ?_; refine Qb3 hN rfl rfl rfl rfl rfl rfl ?_; refine zM ?_
 refine X1 hN rfl rfl rfl rfl rfl rfl (Q2 WA _) (by simp; omega) rfl rfl rfl rfl ?_
 refine zT ?_; refine Qj ?_
 exact ⟨0, _, rfl, by simp, rfl, QcF l⟩
theorem Wu : ∀ a : Nm, Op.bytesLess a a = false
 | [] => rfl
 | x :: a => by
  unfold Op.bytesLess
  simp [Wu a, UInt8.lt_irrefl]
theorem QoP {a b : Nm} (h : Op.bytesLess a b = true) : (b == a) = false := by
 cases hb : (b == a) with
 | false => rfl
 | true =>
  have : b = a := by simpa using hb
  subst this
  rw [Wu] at h; cases h
theorem Qht (l : List Nm) (hs0 : Qn l = true) : FC Tryz.prog 240 [XN l] (XN l) := by
 refine Qe [2] Tryz.func240 rfl rfl 61 Tryz.ntmps240 (Nat.le_of_ble_eq_true rfl) ?_
 intro E hN
 refine X7 0 rfl (fun hl0 => ?_)
 refine Jc ?_
 refine zq ?_ ?_ <;> intro h3
 ·
  refine Qz ?_; refine zQ ?_
  rfl
 refine Xj ?_
 refine Qo (fun x : {k : Nat // 1 ≤ k ∧ Qn (l.drop (k - 1)) = Qn l ∧ k ≤ l.length + 1} => ⟨[(0, XN l), (3, i64 (x.1 : Nat))], [], 0⟩) (fun x => l.length + 1 - x.1) (⟨1, Nat.le_refl _, rfl, by omega⟩) ?_ ?_
 ·
  exact Qa rfl (Yv trivial) trivial
 rintro ⟨k, hk, hg, hk2⟩
 dsimp only
 refine Jf ?_
 refine zq ?_ ?_ <;> intro h7
 rotate_left
 ·
  refine QA ?_; refine zQ ?_
  rfl
 have hlt : k < l.length := by simpa using h7
 obtain ⟨x, hx⟩ := Qr hlt
 obtain ⟨y, hy⟩ := Qr (show k - 1 < l.length by omega)
 have hs := QbR hk hg hy hx
 rw [hs0] at hs
 have hs1 : (Op.bytesLess y x && Qn (l.drop k)) = true := hs.symm
 rw [Bool.and_eq_true] at hs1
 have hn : Qn (l.drop (k + 1 - 1)) = Qn l := by rw [Nat.add_sub_cancel, hs0]; exact hs1.2
 refine Qz ?_; refine Qg 9 (by kernel_rfl) (by kernel_rfl) ?_; refine QC ?_; refine zp (Qf rfl rfl rfl k rfl _ (Qu hx) rfl) ?_
 refine Qx ?_; refine zp (QbO rfl rfl rfl (by omega)) ?_; refine zp (Qf rfl rfl rfl (k - 1) (by omega) _ (Qu hy) rfl) ?_; refine zl ?_
 change Ql _ _ _ _ _ _; refine zP (Q6 (b := false) rfl rfl rfl (congrArg Value.bool (QoP hs1.1))) ?_; refine Xj ?_; refine Qc ?_
 exact ⟨⟨k + 1, by omega, hn, by omega⟩, Qa rfl (Xr ⟨(Xe (by dsimp only; omega)), rfl, trivial⟩) trivial, by dsimp only; omega⟩
end Go.Proofs.YtnkkokmmeplbgaaGreat
namespace Go.Proofs.YtnkkokmmeplbgaaGreat
set_option maxRecDepth 100000
set_option maxHeartbeats 1000000
open Go.RowKit
theorem K8 : ∀ {a b d : Nm}, Op.bytesLess a b = true → Op.bytesLess b d = true → Op.bytesLess a d = true
 | _, [], _, h, _ => by rename_i a _; cases a <;> simp [Op.bytesLess] at h
 | [], _ :: _, [], _, h => by simp [Op.bytesLess] at h
 | [], _ :: _, _ :: _, _, _ => rfl
 | _ :: _, _ :: _, [], _, h => by simp [Op.bytesLess] at h
 | x :: a, y :: b, z :: d, h1, h2 => by
  unfold Op.bytesLess at h1 h2 ⊢
  simp only [Bool.or_eq_true, Bool.and_eq_true, decide_eq_true_eq, beq_iff_eq] at h1 h2 ⊢
  rcases h1 with h1 | ⟨rfl, h1⟩ <;> rcases h2 with h2 | ⟨rfl, h2⟩
  ·exact .inl (UInt8.lt_trans h1 h2)
  ·exact .inl h1
  ·exact .inl h2
  exact .inr ⟨rfl, K8 h1 h2⟩
theorem Qnc : ∀ {a b : Nm}, Op.bytesLess a b = true → a ≤ b
 | [], _, _ => List.nil_le _
 | _ :: _, [], h => by simp [Op.bytesLess] at h
 | x :: a, y :: b, h => by
  rw [List.cons_le_cons_iff]
  unfold Op.bytesLess at h
  simp only [Bool.or_eq_true, Bool.and_eq_true, decide_eq_true_eq, beq_iff_eq] at h
  rcases h with h | ⟨h1, h2⟩
  ·exact .inl h
  exact .inr ⟨h1, Qnc h2⟩
theorem XS : ∀ {l : List Nm}, Qn l = true → l.Pairwise (fun a b => Op.bytesLess a b = true)
 | [], _ => List.Pairwise.nil
 | [_], _ => List.pairwise_singleton _ _
 | a :: b :: l, h => by
  have h : (Op.bytesLess a b && Qn (b :: l)) = true := h
  rw [Bool.and_eq_true] at h
  have ih := XS h.2
  refine List.Pairwise.cons (fun d hd => ?_) ih
  rcases List.mem_cons.1 hd with rfl | hd
  ·exact h.1
  exact K8 h.1 ((List.pairwise_cons.1 ih).1 d hd)
theorem Qi7 {l : List Nm} (h : Qn l = true) : (l.mergeSort fun x y => decide (x ≤ y)) = l :=
 List.mergeSort_of_pairwise ((XS h).imp (fun h => by simpa using Qnc h))
theorem Qow (l : List Nm) (hs0 : Qn l = true) (hl : l.length ≤ 1000000) : FC Tryz.prog 229 [XN l] (XN l) := by
 refine Qe [2] Tryz.func229 rfl rfl 10 Tryz.ntmps229 (Nat.le_of_ble_eq_true rfl) ?_
 intro E hN
 refine Xj ?_; refine Qm6 hN rfl (QfP l hl) (.fn _ _ _ _ rfl rfl) rfl rfl rfl rfl rfl ?_; refine QA ?_
 refine QlK hN Qly Qi9 l rfl rfl (by simp) rfl (by omega) rfl rfl rfl rfl ?_
 rw [Qi7 hs0]
 refine QC ?_; refine QF (Yt 3 0 rfl rfl (by simp) (Q2 WA _) (QcF l) rfl) ?_; refine QC ?_
 refine zP (Qb (Qht l hs0) rfl rfl rfl) ?_; refine zS ?_; refine zQ ?_
 rfl
theorem Qlg (a b : List Nm) (ha : Qn a = true) (hb : Qn b = true) (hab : a.length + b.length ≤ 1000000) (lf bo ri : Bool) : FC Tryz.prog 214 [XN a, XN b, bl lf, bl bo, bl ri] (XN (YK lf bo ri a b)) := Qnb (fun l h1 h2 => Qow l h1 h2) a b ha hb hab lf bo ri
theorem QdB (a b : List Nm) (ha : Qn a = true) (hb : Qn b = true) (hab : a.length + b.length ≤ 1000000) : FC Tryz.prog 194 [XN a, XN b] (XN (YK true true true a b)) := by
 refine Qe [4] Tryz.func194 rfl rfl 8 Tryz.ntmps194 (Nat.le_of_ble_eq_true rfl) ?_
 intro E hN
 refine Jf ?_; refine zP (Qb (Qlg a b ha hb hab true true true) rfl rfl rfl) ?_; refine zS ?_; refine zQ ?_
 rfl
theorem Qhs (l : List Nm) (hl : l.length ≤ 1000000) : FC Tryz.prog 197 [XN l] (XN l) := QfO (QfP l hl) (Q2 WA _)
theorem Qh1 (l : List Tk) : ∀ e ∈ l.map tkC, fzs e = some e := fun e he => by
 obtain ⟨x, -, rfl⟩ := List.mem_map.1 he
 rfl
theorem Qhp (l : List Tk) (hl : l.length ≤ 1000000) : FO Tryz.prog 198 [tks l] 192 2 (l.map tkC) := by
 refine Qd9 2 Tryz.func198 rfl rfl 8 Tryz.ntmps198 (Nat.le_of_ble_eq_true rfl) ?_
 intro E hN
 refine Jf ?_
 refine QkG hN rfl rfl rfl rfl rfl rfl rfl (fun b hbb => ?_)
 refine zN ?_
 refine zq ?_ ?_ <;> intro h2
 ·
  have hnil : l = [] := by
   rcases l with _ | ⟨x, r⟩
   ·rfl
   have := hbb (by simp); rw [this] at h2; cases h2
  subst hnil
  refine Qz ?_; refine QF (W6 rfl 2 192 2 rfl) ?_; refine Qj ?_
  exact ⟨0, 0, rfl, rfl, rfl, Qh1 []⟩
 refine Qx ?_; refine Qb3 hN rfl rfl rfl rfl rfl rfl ?_; refine zM ?_
 refine X1 hN rfl rfl rfl rfl rfl rfl (Q2 QaZ _) (by simp; omega) rfl rfl rfl rfl ?_
 refine zT ?_; refine Qj ?_
 exact ⟨0, _, rfl, by simp, rfl, Qh1 l⟩
theorem Qhz (l : List Tk) (hl : l.length ≤ 1000000) : FC Tryz.prog 198 [tks l] (tks l) := QfO (Qhp l hl) (Q2 QaZ _)
end Go.Proofs.YtnkkokmmeplbgaaGreat
