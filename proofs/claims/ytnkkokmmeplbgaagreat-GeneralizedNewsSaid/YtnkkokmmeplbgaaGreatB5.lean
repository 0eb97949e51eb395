/-
  Contracts: uses of values' fields, allowed and closed names,
-/
import Derived.Test.YtnkkokmmeplbgaaGreatB4
import Derived.Test.YtnkkokmmeplbgaaGreatA3
namespace Go.Proofs.YtnkkokmmeplbgaaGreat
set_option maxRecDepth 100000
set_option maxHeartbeats 1000000
open Go.RowKit
def Xm (v : Qt) (n li pa en : Bool) : Bool := (n || v.N == 0) && (li || (v.nm.length : Int) == 0) && (pa || (v.ps.length : Int) == 0) && (en || (v.es.length : Int) == 0)
def Yk (only : List Nm) (s : Nm) : Bool := Xb s && !(decide ((only.length : Int) > 0) && !XV only s)
def Xu (only l : List Nm) : Bool := Qn l && l.all (Yk only)
def Wj (l : List Nm) (r : Ru) : Bool := !(Js r.i l && !XV l r.t)
def Y1 (rs : List Ru) (l : List Nm) : Bool := rs.all (Wj l)
def Qcy (last : Int) (t : Tk) : Bool := !(decide (t.1 ≤ last) || decide (t.1 > 63) || decide (t.2 < 1) || decide (t.2 > 1000000000000000))
def QT : Int → List Tk → Bool
 | _, [] => true
 | last, t :: r => Qcy last t && QT t.1 r
theorem Ql1 {l : List Tk} {k : Nat} {last : Int} {x : Tk} {b : Bool} (hg : QT last (l.drop k) = b) (hx : l[k]? = some x) : b = (Qcy last x && QT x.1 (l.drop (k + 1))) := by
 rw [← hg, Q4 hx]; rfl
theorem Qn9 {l : List Tk} {k : Nat} {last : Int} {b : Bool} (hg : QT last (l.drop k) = b) (h : l.length ≤ k) : b = true := by
 rw [← hg, List.drop_of_length_le h]; rfl
def QdK (l : List Tk) (p : Int) : Int := match l.find? (fun t => t.1 == p) with | some t => t.2 | none => 0
def WL (p k : Int) (l : List Tk) : List Tk := if k > 0 then (p, k) :: l else l
def Kk (ch : Int → Int → Int) : Nat → List Tk → List Tk → List Tk
 | 0, _, _ => []
 | _ + 1, [], [] => []
 | f + 1, x :: r, [] => WL x.1 (ch x.2 0) (Kk ch f r [])
 | f + 1, [], y :: s => WL y.1 (ch 0 y.2) (Kk ch f [] s)
 | f + 1, x :: r, y :: s => if x.1 < y.1 then WL x.1 (ch x.2 0) (Kk ch f r (y :: s)) else if y.1 < x.1 then WL y.1 (ch 0 y.2) (Kk ch f (x :: r) s) else WL x.1 (ch x.2 y.2) (Kk ch f r s)
theorem X8 (ch : Int → Int → Int) : ∀ (f g : Nat) (a b : List Tk), a.length + b.length ≤ f → a.length + b.length ≤ g → Kk ch f a b = Kk ch g a b
 | 0, 0, _, _, _, _ => rfl
 | 0, g + 1, a, b, h1, _ => by
  have ha : a = [] := List.eq_nil_of_length_eq_zero (by omega)
  have hb : b = [] := List.eq_nil_of_length_eq_zero (by omega)
  subst ha hb; rfl
 | f + 1, 0, a, b, _, h2 => by
  have ha : a = [] := List.eq_nil_of_length_eq_zero (by omega)
  have hb : b = [] := List.eq_nil_of_length_eq_zero (by omega)
  subst ha hb; rfl
 | f + 1, g + 1, [], [], _, _ => rfl
 | f + 1, g + 1, x :: r, [], h1, h2 => by simp only [List.length_cons, List.length_nil] at h1 h2; simp only [Kk]; rw [X8 ch f g r [] (by simp; omega) (by simp; omega)]
 | f + 1, g + 1, [], y :: s, h1, h2 => by simp only [List.length_cons, List.length_nil] at h1 h2; simp only [Kk]; rw [X8 ch f g [] s (by simp; omega) (by simp; omega)]
 | f + 1, g + 1, x :: r, y :: s, h1, h2 => by
  simp only [List.length_cons] at h1 h2
  simp only [Kk]
  rw [X8 ch f g r (y :: s) (by simp; omega) (by simp; omega), X8 ch f g (x :: r) s (by simp; omega) (by simp; omega), X8 ch f g r s (by omega) (by omega)]
def J9 (ch : Int → Int → Int) (a b : List Tk) : List Tk := Kk ch (a.length + b.length) a b
section
variable {ch : Int → Int → Int} {x y : Tk} {r s : List Tk}
theorem Qnx : J9 ch (x :: r) [] = WL x.1 (ch x.2 0) (J9 ch r []) := by
 show Kk ch (r.length + 1 + 0) (x :: r) [] = _
 rfl
theorem Qoe : J9 ch [] (y :: s) = WL y.1 (ch 0 y.2) (J9 ch [] s) := by
 unfold J9
 rw [X8 ch _ (s.length + 1) [] (y :: s) (by simp) (by simp), X8 ch _ s.length [] s (by simp) (by simp)]
 rfl
theorem Qln (h : x.1 < y.1) : J9 ch (x :: r) (y :: s) = WL x.1 (ch x.2 0) (J9 ch r (y :: s)) := by
 unfold J9
 rw [X8 ch _ (r.length + (s.length + 1) + 1) (x :: r) (y :: s) (Nat.le_refl _) (by simp only [List.length_cons]; omega), Kk, if_pos h]
 rfl
theorem Qlq (h : ¬ x.1 < y.1) (h2 : y.1 < x.1) : J9 ch (x :: r) (y :: s) = WL y.1 (ch 0 y.2) (J9 ch (x :: r) s) := by
 unfold J9
 rw [X8 ch _ (r.length + 1 + s.length + 1) (x :: r) (y :: s) (Nat.le_refl _) (by simp only [List.length_cons]; omega), Kk, if_neg h, if_pos h2]
 rfl
theorem QkZ (h : ¬ x.1 < y.1) (h2 : ¬ y.1 < x.1) : J9 ch (x :: r) (y :: s) = WL x.1 (ch x.2 y.2) (J9 ch r s) := by
 unfold J9
 rw [X8 ch _ (r.length + s.length + 1 + 1) (x :: r) (y :: s) (Nat.le_refl _) (by simp only [List.length_cons]; omega), Kk, if_neg h, if_neg h2, X8 ch _ (r.length + s.length) r s (by omega) (by omega)]
theorem Qbf {p k : Int} {l acc u : List Tk} (h : decide (k > 0) = true) (hg : acc ++ WL p k l = u) : (acc ++ [(p, k)]) ++ l = u := by
 rw [← hg, WL, if_pos (by simpa using h)]; simp
theorem QcZ {p k : Int} {l acc u : List Tk} (h : decide (k > 0) = false) (hg : acc ++ WL p k l = u) : acc ++ l = u := by
 rw [← hg, WL, if_neg (by simpa using h)]
end
theorem QI (x y : AV) : X2 2 1 [x, y] = [[x, y]] := rfl
theorem QaZ (t : Tk) : WP 2 (tkC t) = true := rfl
theorem Qk7 : ∀ (l : List Tk) (last : Int), QT last l = true → (l.length : Int) ≤ 63 - last ∨ l = []
 | [], _, _ => .inr rfl
 | t :: r, last, h => by
  simp only [QT, Qcy, Bool.and_eq_true, Bool.not_eq_true', Bool.or_eq_false_iff, decide_eq_false_iff_not] at h
  rcases Qk7 r t.1 h.2 with h1 | h1
  ·left; simp only [List.length_cons]; omega
  left; subst h1; simp only [List.length_cons, List.length_nil]; omega
theorem Qnf {l : List Tk} (h : QT (-1) l = true) : l.length ≤ 64 := by
 rcases Qk7 l _ h with h | h
 ·omega
 subst h; simp
def QeG (ch : Int → Int → Int) (a b : List Tk) : List Tk := if QT (-1) a && QT (-1) b then J9 ch a b else []
def JZ (m n : Int) : Int := if m > n then m else 0
def QbV (a b : List Tk) : List Tk := QeG JZ a b
def Qbh (a b : List Tk) : Int := if !(QT (-1) a && QT (-1) b) then 3 else if (QbV a b).length == 0 then (if (QbV b a).length == 0 then 0 else 1) else if (QbV b a).length == 0 then 2 else 3
theorem Yx (v : Qt) (n li pa en : Bool) : FC Tryz.prog 138 [.agg (QH v), bl n, bl li, bl pa, bl en] (bl (Xm v n li pa en)) := by
 refine Qe [10] Tryz.func138 rfl rfl 44 Tryz.ntmps138 (Nat.le_of_ble_eq_true rfl) ?_
 intro E hN
 refine Jy ?_
 refine zc 12 ?_ ?_ <;> intro h2
 ·
  refine Xj ?_
  refine zc 19 ?_ ?_ <;> intro h3
  ·
   refine Jy ?_
   refine zc 28 ?_ ?_ <;> intro h4
   ·
    refine Jy ?_
    refine zc 37 ?_ ?_ <;> intro h5
    ·
     refine Xj ?_; refine zQ ?_
     exact Qq (by simp_all [Xm])
    refine Xj ?_; refine zQ ?_
    exact Qq (by simp_all [Xm])
   refine Xj ?_
   refine zc 35 ?_ ?_ <;> intro h14
   rotate_left
   ·
    refine Jy ?_; refine zQ ?_
    exact Qq (by simp_all [Xm])
   refine QC ?_
   refine zc 37 ?_ ?_ <;> intro h5
   ·
    refine Qz ?_; refine uP (Xo h14) (Xf rfl rfl h5 rfl) ?_; refine QC ?_; refine zQ ?_
    exact Qq (by simp_all [Xm])
   refine Qz ?_; refine uP (Xo h14) (Xl rfl rfl h5 rfl) ?_; refine QC ?_; refine zQ ?_
   exact Qq (by simp_all [Xm])
  refine Xj ?_
  refine zc 26 ?_ ?_ <;> intro h22
  rotate_left
  ·
   refine QfA ?_; refine zQ ?_
   exact Qq (by simp_all [Xm])
  refine QC ?_
  refine zc 28 ?_ ?_ <;> intro h4
  ·
   refine Qz ?_; refine uP (Xo h22) (Xf rfl rfl h4 rfl) ?_; refine Qz ?_
   refine zc 37 ?_ ?_ <;> intro h5
   ·
    refine Xj ?_; refine zQ ?_
    exact Qq (by simp_all [Xm])
   refine Xj ?_; refine zQ ?_
   exact Qq (by simp_all [Xm])
  refine Qz ?_; refine uP (Xo h22) (Xl rfl rfl h4 rfl) ?_; refine QC ?_
  refine zc 35 ?_ ?_ <;> intro h30
  rotate_left
  ·
   refine Jy ?_; refine zQ ?_
   exact Qq (by simp_all [Xm])
  refine QC ?_
  refine zc 37 ?_ ?_ <;> intro h5
  ·
   refine Qz ?_; refine uP (Xo h30) (Xf rfl rfl h5 rfl) ?_; refine QC ?_; refine zQ ?_
   exact Qq (by simp_all [Xm])
  refine Qz ?_; refine uP (Xo h30) (Xl rfl rfl h5 rfl) ?_; refine QC ?_; refine zQ ?_
  exact Qq (by simp_all [Xm])
 refine QA ?_
 refine zc 17 ?_ ?_ <;> intro h37
 rotate_left
 ·
  refine QdU ?_; refine Qx ?_; refine zQ ?_
  exact Qq (by simp_all [Xm])
 refine QC ?_
 refine zc 19 ?_ ?_ <;> intro h3
 ·
  refine Qz ?_; refine uP (Xo h37) (Xf rfl rfl h3 rfl) ?_; refine Qz ?_
  refine zc 28 ?_ ?_ <;> intro h4
  ·
   refine Jy ?_
   refine zc 37 ?_ ?_ <;> intro h5
   ·
    refine Xj ?_; refine zQ ?_
    exact Qq (by simp_all [Xm])
   refine Xj ?_; refine zQ ?_
   exact Qq (by simp_all [Xm])
  refine Xj ?_
  refine zc 35 ?_ ?_ <;> intro h45
  rotate_left
  ·
   refine Jy ?_; refine zQ ?_
   exact Qq (by simp_all [Xm])
  refine QC ?_
  refine zc 37 ?_ ?_ <;> intro h5
  ·
   refine Qz ?_; refine uP (Xo h45) (Xf rfl rfl h5 rfl) ?_; refine QC ?_; refine zQ ?_
   exact Qq (by simp_all [Xm])
  refine Qz ?_; refine uP (Xo h45) (Xl rfl rfl h5 rfl) ?_; refine QC ?_; refine zQ ?_
  exact Qq (by simp_all [Xm])
 refine Qz ?_; refine uP (Xo h37) (Xl rfl rfl h3 rfl) ?_; refine QC ?_
 refine zc 26 ?_ ?_ <;> intro h53
 rotate_left
 ·
  refine QfA ?_; refine zQ ?_
  exact Qq (by simp_all [Xm])
 refine QC ?_
 refine zc 28 ?_ ?_ <;> intro h4
 ·
  refine Qz ?_; refine uP (Xo h53) (Xf rfl rfl h4 rfl) ?_; refine Qz ?_
  refine zc 37 ?_ ?_ <;> intro h5
  ·
   refine Xj ?_; refine zQ ?_
   exact Qq (by simp_all [Xm])
  refine Xj ?_; refine zQ ?_
  exact Qq (by simp_all [Xm])
 refine Qz ?_; refine uP (Xo h53) (Xl rfl rfl h4 rfl) ?_; refine QC ?_
 refine zc 35 ?_ ?_ <;> intro h61
 rotate_left
 ·
  refine Jy ?_; refine zQ ?_
  exact Qq (by simp_all [Xm])
 refine QC ?_
 refine zc 37 ?_ ?_ <;> intro h5
 ·
  refine Qz ?_; refine uP (Xo h61) (Xf rfl rfl h5 rfl) ?_; refine QC ?_; refine zQ ?_
  exact Qq (by simp_all [Xm])
 refine Qz ?_; refine uP (Xo h61) (Xl rfl rfl h5 rfl) ?_; refine QC ?_; refine zQ ?_
 exact Qq (by simp_all [Xm])
theorem Wy (only l : List Nm) : FC Tryz.prog 139 [XN only, XN l] (bl (Xu only l)) := by
 refine Qe [4] Tryz.func139 rfl rfl 31 Tryz.ntmps139 (Nat.le_of_ble_eq_true rfl) ?_
 intro E hN
 refine X7 1 rfl (fun hl1 => ?_)
 refine Jf ?_; refine zP (Qb (Kr l) rfl rfl rfl) ?_; refine QC ?_
 refine zq ?_ ?_ <;> intro h3
 ·
  have h1 := h3
  refine Qx ?_; refine zQ ?_
  exact Qq (by simp_all [Xu])
 have h1 := h3
 refine Jy ?_
 refine Qo (fun x : {k : Nat // k ≤ (l).length ∧ (l.drop k).all (Yk only) = l.all (Yk only)} => ⟨[(0, XN only), (10, XN l), (11, i64 l.length), (12, i64 (x.1 : Nat))], [], 0⟩) (fun x => (l).length - x.1) (⟨0, Nat.zero_le _, by simp⟩) ?_ ?_
 ·
  exact Qa rfl (Yv ⟨(Xe (by simp)), rfl, (Xr trivial)⟩) trivial
 rintro ⟨k, hk, hg⟩
 dsimp only
 refine QA ?_
 refine zq ?_ ?_ <;> intro h8
 rotate_left
 ·
  have hge : (l).length ≤ k := by simpa using h8
  refine Qz ?_; refine zQ ?_
  exact Qq (by rw [Xu, XZ hg hge]; simp_all)
 have hlt : k < (l).length := by simpa using h8
 obtain ⟨x, hx⟩ := Qr hlt
 refine QA ?_; refine zP (Qf rfl rfl rfl k rfl _ (Qu hx) rfl) ?_; refine Xk ?_; refine zP (Qb (Qbm _) rfl rfl rfl) ?_
 refine QC ?_
 refine zc 19 ?_ ?_ <;> intro h11
 ·
  refine QfB ?_; refine zQ ?_
  exact Qq (by rw [Xu, Q1 hg hx (by simp_all [Yk])]; simp)
 refine Qz ?_
 refine zc 23 ?_ ?_ <;> intro h13
 ·
  refine QC ?_; refine uP (Xo h13) (Qb (QeV only _) rfl rfl rfl) ?_; refine Yb ?_; refine uP (XF (m1 (n0 h11))) (Xf rfl rfl h13 rfl) ?_
  refine QC ?_
  refine zq ?_ ?_ <;> intro h14
  ·
   refine Qx ?_; refine zQ ?_
   exact Qq (by rw [Xu, Q1 hg hx (by simp_all [Yk])]; simp)
  refine Qz ?_; refine Qc ?_
  exact ⟨⟨k + 1, hlt, Xx hg hx (by simp_all [Yk])⟩, Qa rfl (Ya ⟨(Xe (by dsimp only; omega)), rfl, trivial⟩) trivial, by dsimp only; omega⟩
 refine Qz ?_; refine uP (XF (m1 (n0 h11))) (Xl rfl rfl h13 rfl) ?_; refine Xj ?_; refine Qc ?_
 exact ⟨⟨k + 1, hlt, Xx hg hx (by simp_all [Yk])⟩, Qa rfl (Ya ⟨(Xe (by dsimp only; omega)), rfl, trivial⟩) trivial, by dsimp only; omega⟩
theorem Qjk (rs : List Ru) (l : List Nm) : FC Tryz.prog 140 [rus rs, XN l] (bl (Y1 rs l)) := by
 refine Qe [4] Tryz.func140 rfl rfl 25 Tryz.ntmps140 (Nat.le_of_ble_eq_true rfl) ?_
 intro E hN
 refine X7 0 rfl (fun hl0 => ?_)
 refine Jn ?_
 refine Qo (fun x : {k : Nat // k ≤ (rs).length ∧ (rs.drop k).all (Wj l) = rs.all (Wj l)} => ⟨[(1, XN l), (7, rus rs), (8, i64 rs.length), (9, i64 (x.1 : Nat))], [], 0⟩) (fun x => (rs).length - x.1) (⟨0, Nat.zero_le _, by simp⟩) ?_ ?_
 ·
  exact Qa rfl (Yv ⟨(Xe (by simp)), rfl, (Xr trivial)⟩) trivial
 rintro ⟨k, hk, hg⟩
 dsimp only
 refine QA ?_
 refine zq ?_ ?_ <;> intro h7
 rotate_left
 ·
  have hge : (rs).length ≤ k := by simpa using h7
  refine Qz ?_; refine zQ ?_
  exact Qq (XZ hg hge).symm
 have hlt : k < (rs).length := by simpa using h7
 obtain ⟨x, hx⟩ := Qr hlt
 refine QA ?_; refine zP (Qf rfl rfl rfl k rfl _ (Qu hx) rfl) ?_; refine Jy ?_; refine zP (Qb (Qan _ l) rfl rfl rfl) ?_
 refine zM ?_
 refine zc 17 ?_ ?_ <;> intro h14
 rotate_left
 ·
  refine Jn ?_; refine Qc ?_
  exact ⟨⟨k + 1, hlt, Xx hg hx (by simp_all [Wj])⟩, Qa rfl (Ya ⟨(Xe (by dsimp only; omega)), rfl, trivial⟩) trivial, by dsimp only; omega⟩
 refine Qx ?_; refine uP (Xo h14) (Qb (QeV l _) rfl rfl rfl) ?_; refine Qx ?_
 refine zq ?_ ?_ <;> intro h17
 ·
  refine Qx ?_; refine zQ ?_
  exact Qq (Q1 hg hx (by simp_all [Wj])).symm
 refine Qz ?_; refine Qc ?_
 exact ⟨⟨k + 1, hlt, Xx hg hx (by simp_all [Wj])⟩, Qa rfl (Ya ⟨(Xe (by dsimp only; omega)), rfl, trivial⟩) trivial, by dsimp only; omega⟩
theorem Wh (l : List Tk) : FC Tryz.prog 173 [tks l] (bl (QT (-1) l)) := by
 refine Qe [2] Tryz.func173 rfl rfl 34 Tryz.ntmps173 (Nat.le_of_ble_eq_true rfl) ?_
 intro E hN
 refine X7 0 rfl (fun hl0 => ?_)
 refine QdO ?_
 refine Qo (fun x : {q : Nat × Int // q.1 ≤ l.length ∧ QT q.2 (l.drop q.1) = QT (-1) l} => ⟨[(3, i64 x.1.2), (6, tks l), (7, i64 l.length), (8, i64 (x.1.1 : Nat))], [], 0⟩) (fun x => l.length - x.1.1) (⟨(0, -1), Nat.zero_le _, by simp⟩) ?_ ?_
 ·
  exact Qa rfl (Yv ⟨(Xe (by simp)), rfl, (Xr trivial)⟩) trivial
 rintro ⟨⟨k, last⟩, hk, hg⟩
 dsimp only at hk hg ⊢
 refine QA ?_
 refine zq ?_ ?_ <;> intro h7
 rotate_left
 ·
  have hge : (l).length ≤ k := by simpa using h7
  refine Qz ?_; refine zQ ?_
  exact Qq (Qn9 hg hge).symm
 have hlt : k < (l).length := by simpa using h7
 obtain ⟨x, hx⟩ := Qr hlt
 have hs := Ql1 hg hx
 refine QA ?_; refine zP (Qf rfl rfl rfl k rfl _ (Qu hx) rfl) ?_; refine Jn ?_
 refine zc 16 ?_ ?_ <;> intro h14
 ·
  refine QeN ?_; refine zQ ?_
  exact Qq (by rw [hs]; simp_all [Qcy])
 refine QA ?_
 refine zc 21 ?_ ?_ <;> intro h17
 ·
  refine KJ ?_; refine zQ ?_
  exact Qq (by rw [hs]; simp_all [Qcy])
 refine QA ?_
 refine zc 26 ?_ ?_ <;> intro h20
 ·
  refine Jy ?_; refine zQ ?_
  exact Qq (by rw [hs]; simp_all [Qcy])
 refine QA ?_
 refine zq ?_ ?_ <;> intro h23
 ·
  refine Qx ?_; refine zQ ?_
  exact Qq (by rw [hs]; simp_all [Qcy])
 have hok : Qcy last x = true := by simp_all [Qcy]
 refine Jy ?_; refine Qc ?_
 exact ⟨⟨(k + 1, x.1), hlt, by rw [hs, hok]; rfl⟩, Qa rfl (Ya ⟨(Xe (by dsimp only; omega)), rfl, trivial⟩) trivial, by dsimp only; omega⟩
theorem Qmo {f : FuncId} [QZ Tryz.prog f] {ch : Int → Int → Int} (hc : ∀ m n, FC Tryz.prog f [i64 m, i64 n] (i64 (ch m n))) (a b : List Tk) : FC Tryz.prog 225 [tks a, tks b, .fn f []] (tks (QeG ch a b)) := by
 refine Qe [6] Tryz.func225 rfl rfl 112 Tryz.ntmps225 (Nat.le_of_ble_eq_true rfl) ?_
 intro E hN
 refine Jf ?_; refine zP (Qb (Wh a) rfl rfl rfl) ?_; refine QC ?_
 refine zc 15 ?_ ?_ <;> intro h4
 ·
  refine Jy ?_; refine zQ ?_
  exact QaV (by simp_all [QeG])
 refine Yb ?_; refine uP (XF (m1 (n0 h4))) (Qb (Wh b) rfl rfl rfl) ?_; refine Qx ?_
 refine zq ?_ ?_ <;> intro h5
 ·
  have h1 := h5
  refine Qx ?_; refine zQ ?_
  exact QaV (by simp_all [QeG])
 have h1 : (QT (-1) a && QT (-1) b) = true := by simp_all
 have ha64 := Qnf (l := a) (by simp_all)
 have hb64 := Qnf (l := b) (by simp_all)
 refine Xj ?_; refine QF (Qgs rfl 7 192 2 rfl) ?_
 refine Qo (fun x : {q : List Tk × List Tk × List Tk // q.2.2 ++ J9 ch q.1 q.2.1 = J9 ch a b ∧ q.2.2.length + q.1.length + q.2.1.length ≤ a.length + b.length} => ⟨[(0, tks x.1.1), (1, tks x.1.2.1), (2, .fn f []), (7, .sl (x.1.2.2.map tkC) (some 0))], [(0, .tok 192 2 x.1.2.2.length)], 1⟩) (fun x => x.1.1.length + x.1.2.1.length) (⟨(a, b, []), rfl, by simp⟩) ?_ ?_
 ·
  exact Qa rfl (Yg trivial) ⟨rfl, rfl, rfl, trivial⟩
 rintro ⟨⟨u, v, acc⟩, hg, hlen⟩
 dsimp only at hg hlen ⊢
 rcases u with _ | ⟨x, r⟩ <;> rcases v with _ | ⟨y, s⟩
 ·
  skip
  refine QA ?_
  refine zP (Q6 (b := false) rfl rfl rfl (by simp <;> omega)) ?_
  refine Qx ?_
  refine zP (Q6 (b := false) rfl rfl rfl (by simp <;> omega)) ?_
  refine Jf ?_; refine zQ ?_
  exact QaV (by rw [QeG, if_pos h1, ← hg]; simp [J9, Kk])
 ·
  skip
  refine QA ?_
  refine zP (Q6 (b := false) rfl rfl rfl (by simp <;> omega)) ?_
  refine Qx ?_
  refine zP (Q6 (b := true) rfl rfl rfl (by simp <;> omega)) ?_
  refine QmG ?_; refine Qg 19 (by kernel_rfl) (by kernel_rfl) ?_; refine QC ?_
  refine zp (Q6 (b := false) rfl rfl rfl (by simp <;> omega)) ?_
  refine Qx ?_
  refine zp (Q6 (b := false) rfl rfl rfl (by simp <;> omega)) ?_
  refine Jn ?_; change Ql _ _ _ _ _ _; refine Qz ?_; refine Qg 14 (by kernel_rfl) (by kernel_rfl) ?_; refine QC ?_
  refine zp (Q6 (b := true) rfl rfl rfl (by simp <;> omega)) ?_
  refine Jc ?_; change Ql _ _ _ _ _ _; refine Qx ?_; refine Qg 12 (by kernel_rfl) (by kernel_rfl) ?_; refine zm ?_
  refine zp (Qf rfl rfl rfl 0 rfl _ rfl rfl) ?_; refine Qx ?_; refine zp (Qf rfl rfl rfl 0 rfl _ rfl rfl) ?_; refine Qx ?_
  refine zp (JM rfl rfl rfl 1 rfl (by simp) (by exact fun _ => rfl)) ?_; refine zp (XB rfl rfl) ?_; refine zp (XB rfl rfl) ?_
  change Ql _ _ _ _ _ _; refine Xj ?_; refine zP (Y2 (hc _ _) rfl rfl rfl rfl) ?_; refine Xj ?_
  refine zq ?_ ?_ <;> intro h25
  ·
   have h13 := h25
   refine QA ?_; refine zP (QJ rfl rfl rfl rfl (by exact rfl) (by decide) (by decide)) ?_
   refine QM hN rfl rfl rfl (by simp) rfl rfl (Q2 QaZ _) rfl (by simp [QI] at hlen ⊢ <;> omega) rfl rfl rfl rfl ?_
   refine zS ?_; refine Qc ?_
   exact ⟨⟨([], s, acc ++ [(y.1, ch 0 y.2)]), Qbf h13 (by rw [← hg, Qoe]), by simp at hlen ⊢ <;> omega⟩, Qa rfl (Ya ⟨(cgL (by simp [tkC, QI])), rfl, trivial⟩) ⟨(cgT (by simp [QI])), rfl, rfl, trivial⟩, by simp <;> omega⟩
  have h13 := h25
  refine QN ?_
  exact ⟨⟨([], s, acc), QcZ h13 (by rw [← hg, Qoe]), by simp at hlen ⊢ <;> omega⟩, Qa rfl (Ya ⟨(cgL (by simp [tkC, QI])), rfl, trivial⟩) ⟨(cgT (by simp [QI])), rfl, rfl, trivial⟩, by simp <;> omega⟩
 ·
  skip
  refine QA ?_
  refine zP (Q6 (b := true) rfl rfl rfl (by simp <;> omega)) ?_
  refine QmI ?_; refine Qg 19 (by kernel_rfl) (by kernel_rfl) ?_; refine QC ?_
  refine zp (Q6 (b := true) rfl rfl rfl (by simp <;> omega)) ?_
  refine QdO ?_; change Ql _ _ _ _ _ _; refine Qx ?_; refine Qg 12 (by kernel_rfl) (by kernel_rfl) ?_; refine zm ?_
  refine zp (Qf rfl rfl rfl 0 rfl _ rfl rfl) ?_; refine Qx ?_; refine zp (Qf rfl rfl rfl 0 rfl _ rfl rfl) ?_; refine Qx ?_
  refine zp (JM rfl rfl rfl 1 rfl (by simp) (by exact fun _ => rfl)) ?_; refine zp (XB rfl rfl) ?_; refine zp (XB rfl rfl) ?_
  change Ql _ _ _ _ _ _; refine Xj ?_; refine zP (Y2 (hc _ _) rfl rfl rfl rfl) ?_; refine Xj ?_
  refine zq ?_ ?_ <;> intro h39
  ·
   have h13 := h39
   refine QA ?_; refine zP (QJ rfl rfl rfl rfl (by exact rfl) (by decide) (by decide)) ?_
   refine QM hN rfl rfl rfl (by simp) rfl rfl (Q2 QaZ _) rfl (by simp [QI] at hlen ⊢ <;> omega) rfl rfl rfl rfl ?_
   refine zS ?_; refine Qc ?_
   exact ⟨⟨(r, [], acc ++ [(x.1, ch x.2 0)]), Qbf h13 (by rw [← hg, Qnx]), by simp at hlen ⊢ <;> omega⟩, Qa rfl (Ya ⟨(cgL (by simp [tkC, QI])), rfl, trivial⟩) ⟨(cgT (by simp [QI])), rfl, rfl, trivial⟩, by simp <;> omega⟩
  have h13 := h39
  refine QN ?_
  exact ⟨⟨(r, [], acc), QcZ h13 (by rw [← hg, Qnx]), by simp at hlen ⊢ <;> omega⟩, Qa rfl (Ya ⟨(cgL (by simp [tkC, QI])), rfl, trivial⟩) ⟨(cgT (by simp [QI])), rfl, rfl, trivial⟩, by simp <;> omega⟩
 skip
 refine QA ?_
 refine zP (Q6 (b := true) rfl rfl rfl (by simp <;> omega)) ?_
 refine QmI ?_; refine Qg 19 (by kernel_rfl) (by kernel_rfl) ?_; refine QC ?_
 refine zp (Q6 (b := false) rfl rfl rfl (by simp <;> omega)) ?_
 refine Qx ?_
 refine zp (Q6 (b := true) rfl rfl rfl (by simp <;> omega)) ?_
 refine QC ?_; refine zp (Qf rfl rfl rfl 0 rfl _ rfl rfl) ?_; refine Qx ?_; refine zp (Qf rfl rfl rfl 0 rfl _ rfl rfl) ?_; refine QA ?_
 change Ql _ _ _ _ _ _; refine zT ?_
 refine zq ?_ ?_ <;> intro h52
 ·
  have h8 := h52
  refine Qg 12 (by kernel_rfl) (by kernel_rfl) ?_; refine zm ?_; refine zp (Qf rfl rfl rfl 0 rfl _ rfl rfl) ?_; refine Qx ?_
  refine zp (Qf rfl rfl rfl 0 rfl _ rfl rfl) ?_; refine Qx ?_; refine zp (JM rfl rfl rfl 1 rfl (by simp) (by exact fun _ => rfl)) ?_
  refine zp (XB rfl rfl) ?_; refine zp (XB rfl rfl) ?_; change Ql _ _ _ _ _ _; refine Xj ?_
  refine zP (Y2 (hc _ _) rfl rfl rfl rfl) ?_; refine Xj ?_
  refine zq ?_ ?_ <;> intro h61
  ·
   have h13 := h61
   refine QA ?_; refine zP (QJ rfl rfl rfl rfl (by exact rfl) (by decide) (by decide)) ?_
   refine QM hN rfl rfl rfl (by simp) rfl rfl (Q2 QaZ _) rfl (by simp [QI] at hlen ⊢ <;> omega) rfl rfl rfl rfl ?_
   refine zS ?_; refine Qc ?_
   exact ⟨⟨(r, y :: s, acc ++ [(x.1, ch x.2 0)]), Qbf h13 (by rw [← hg, Qln (by simpa using h8)]), by simp at hlen ⊢ <;> omega⟩, Qa rfl (Ya ⟨(cgL (by simp [tkC, QI])), rfl, trivial⟩) ⟨(cgT (by simp [QI])), rfl, rfl, trivial⟩, by simp <;> omega⟩
  have h13 := h61
  refine QN ?_
  exact ⟨⟨(r, y :: s, acc), QcZ h13 (by rw [← hg, Qln (by simpa using h8)]), by simp at hlen ⊢ <;> omega⟩, Qa rfl (Ya ⟨(cgL (by simp [tkC, QI])), rfl, trivial⟩) ⟨(cgT (by simp [QI])), rfl, rfl, trivial⟩, by simp <;> omega⟩
 have h8 := h52
 refine Yb ?_; refine Qg 14 (by kernel_rfl) (by kernel_rfl) ?_; refine QC ?_
 refine zp (Q6 (b := false) rfl rfl rfl (by simp <;> omega)) ?_
 refine QC ?_; refine zp (Qf rfl rfl rfl 0 rfl _ rfl rfl) ?_; refine Qx ?_; refine zp (Qf rfl rfl rfl 0 rfl _ rfl rfl) ?_; refine Qz ?_
 change Ql _ _ _ _ _ _; refine zT ?_
 refine zq ?_ ?_ <;> intro h72
 ·
  have h10 := h72
  refine Qg 12 (by kernel_rfl) (by kernel_rfl) ?_; refine zm ?_; refine zp (Qf rfl rfl rfl 0 rfl _ rfl rfl) ?_; refine Qx ?_
  refine zp (Qf rfl rfl rfl 0 rfl _ rfl rfl) ?_; refine Qx ?_; refine zp (JM rfl rfl rfl 1 rfl (by simp) (by exact fun _ => rfl)) ?_
  refine zp (XB rfl rfl) ?_; refine zp (XB rfl rfl) ?_; change Ql _ _ _ _ _ _; refine Xj ?_
  refine zP (Y2 (hc _ _) rfl rfl rfl rfl) ?_; refine Xj ?_
  refine zq ?_ ?_ <;> intro h81
  ·
   have h13 := h81
   refine QA ?_; refine zP (QJ rfl rfl rfl rfl (by exact rfl) (by decide) (by decide)) ?_
   refine QM hN rfl rfl rfl (by simp) rfl rfl (Q2 QaZ _) rfl (by simp [QI] at hlen ⊢ <;> omega) rfl rfl rfl rfl ?_
   refine zS ?_; refine Qc ?_
   exact ⟨⟨(x :: r, s, acc ++ [(y.1, ch 0 y.2)]), Qbf h13 (by rw [← hg, Qlq (by simpa using h8) (by simpa using h10)]), by simp at hlen ⊢ <;> omega⟩, Qa rfl (Ya ⟨(cgL (by simp [tkC, QI])), rfl, trivial⟩) ⟨(cgT (by simp [QI])), rfl, rfl, trivial⟩, by simp <;> omega⟩
  have h13 := h81
  refine QN ?_
  exact ⟨⟨(x :: r, s, acc), QcZ h13 (by rw [← hg, Qlq (by simpa using h8) (by simpa using h10)]), by simp at hlen ⊢ <;> omega⟩, Qa rfl (Ya ⟨(cgL (by simp [tkC, QI])), rfl, trivial⟩) ⟨(cgT (by simp [QI])), rfl, rfl, trivial⟩, by simp <;> omega⟩
 have h10 := h72
 refine Qg 20 (by kernel_rfl) (by kernel_rfl) ?_; refine zm ?_; refine zp (Qf rfl rfl rfl 0 rfl _ rfl rfl) ?_; refine Qx ?_
 refine zp (Qf rfl rfl rfl 0 rfl _ rfl rfl) ?_; refine Qx ?_; refine zp (Qf rfl rfl rfl 0 rfl _ rfl rfl) ?_; refine Qx ?_
 refine zp (JM rfl rfl rfl 1 rfl (by simp) (by exact fun _ => rfl)) ?_; refine zm ?_
 refine zp (JM rfl rfl rfl 1 rfl (by simp) (by exact fun _ => rfl)) ?_; refine zp (XB rfl rfl) ?_; refine zp (XB rfl rfl) ?_
 refine zp (XB rfl rfl) ?_; refine zp (XB rfl rfl) ?_; change Ql _ _ _ _ _ _; refine Xj ?_
 refine zP (Y2 (hc _ _) rfl rfl rfl rfl) ?_; refine Xj ?_
 refine zq ?_ ?_ <;> intro h97
 ·
  have h13 := h97
  refine QA ?_; refine zP (QJ rfl rfl rfl rfl (by exact rfl) (by decide) (by decide)) ?_
  refine QM hN rfl rfl rfl (by simp) rfl rfl (Q2 QaZ _) rfl (by simp [QI] at hlen ⊢ <;> omega) rfl rfl rfl rfl ?_
  refine zS ?_; refine Qc ?_
  exact ⟨⟨(r, s, acc ++ [(x.1, ch x.2 y.2)]), Qbf h13 (by rw [← hg, QkZ (by simpa using h8) (by simpa using h10)]), by simp at hlen ⊢ <;> omega⟩, Qa rfl (Ya ⟨(cgL (by simp [tkC, QI])), rfl, trivial⟩) ⟨(cgT (by simp [QI])), rfl, rfl, trivial⟩, by simp <;> omega⟩
 have h13 := h97
 refine QN ?_
 exact ⟨⟨(r, s, acc), QcZ h13 (by rw [← hg, QkZ (by simpa using h8) (by simpa using h10)]), by simp at hlen ⊢ <;> omega⟩, Qa rfl (Ya ⟨(cgL (by simp [tkC, QI])), rfl, trivial⟩) ⟨(cgT (by simp [QI])), rfl, rfl, trivial⟩, by simp <;> omega⟩
theorem QhF (m n : Int) : FC Tryz.prog 226 [i64 m, i64 n] (i64 (JZ m n)) := by
 refine Qe [4] Tryz.func226 rfl rfl 9 Tryz.ntmps226 (Nat.le_of_ble_eq_true rfl) ?_
 intro E hN
 refine Jc ?_
 refine zq ?_ ?_ <;> intro h3
 ·
  refine Qz ?_; refine zQ ?_
  exact QB (by unfold JZ; split <;> simp_all <;> omega)
 refine Qz ?_; refine zQ ?_
 exact QB (by unfold JZ; split <;> simp_all <;> omega)
theorem Qgc (a b : List Tk) : FC Tryz.prog 206 [tks a, tks b] (tks (QbV a b)) := by
 refine Qe [4] Tryz.func206 rfl rfl 8 Tryz.ntmps206 (Nat.le_of_ble_eq_true rfl) ?_
 intro E hN
 refine Jf ?_; refine zP (Qb (Qmo QhF a b) rfl rfl rfl) ?_; refine zS ?_; refine zQ ?_
 rfl
theorem QcA (a b : List Tk) : FC Tryz.prog 175 [tks a, tks b] (i64 (Qbh a b)) := by
 refine Qe [4] Tryz.func175 rfl rfl 34 Tryz.ntmps175 (Nat.le_of_ble_eq_true rfl) ?_
 intro E hN
 refine Jf ?_; refine zP (Qb (Wh a) rfl rfl rfl) ?_; refine QC ?_
 refine zc 10 ?_ ?_ <;> intro h3
 ·
  refine Jy ?_; refine zQ ?_
  exact QB (by simp_all [Qbh])
 refine Yb ?_; refine uP (XF (m1 (n0 h3))) (Qb (Wh b) rfl rfl rfl) ?_; refine Qx ?_
 refine zq ?_ ?_ <;> intro h4
 ·
  refine Qx ?_; refine zQ ?_
  exact QB (by simp_all [Qbh])
 refine QA ?_; refine zP (Qb (Qgc a b) rfl rfl rfl) ?_; refine Qz ?_; refine zP (Qb (Qgc b a) rfl rfl rfl) ?_; refine Jc ?_
 refine zc 27 ?_ ?_ <;> intro h7
 ·
  refine Qz ?_
  refine zq ?_ ?_ <;> intro h10
  ·
   refine Qx ?_; refine zQ ?_
   exact QB (by simp_all [Qbh])
  refine Jy ?_; refine zQ ?_
  exact QB (by simp_all [Qbh])
 refine QdO ?_
 refine zq ?_ ?_ <;> intro h10
 ·
  refine Qx ?_; refine zQ ?_
  exact QB (by simp_all [Qbh])
 refine Qz ?_; refine zQ ?_
 exact QB (by simp_all [Qbh])
end Go.Proofs.YtnkkokmmeplbgaaGreat
