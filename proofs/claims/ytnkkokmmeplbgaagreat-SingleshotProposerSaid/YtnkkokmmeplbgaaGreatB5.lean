/-
  Contracts: uses of values' fields, allowed and closed names,
-/
import Derived.Test.YtnkkokmmeplbgaaGreatB4
import Derived.Test.YtnkkokmmeplbgaaGreatA3
namespace Go.Proofs.YtnkkokmmeplbgaaGreat
set_option maxRecDepth 100000
set_option maxHeartbeats 1000000
open Go.RowKit
def Q5 (v : Qw) (n li pa en : Bool) : Bool := (n || v.N == 0) && (li || (v.nm.length : Int) == 0) && (pa || (v.ps.length : Int) == 0) && (en || (v.es.length : Int) == 0)
def Yq (only : List Nm) (s : Nm) : Bool := XM s && !(decide ((only.length : Int) > 0) && !X2 only s)
def Jc (only l : List Nm) : Bool := Qq l && l.all (Yq only)
def K8 (l : List Nm) (r : Ru) : Bool := !(JT r.i l && !X2 l r.t)
def Wk (rs : List Ru) (l : List Nm) : Bool := rs.all (K8 l)
def Qcv (last : Int) (t : Tk) : Bool := !(decide (t.1 ≤ last) || decide (t.1 > 63) || decide (t.2 < 1) || decide (t.2 > 1000000000000000))
def QP : Int → List Tk → Bool
 | _, [] => true
 | last, t :: r => Qcv last t && QP t.1 r
theorem QmT {l : List Tk} {k : Nat} {last : Int} {x : Tk} {b : Bool} (hg : QP last (l.drop k) = b) (hx : l[k]? = some x) : b = (Qcv last x && QP x.1 (l.drop (k + 1))) := by
 rw [← hg, XA hx]; rfl
theorem QsL {l : List Tk} {k : Nat} {last : Int} {b : Bool} (hg : QP last (l.drop k) = b) (h : l.length ≤ k) : b = true := by
 rw [← hg, List.drop_of_length_le h]; rfl
def Qc9 (l : List Tk) (p : Int) : Int := match l.find? (fun t => t.1 == p) with | some t => t.2 | none => 0
def Qgm (l : List Tk) (p : Int) : Int := if QP (-1) l then Qc9 l p else 0
def Qb7 (p k : Int) (l : List Tk) : List Tk := if k > 0 then (p, k) :: l else l
def W9 (ch : Int → Int → Int) : Nat → List Tk → List Tk → List Tk
 | 0, _, _ => []
 | _ + 1, [], [] => []
 | f + 1, x :: r, [] => Qb7 x.1 (ch x.2 0) (W9 ch f r [])
 | f + 1, [], y :: s => Qb7 y.1 (ch 0 y.2) (W9 ch f [] s)
 | f + 1, x :: r, y :: s => if x.1 < y.1 then Qb7 x.1 (ch x.2 0) (W9 ch f r (y :: s)) else if y.1 < x.1 then Qb7 y.1 (ch 0 y.2) (W9 ch f (x :: r) s) else Qb7 x.1 (ch x.2 y.2) (W9 ch f r s)
theorem J8 (ch : Int → Int → Int) : ∀ (f g : Nat) (a b : List Tk), a.length + b.length ≤ f → a.length + b.length ≤ g → W9 ch f a b = W9 ch g a b
 | 0, 0, _, _, _, _ => rfl
 | 0, g + 1, a, b, h1, _ => by
  have ha : a = [] := List.eq_nil_of_length_eq_zero (by omega)
  have hb : b = [] := List.eq_nil_of_length_eq_zero (by omega)
  subst ha hb; rfl
 | f + 1, 0, a, b, _, h2 => by
  have ha : a = [] := List.eq_nil_of_length_eq_zero (by omega)
  have hb : b = [] := List.eq_nil_of_length_eq_zero (by omega)
  subst ha hb; rfl
 | f + 1, g + 1, [], [], _, _ => rfl
 | f + 1, g + 1, x :: r, [], h1, h2 => by simp only [List.length_cons, List.length_nil] at h1 h2; simp only [W9]; rw [J8 ch f g r [] (by simp; omega) (by simp; omega)]
 | f + 1, g + 1, [], y :: s, h1, h2 => by simp only [List.length_cons, List.length_nil] at h1 h2; simp only [W9]; rw [J8 ch f g [] s (by simp; omega) (by simp; omega)]
 | f + 1, g + 1, x :: r, y :: s, h1, h2 => by
  simp only [List.length_cons] at h1 h2
  simp only [W9]
  rw [J8 ch f g r (y :: s) (by simp; omega) (by simp; omega), J8 ch f g (x :: r) s (by simp; omega) (by simp; omega), J8 ch f g r s (by omega) (by omega)]
def KC (ch : Int → Int → Int) (a b : List Tk) : List Tk := W9 ch (a.length + b.length) a b
section
variable {ch : Int → Int → Int} {x y : Tk} {r s : List Tk}
theorem QsV : KC ch (x :: r) [] = Qb7 x.1 (ch x.2 0) (KC ch r []) := by
 show W9 ch (r.length + 1 + 0) (x :: r) [] = _
 rfl
theorem Qsn : KC ch [] (y :: s) = Qb7 y.1 (ch 0 y.2) (KC ch [] s) := by
 unfold KC
 rw [J8 ch _ (s.length + 1) [] (y :: s) (by simp) (by simp), J8 ch _ s.length [] s (by simp) (by simp)]
 rfl
theorem Qoi (h : x.1 < y.1) : KC ch (x :: r) (y :: s) = Qb7 x.1 (ch x.2 0) (KC ch r (y :: s)) := by
 unfold KC
 rw [J8 ch _ (r.length + (s.length + 1) + 1) (x :: r) (y :: s) (Nat.le_refl _) (by simp only [List.length_cons]; omega), W9, if_pos h]
 rfl
theorem Qph (h : ¬ x.1 < y.1) (h2 : y.1 < x.1) : KC ch (x :: r) (y :: s) = Qb7 y.1 (ch 0 y.2) (KC ch (x :: r) s) := by
 unfold KC
 rw [J8 ch _ (r.length + 1 + s.length + 1) (x :: r) (y :: s) (Nat.le_refl _) (by simp only [List.length_cons]; omega), W9, if_neg h, if_pos h2]
 rfl
theorem Qpz (h : ¬ x.1 < y.1) (h2 : ¬ y.1 < x.1) : KC ch (x :: r) (y :: s) = Qb7 x.1 (ch x.2 y.2) (KC ch r s) := by
 unfold KC
 rw [J8 ch _ (r.length + s.length + 1 + 1) (x :: r) (y :: s) (Nat.le_refl _) (by simp only [List.length_cons]; omega), W9, if_neg h, if_neg h2, J8 ch _ (r.length + s.length) r s (by omega) (by omega)]
theorem Qem {p k : Int} {l acc u : List Tk} (h : decide (k > 0) = true) (hg : acc ++ Qb7 p k l = u) : (acc ++ [(p, k)]) ++ l = u := by
 rw [← hg, Qb7, if_pos (by simpa using h)]; simp
theorem Qgu {p k : Int} {l acc u : List Tk} (h : decide (k > 0) = false) (hg : acc ++ Qb7 p k l = u) : acc ++ l = u := by
 rw [← hg, Qb7, if_neg (by simpa using h)]
end
theorem Xd (x y : AV) : Qo 2 1 [x, y] = [[x, y]] := rfl
theorem Qdq (t : Tk) : okE 2 (tkC t) = true := rfl
theorem Qpj : ∀ (l : List Tk) (last : Int), QP last l = true → (l.length : Int) ≤ 63 - last ∨ l = []
 | [], _, _ => .inr rfl
 | t :: r, last, h => by
  simp only [QP, Qcv, Bool.and_eq_true, Bool.not_eq_true', Bool.or_eq_false_iff, decide_eq_false_iff_not] at h
  rcases Qpj r t.1 h.2 with h1 | h1
  ·left; simp only [List.length_cons]; omega
  left; subst h1; simp only [List.length_cons, List.length_nil]; omega
theorem QrH {l : List Tk} (h : QP (-1) l = true) : l.length ≤ 64 := by
 rcases Qpj l _ h with h | h
 ·omega
 subst h; simp
def QhJ (ch : Int → Int → Int) (a b : List Tk) : List Tk := if QP (-1) a && QP (-1) b then KC ch a b else []
def Kr (m n : Int) : Int := if m > n then m else 0
def QeI (a b : List Tk) : List Tk := QhJ Kr a b
def Qev (a b : List Tk) : Int := if !(QP (-1) a && QP (-1) b) then 3 else if (QeI a b).length == 0 then (if (QeI b a).length == 0 then 0 else 1) else if (QeI b a).length == 0 then 2 else 3
theorem K3 (v : Qw) (n li pa en : Bool) : FC Tryz.prog 138 [.agg (Qz v), bl n, bl li, bl pa, bl en] (bl (Q5 v n li pa en)) := by
 refine Qg [10] Tryz.func138 rfl rfl 44 Tryz.ntmps138 (Nat.le_of_ble_eq_true rfl) ?_
 intro E hN
 refine JA ?_
 refine zc 12 ?_ ?_ <;> intro h2
 ·
  refine Q4 ?_
  refine zc 19 ?_ ?_ <;> intro h3
  ·
   refine JA ?_
   refine zc 28 ?_ ?_ <;> intro h4
   ·
    refine JA ?_
    refine zc 37 ?_ ?_ <;> intro h5
    ·
     refine Q4 ?_; refine zQ ?_
     exact Qm (by simp_all [Q5])
    refine Q4 ?_; refine zQ ?_
    exact Qm (by simp_all [Q5])
   refine Q4 ?_
   refine zc 35 ?_ ?_ <;> intro h14
   rotate_left
   ·
    refine JA ?_; refine zQ ?_
    exact Qm (by simp_all [Q5])
   refine Qu ?_
   refine zc 37 ?_ ?_ <;> intro h5
   ·
    refine Qv ?_; refine uP (XG h14) (Xu rfl rfl h5 rfl) ?_; refine Qu ?_; refine zQ ?_
    exact Qm (by simp_all [Q5])
   refine Qv ?_; refine uP (XG h14) (Xw rfl rfl h5 rfl) ?_; refine Qu ?_; refine zQ ?_
   exact Qm (by simp_all [Q5])
  refine Q4 ?_
  refine zc 26 ?_ ?_ <;> intro h22
  rotate_left
  ·
   refine QeU ?_; refine zQ ?_
   exact Qm (by simp_all [Q5])
  refine Qu ?_
  refine zc 28 ?_ ?_ <;> intro h4
  ·
   refine Qv ?_; refine uP (XG h22) (Xu rfl rfl h4 rfl) ?_; refine Qv ?_
   refine zc 37 ?_ ?_ <;> intro h5
   ·
    refine Q4 ?_; refine zQ ?_
    exact Qm (by simp_all [Q5])
   refine Q4 ?_; refine zQ ?_
   exact Qm (by simp_all [Q5])
  refine Qv ?_; refine uP (XG h22) (Xw rfl rfl h4 rfl) ?_; refine Qu ?_
  refine zc 35 ?_ ?_ <;> intro h30
  rotate_left
  ·
   refine JA ?_; refine zQ ?_
   exact Qm (by simp_all [Q5])
  refine Qu ?_
  refine zc 37 ?_ ?_ <;> intro h5
  ·
   refine Qv ?_; refine uP (XG h30) (Xu rfl rfl h5 rfl) ?_; refine Qu ?_; refine zQ ?_
   exact Qm (by simp_all [Q5])
  refine Qv ?_; refine uP (XG h30) (Xw rfl rfl h5 rfl) ?_; refine Qu ?_; refine zQ ?_
  exact Qm (by simp_all [Q5])
 refine QF ?_
 refine zc 17 ?_ ?_ <;> intro h37
 rotate_left
 ·
  refine QaA ?_; refine Qs ?_; refine zQ ?_
  exact Qm (by simp_all [Q5])
 refine Qu ?_
 refine zc 19 ?_ ?_ <;> intro h3
 ·
  refine Qv ?_; refine uP (XG h37) (Xu rfl rfl h3 rfl) ?_; refine Qv ?_
  refine zc 28 ?_ ?_ <;> intro h4
  ·
   refine JA ?_
   refine zc 37 ?_ ?_ <;> intro h5
   ·
    refine Q4 ?_; refine zQ ?_
    exact Qm (by simp_all [Q5])
   refine Q4 ?_; refine zQ ?_
   exact Qm (by simp_all [Q5])
  refine Q4 ?_
  refine zc 35 ?_ ?_ <;> intro h45
  rotate_left
  ·
   refine JA ?_; refine zQ ?_
   exact Qm (by simp_all [Q5])
  refine Qu ?_
  refine zc 37 ?_ ?_ <;> intro h5
  ·
   refine Qv ?_; refine uP (XG h45) (Xu rfl rfl h5 rfl) ?_; refine Qu ?_; refine zQ ?_
   exact Qm (by simp_all [Q5])
  refine Qv ?_; refine uP (XG h45) (Xw rfl rfl h5 rfl) ?_; refine Qu ?_; refine zQ ?_
  exact Qm (by simp_all [Q5])
 refine Qv ?_; refine uP (XG h37) (Xw rfl rfl h3 rfl) ?_; refine Qu ?_
 refine zc 26 ?_ ?_ <;> intro h53
 rotate_left
 ·
  refine QeU ?_; refine zQ ?_
  exact Qm (by simp_all [Q5])
 refine Qu ?_
 refine zc 28 ?_ ?_ <;> intro h4
 ·
  refine Qv ?_; refine uP (XG h53) (Xu rfl rfl h4 rfl) ?_; refine Qv ?_
  refine zc 37 ?_ ?_ <;> intro h5
  ·
   refine Q4 ?_; refine zQ ?_
   exact Qm (by simp_all [Q5])
  refine Q4 ?_; refine zQ ?_
  exact Qm (by simp_all [Q5])
 refine Qv ?_; refine uP (XG h53) (Xw rfl rfl h4 rfl) ?_; refine Qu ?_
 refine zc 35 ?_ ?_ <;> intro h61
 rotate_left
 ·
  refine JA ?_; refine zQ ?_
  exact Qm (by simp_all [Q5])
 refine Qu ?_
 refine zc 37 ?_ ?_ <;> intro h5
 ·
  refine Qv ?_; refine uP (XG h61) (Xu rfl rfl h5 rfl) ?_; refine Qu ?_; refine zQ ?_
  exact Qm (by simp_all [Q5])
 refine Qv ?_; refine uP (XG h61) (Xw rfl rfl h5 rfl) ?_; refine Qu ?_; refine zQ ?_
 exact Qm (by simp_all [Q5])
theorem QbB (only l : List Nm) : FC Tryz.prog 139 [X1 only, X1 l] (bl (Jc only l)) := by
 refine Qg [4] Tryz.func139 rfl rfl 31 Tryz.ntmps139 (Nat.le_of_ble_eq_true rfl) ?_
 intro E hN
 refine Jj 1 rfl (fun hl1 => ?_)
 refine XN ?_; refine zP (Qc (Qal l) rfl rfl rfl) ?_; refine Qu ?_
 refine zq ?_ ?_ <;> intro h3
 ·
  have h1 := h3
  refine Qs ?_; refine zQ ?_
  exact Qm (by simp_all [Jc])
 have h1 := h3
 refine JA ?_
 refine Ql (fun x : {k : Nat // k ≤ (l).length ∧ (l.drop k).all (Yq only) = l.all (Yq only)} => ⟨[(0, X1 only), (10, X1 l), (11, i64 l.length), (12, i64 (x.1 : Nat))], [], 0⟩) (fun x => (l).length - x.1) (⟨0, Nat.zero_le _, by simp⟩) ?_ ?_
 ·
  exact Qa rfl (JI ⟨(Q0 (by simp)), rfl, (Xv trivial)⟩) trivial
 rintro ⟨k, hk, hg⟩
 dsimp only
 refine QF ?_
 refine zq ?_ ?_ <;> intro h8
 rotate_left
 ·
  have hge : (l).length ≤ k := by simpa using h8
  refine Qv ?_; refine zQ ?_
  exact Qm (by rw [Jc, XU hg hge]; simp_all)
 have hlt : k < (l).length := by simpa using h8
 obtain ⟨x, hx⟩ := Qn hlt
 refine QF ?_; refine zP (Qf rfl rfl rfl k rfl _ (Qk hx) rfl) ?_; refine Q8 ?_; refine zP (Qc (Qd6 _) rfl rfl rfl) ?_
 refine Qu ?_
 refine zc 19 ?_ ?_ <;> intro h11
 ·
  refine QdD ?_; refine zQ ?_
  exact Qm (by rw [Jc, Q3 hg hx (by simp_all [Yq])]; simp)
 refine Qv ?_
 refine zc 23 ?_ ?_ <;> intro h13
 ·
  refine Qu ?_; refine uP (XG h13) (Qc (Qi6 only _) rfl rfl rfl) ?_; refine Jk ?_; refine uP (Xj (m1 (n0 h11))) (Xu rfl rfl h13 rfl) ?_
  refine Qu ?_
  refine zq ?_ ?_ <;> intro h14
  ·
   refine Qs ?_; refine zQ ?_
   exact Qm (by rw [Jc, Q3 hg hx (by simp_all [Yq])]; simp)
  refine Qv ?_; refine Qb ?_
  exact ⟨⟨k + 1, hlt, Xx hg hx (by simp_all [Yq])⟩, Qa rfl (JO ⟨(Q0 (by dsimp only; omega)), rfl, trivial⟩) trivial, by dsimp only; omega⟩
 refine Qv ?_; refine uP (Xj (m1 (n0 h11))) (Xw rfl rfl h13 rfl) ?_; refine Q4 ?_; refine Qb ?_
 exact ⟨⟨k + 1, hlt, Xx hg hx (by simp_all [Yq])⟩, Qa rfl (JO ⟨(Q0 (by dsimp only; omega)), rfl, trivial⟩) trivial, by dsimp only; omega⟩
theorem Qnr (rs : List Ru) (l : List Nm) : FC Tryz.prog 140 [rus rs, X1 l] (bl (Wk rs l)) := by
 refine Qg [4] Tryz.func140 rfl rfl 25 Tryz.ntmps140 (Nat.le_of_ble_eq_true rfl) ?_
 intro E hN
 refine Jj 0 rfl (fun hl0 => ?_)
 refine X6 ?_
 refine Ql (fun x : {k : Nat // k ≤ (rs).length ∧ (rs.drop k).all (K8 l) = rs.all (K8 l)} => ⟨[(1, X1 l), (7, rus rs), (8, i64 rs.length), (9, i64 (x.1 : Nat))], [], 0⟩) (fun x => (rs).length - x.1) (⟨0, Nat.zero_le _, by simp⟩) ?_ ?_
 ·
  exact Qa rfl (JI ⟨(Q0 (by simp)), rfl, (Xv trivial)⟩) trivial
 rintro ⟨k, hk, hg⟩
 dsimp only
 refine QF ?_
 refine zq ?_ ?_ <;> intro h7
 rotate_left
 ·
  have hge : (rs).length ≤ k := by simpa using h7
  refine Qv ?_; refine zQ ?_
  exact Qm (XU hg hge).symm
 have hlt : k < (rs).length := by simpa using h7
 obtain ⟨x, hx⟩ := Qn hlt
 refine QF ?_; refine zP (Qf rfl rfl rfl k rfl _ (Qk hx) rfl) ?_; refine JA ?_; refine zP (Qc (Qc5 _ l) rfl rfl rfl) ?_
 refine zM ?_
 refine zc 17 ?_ ?_ <;> intro h14
 rotate_left
 ·
  refine X6 ?_; refine Qb ?_
  exact ⟨⟨k + 1, hlt, Xx hg hx (by simp_all [K8])⟩, Qa rfl (JO ⟨(Q0 (by dsimp only; omega)), rfl, trivial⟩) trivial, by dsimp only; omega⟩
 refine Qs ?_; refine uP (XG h14) (Qc (Qi6 l _) rfl rfl rfl) ?_; refine Qs ?_
 refine zq ?_ ?_ <;> intro h17
 ·
  refine Qs ?_; refine zQ ?_
  exact Qm (Q3 hg hx (by simp_all [K8])).symm
 refine Qv ?_; refine Qb ?_
 exact ⟨⟨k + 1, hlt, Xx hg hx (by simp_all [K8])⟩, Qa rfl (JO ⟨(Q0 (by dsimp only; omega)), rfl, trivial⟩) trivial, by dsimp only; omega⟩
theorem Qa9 (l : List Tk) : FC Tryz.prog 173 [tks l] (bl (QP (-1) l)) := by
 refine Qg [2] Tryz.func173 rfl rfl 34 Tryz.ntmps173 (Nat.le_of_ble_eq_true rfl) ?_
 intro E hN
 refine Jj 0 rfl (fun hl0 => ?_)
 refine Qcb ?_
 refine Ql (fun x : {q : Nat × Int // q.1 ≤ l.length ∧ QP q.2 (l.drop q.1) = QP (-1) l} => ⟨[(3, i64 x.1.2), (6, tks l), (7, i64 l.length), (8, i64 (x.1.1 : Nat))], [], 0⟩) (fun x => l.length - x.1.1) (⟨(0, -1), Nat.zero_le _, by simp⟩) ?_ ?_
 ·
  exact Qa rfl (JI ⟨(Q0 (by simp)), rfl, (Xv trivial)⟩) trivial
 rintro ⟨⟨k, last⟩, hk, hg⟩
 dsimp only at hk hg ⊢
 refine QF ?_
 refine zq ?_ ?_ <;> intro h7
 rotate_left
 ·
  have hge : (l).length ≤ k := by simpa using h7
  refine Qv ?_; refine zQ ?_
  exact Qm (QsL hg hge).symm
 have hlt : k < (l).length := by simpa using h7
 obtain ⟨x, hx⟩ := Qn hlt
 have hs := QmT hg hx
 refine QF ?_; refine zP (Qf rfl rfl rfl k rfl _ (Qk hx) rfl) ?_; refine X6 ?_
 refine zc 16 ?_ ?_ <;> intro h14
 ·
  refine QiL ?_; refine zQ ?_
  exact Qm (by rw [hs]; simp_all [Qcv])
 refine QF ?_
 refine zc 21 ?_ ?_ <;> intro h17
 ·
  refine Ki ?_; refine zQ ?_
  exact Qm (by rw [hs]; simp_all [Qcv])
 refine QF ?_
 refine zc 26 ?_ ?_ <;> intro h20
 ·
  refine JA ?_; refine zQ ?_
  exact Qm (by rw [hs]; simp_all [Qcv])
 refine QF ?_
 refine zq ?_ ?_ <;> intro h23
 ·
  refine Qs ?_; refine zQ ?_
  exact Qm (by rw [hs]; simp_all [Qcv])
 have hok : Qcv last x = true := by simp_all [Qcv]
 refine JA ?_; refine Qb ?_
 exact ⟨⟨(k + 1, x.1), hlt, by rw [hs, hok]; rfl⟩, Qa rfl (JO ⟨(Q0 (by dsimp only; omega)), rfl, trivial⟩) trivial, by dsimp only; omega⟩
theorem Qqp {f : FuncId} [Xh Tryz.prog f] {ch : Int → Int → Int} (hc : ∀ m n, FC Tryz.prog f [i64 m, i64 n] (i64 (ch m n))) (a b : List Tk) : FC Tryz.prog 225 [tks a, tks b, .fn f []] (tks (QhJ ch a b)) := by
 refine Qg [6] Tryz.func225 rfl rfl 112 Tryz.ntmps225 (Nat.le_of_ble_eq_true rfl) ?_
 intro E hN
 refine XN ?_; refine zP (Qc (Qa9 a) rfl rfl rfl) ?_; refine Qu ?_
 refine zc 15 ?_ ?_ <;> intro h4
 ·
  refine JA ?_; refine zQ ?_
  exact QdH (by simp_all [QhJ])
 refine Jk ?_; refine uP (Xj (m1 (n0 h4))) (Qc (Qa9 b) rfl rfl rfl) ?_; refine Qs ?_
 refine zq ?_ ?_ <;> intro h5
 ·
  have h1 := h5
  refine Qs ?_; refine zQ ?_
  exact QdH (by simp_all [QhJ])
 have h1 : (QP (-1) a && QP (-1) b) = true := by simp_all
 have ha64 := QrH (l := a) (by simp_all)
 have hb64 := QrH (l := b) (by simp_all)
 refine Q4 ?_; refine QI (Qce rfl 7 192 2 rfl) ?_
 refine Ql (fun x : {q : List Tk × List Tk × List Tk // q.2.2 ++ KC ch q.1 q.2.1 = KC ch a b ∧ q.2.2.length + q.1.length + q.2.1.length ≤ a.length + b.length} => ⟨[(0, tks x.1.1), (1, tks x.1.2.1), (2, .fn f []), (7, .sl (x.1.2.2.map tkC) (some 0))], [(0, .tok 192 2 x.1.2.2.length)], 1⟩) (fun x => x.1.1.length + x.1.2.1.length) (⟨(a, b, []), rfl, by simp⟩) ?_ ?_
 ·
  exact Qa rfl (JH trivial) ⟨rfl, rfl, rfl, trivial⟩
 rintro ⟨⟨u, v, acc⟩, hg, hlen⟩
 dsimp only at hg hlen ⊢
 rcases u with _ | ⟨x, r⟩ <;> rcases v with _ | ⟨y, s⟩
 ·
  skip
  refine QF ?_
  refine zP (QC (b := false) rfl rfl rfl (by simp <;> omega)) ?_
  refine Qs ?_
  refine zP (QC (b := false) rfl rfl rfl (by simp <;> omega)) ?_
  refine XN ?_; refine zQ ?_
  exact QdH (by rw [QhJ, if_pos h1, ← hg]; simp [KC, W9])
 ·
  skip
  refine QF ?_
  refine zP (QC (b := false) rfl rfl rfl (by simp <;> omega)) ?_
  refine Qs ?_
  refine zP (QC (b := true) rfl rfl rfl (by simp <;> omega)) ?_
  refine QeT ?_; refine Qd 19 (by kernel_rfl) (by kernel_rfl) ?_; refine Qu ?_
  refine zp (QC (b := false) rfl rfl rfl (by simp <;> omega)) ?_
  refine Qs ?_
  refine zp (QC (b := false) rfl rfl rfl (by simp <;> omega)) ?_
  refine X6 ?_; change Qj _ _ _ _ _ _; refine Qv ?_; refine Qd 14 (by kernel_rfl) (by kernel_rfl) ?_; refine Qu ?_
  refine zp (QC (b := true) rfl rfl rfl (by simp <;> omega)) ?_
  refine Jv ?_; change Qj _ _ _ _ _ _; refine Qs ?_; refine Qd 12 (by kernel_rfl) (by kernel_rfl) ?_; refine zm ?_
  refine zp (Qf rfl rfl rfl 0 rfl _ rfl rfl) ?_; refine Qs ?_; refine zp (Qf rfl rfl rfl 0 rfl _ rfl rfl) ?_; refine Qs ?_
  refine zp (Y1 rfl rfl rfl 1 rfl (by simp) (by exact fun _ => rfl)) ?_; refine zp (Xb rfl rfl) ?_; refine zp (Xb rfl rfl) ?_
  change Qj _ _ _ _ _ _; refine Q4 ?_; refine zP (WJ (hc _ _) rfl rfl rfl rfl) ?_; refine Q4 ?_
  refine zq ?_ ?_ <;> intro h25
  ·
   have h13 := h25
   refine QF ?_; refine zP (QE rfl rfl rfl rfl (by exact rfl) (by decide) (by decide)) ?_
   refine QG hN rfl rfl rfl (by simp) rfl rfl (QN Qdq _) rfl (by simp [Xd] at hlen ⊢ <;> omega) rfl rfl rfl rfl ?_
   refine zS ?_; refine Qb ?_
   exact ⟨⟨([], s, acc ++ [(y.1, ch 0 y.2)]), Qem h13 (by rw [← hg, Qsn]), by simp at hlen ⊢ <;> omega⟩, Qa rfl (JO ⟨(cgL (by simp [tkC, Xd])), rfl, trivial⟩) ⟨(cgT (by simp [Xd])), rfl, rfl, trivial⟩, by simp <;> omega⟩
  have h13 := h25
  refine Xn ?_
  exact ⟨⟨([], s, acc), Qgu h13 (by rw [← hg, Qsn]), by simp at hlen ⊢ <;> omega⟩, Qa rfl (JO ⟨(cgL (by simp [tkC, Xd])), rfl, trivial⟩) ⟨(cgT (by simp [Xd])), rfl, rfl, trivial⟩, by simp <;> omega⟩
 ·
  skip
  refine QF ?_
  refine zP (QC (b := true) rfl rfl rfl (by simp <;> omega)) ?_
  refine Qpc ?_; refine Qd 19 (by kernel_rfl) (by kernel_rfl) ?_; refine Qu ?_
  refine zp (QC (b := true) rfl rfl rfl (by simp <;> omega)) ?_
  refine Qcb ?_; change Qj _ _ _ _ _ _; refine Qs ?_; refine Qd 12 (by kernel_rfl) (by kernel_rfl) ?_; refine zm ?_
  refine zp (Qf rfl rfl rfl 0 rfl _ rfl rfl) ?_; refine Qs ?_; refine zp (Qf rfl rfl rfl 0 rfl _ rfl rfl) ?_; refine Qs ?_
  refine zp (Y1 rfl rfl rfl 1 rfl (by simp) (by exact fun _ => rfl)) ?_; refine zp (Xb rfl rfl) ?_; refine zp (Xb rfl rfl) ?_
  change Qj _ _ _ _ _ _; refine Q4 ?_; refine zP (WJ (hc _ _) rfl rfl rfl rfl) ?_; refine Q4 ?_
  refine zq ?_ ?_ <;> intro h39
  ·
   have h13 := h39
   refine QF ?_; refine zP (QE rfl rfl rfl rfl (by exact rfl) (by decide) (by decide)) ?_
   refine QG hN rfl rfl rfl (by simp) rfl rfl (QN Qdq _) rfl (by simp [Xd] at hlen ⊢ <;> omega) rfl rfl rfl rfl ?_
   refine zS ?_; refine Qb ?_
   exact ⟨⟨(r, [], acc ++ [(x.1, ch x.2 0)]), Qem h13 (by rw [← hg, QsV]), by simp at hlen ⊢ <;> omega⟩, Qa rfl (JO ⟨(cgL (by simp [tkC, Xd])), rfl, trivial⟩) ⟨(cgT (by simp [Xd])), rfl, rfl, trivial⟩, by simp <;> omega⟩
  have h13 := h39
  refine Xn ?_
  exact ⟨⟨(r, [], acc), Qgu h13 (by rw [← hg, QsV]), by simp at hlen ⊢ <;> omega⟩, Qa rfl (JO ⟨(cgL (by simp [tkC, Xd])), rfl, trivial⟩) ⟨(cgT (by simp [Xd])), rfl, rfl, trivial⟩, by simp <;> omega⟩
 skip
 refine QF ?_
 refine zP (QC (b := true) rfl rfl rfl (by simp <;> omega)) ?_
 refine Qpc ?_; refine Qd 19 (by kernel_rfl) (by kernel_rfl) ?_; refine Qu ?_
 refine zp (QC (b := false) rfl rfl rfl (by simp <;> omega)) ?_
 refine Qs ?_
 refine zp (QC (b := true) rfl rfl rfl (by simp <;> omega)) ?_
 refine Qu ?_; refine zp (Qf rfl rfl rfl 0 rfl _ rfl rfl) ?_; refine Qs ?_; refine zp (Qf rfl rfl rfl 0 rfl _ rfl rfl) ?_; refine QF ?_
 change Qj _ _ _ _ _ _; refine zT ?_
 refine zq ?_ ?_ <;> intro h52
 ·
  have h8 := h52
  refine Qd 12 (by kernel_rfl) (by kernel_rfl) ?_; refine zm ?_; refine zp (Qf rfl rfl rfl 0 rfl _ rfl rfl) ?_; refine Qs ?_
  refine zp (Qf rfl rfl rfl 0 rfl _ rfl rfl) ?_; refine Qs ?_; refine zp (Y1 rfl rfl rfl 1 rfl (by simp) (by exact fun _ => rfl)) ?_
  refine zp (Xb rfl rfl) ?_; refine zp (Xb rfl rfl) ?_; change Qj _ _ _ _ _ _; refine Q4 ?_
  refine zP (WJ (hc _ _) rfl rfl rfl rfl) ?_; refine Q4 ?_
  refine zq ?_ ?_ <;> intro h61
  ·
   have h13 := h61
   refine QF ?_; refine zP (QE rfl rfl rfl rfl (by exact rfl) (by decide) (by decide)) ?_
   refine QG hN rfl rfl rfl (by simp) rfl rfl (QN Qdq _) rfl (by simp [Xd] at hlen ⊢ <;> omega) rfl rfl rfl rfl ?_
   refine zS ?_; refine Qb ?_
   exact ⟨⟨(r, y :: s, acc ++ [(x.1, ch x.2 0)]), Qem h13 (by rw [← hg, Qoi (by simpa using h8)]), by simp at hlen ⊢ <;> omega⟩, Qa rfl (JO ⟨(cgL (by simp [tkC, Xd])), rfl, trivial⟩) ⟨(cgT (by simp [Xd])), rfl, rfl, trivial⟩, by simp <;> omega⟩
  have h13 := h61
  refine Xn ?_
  exact ⟨⟨(r, y :: s, acc), Qgu h13 (by rw [← hg, Qoi (by simpa using h8)]), by simp at hlen ⊢ <;> omega⟩, Qa rfl (JO ⟨(cgL (by simp [tkC, Xd])), rfl, trivial⟩) ⟨(cgT (by simp [Xd])), rfl, rfl, trivial⟩, by simp <;> omega⟩
 have h8 := h52
 refine Jk ?_; refine Qd 14 (by kernel_rfl) (by kernel_rfl) ?_; refine Qu ?_
 refine zp (QC (b := false) rfl rfl rfl (by simp <;> omega)) ?_
 refine Qu ?_; refine zp (Qf rfl rfl rfl 0 rfl _ rfl rfl) ?_; refine Qs ?_; refine zp (Qf rfl rfl rfl 0 rfl _ rfl rfl) ?_; refine Qv ?_
 change Qj _ _ _ _ _ _; refine zT ?_
 refine zq ?_ ?_ <;> intro h72
 ·
  have h10 := h72
  refine Qd 12 (by kernel_rfl) (by kernel_rfl) ?_; refine zm ?_; refine zp (Qf rfl rfl rfl 0 rfl _ rfl rfl) ?_; refine Qs ?_
  refine zp (Qf rfl rfl rfl 0 rfl _ rfl rfl) ?_; refine Qs ?_; refine zp (Y1 rfl rfl rfl 1 rfl (by simp) (by exact fun _ => rfl)) ?_
  refine zp (Xb rfl rfl) ?_; refine zp (Xb rfl rfl) ?_; change Qj _ _ _ _ _ _; refine Q4 ?_
  refine zP (WJ (hc _ _) rfl rfl rfl rfl) ?_; refine Q4 ?_
  refine zq ?_ ?_ <;> intro h81
  ·
   have h13 := h81
   refine QF ?_; refine zP (QE rfl rfl rfl rfl (by exact rfl) (by decide) (by decide)) ?_
   refine QG hN rfl rfl rfl (by simp) rfl rfl (QN Qdq _) rfl (by simp [Xd] at hlen ⊢ <;> omega) rfl rfl rfl rfl ?_
   refine zS ?_; refine Qb ?_
   exact ⟨⟨(x :: r, s, acc ++ [(y.1, ch 0 y.2)]), Qem h13 (by rw [← hg, Qph (by simpa using h8) (by simpa using h10)]), by simp at hlen ⊢ <;> omega⟩, Qa rfl (JO ⟨(cgL (by simp [tkC, Xd])), rfl, trivial⟩) ⟨(cgT (by simp [Xd])), rfl, rfl, trivial⟩, by simp <;> omega⟩
  have h13 := h81
  refine Xn ?_
  exact ⟨⟨(x :: r, s, acc), Qgu h13 (by rw [← hg, Qph (by simpa using h8) (by simpa using h10)]), by simp at hlen ⊢ <;> omega⟩, Qa rfl (JO ⟨(cgL (by simp [tkC, Xd])), rfl, trivial⟩) ⟨(cgT (by simp [Xd])), rfl, rfl, trivial⟩, by simp <;> omega⟩
 have h10 := h72
 refine Qd 20 (by kernel_rfl) (by kernel_rfl) ?_; refine zm ?_; refine zp (Qf rfl rfl rfl 0 rfl _ rfl rfl) ?_; refine Qs ?_
 refine zp (Qf rfl rfl rfl 0 rfl _ rfl rfl) ?_; refine Qs ?_; refine zp (Qf rfl rfl rfl 0 rfl _ rfl rfl) ?_; refine Qs ?_
 refine zp (Y1 rfl rfl rfl 1 rfl (by simp) (by exact fun _ => rfl)) ?_; refine zm ?_
 refine zp (Y1 rfl rfl rfl 1 rfl (by simp) (by exact fun _ => rfl)) ?_; refine zp (Xb rfl rfl) ?_; refine zp (Xb rfl rfl) ?_
 refine zp (Xb rfl rfl) ?_; refine zp (Xb rfl rfl) ?_; change Qj _ _ _ _ _ _; refine Q4 ?_
 refine zP (WJ (hc _ _) rfl rfl rfl rfl) ?_; refine Q4 ?_
 refine zq ?_ ?_ <;> intro h97
 ·
  have h13 := h97
  refine QF ?_; refine zP (QE rfl rfl rfl rfl (by exact rfl) (by decide) (by decide)) ?_
  refine QG hN rfl rfl rfl (by simp) rfl rfl (QN Qdq _) rfl (by simp [Xd] at hlen ⊢ <;> omega) rfl rfl rfl rfl ?_
  refine zS ?_; refine Qb ?_
  exact ⟨⟨(r, s, acc ++ [(x.1, ch x.2 y.2)]), Qem h13 (by rw [← hg, Qpz (by simpa using h8) (by simpa using h10)]), by simp at hlen ⊢ <;> omega⟩, Qa rfl (JO ⟨(cgL (by simp [tkC, Xd])), rfl, trivial⟩) ⟨(cgT (by simp [Xd])), rfl, rfl, trivial⟩, by simp <;> omega⟩
 have h13 := h97
 refine Xn ?_
 exact ⟨⟨(r, s, acc), Qgu h13 (by rw [← hg, Qpz (by simpa using h8) (by simpa using h10)]), by simp at hlen ⊢ <;> omega⟩, Qa rfl (JO ⟨(cgL (by simp [tkC, Xd])), rfl, trivial⟩) ⟨(cgT (by simp [Xd])), rfl, rfl, trivial⟩, by simp <;> omega⟩
theorem Qli (m n : Int) : FC Tryz.prog 226 [i64 m, i64 n] (i64 (Kr m n)) := by
 refine Qg [4] Tryz.func226 rfl rfl 9 Tryz.ntmps226 (Nat.le_of_ble_eq_true rfl) ?_
 intro E hN
 refine Jv ?_
 refine zq ?_ ?_ <;> intro h3
 ·
  refine Qv ?_; refine zQ ?_
  exact QS (by unfold Kr; split <;> simp_all <;> omega)
 refine Qv ?_; refine zQ ?_
 exact QS (by unfold Kr; split <;> simp_all <;> omega)
theorem Qkh (a b : List Tk) : FC Tryz.prog 206 [tks a, tks b] (tks (QeI a b)) := by
 refine Qg [4] Tryz.func206 rfl rfl 8 Tryz.ntmps206 (Nat.le_of_ble_eq_true rfl) ?_
 intro E hN
 refine XN ?_; refine zP (Qc (Qqp Qli a b) rfl rfl rfl) ?_; refine zS ?_; refine zQ ?_
 rfl
theorem QfS (a b : List Tk) : FC Tryz.prog 175 [tks a, tks b] (i64 (Qev a b)) := by
 refine Qg [4] Tryz.func175 rfl rfl 34 Tryz.ntmps175 (Nat.le_of_ble_eq_true rfl) ?_
 intro E hN
 refine XN ?_; refine zP (Qc (Qa9 a) rfl rfl rfl) ?_; refine Qu ?_
 refine zc 10 ?_ ?_ <;> intro h3
 ·
  refine JA ?_; refine zQ ?_
  exact QS (by simp_all [Qev])
 refine Jk ?_; refine uP (Xj (m1 (n0 h3))) (Qc (Qa9 b) rfl rfl rfl) ?_; refine Qs ?_
 refine zq ?_ ?_ <;> intro h4
 ·
  refine Qs ?_; refine zQ ?_
  exact QS (by simp_all [Qev])
 refine QF ?_; refine zP (Qc (Qkh a b) rfl rfl rfl) ?_; refine Qv ?_; refine zP (Qc (Qkh b a) rfl rfl rfl) ?_; refine Jv ?_
 refine zc 27 ?_ ?_ <;> intro h7
 ·
  refine Qv ?_
  refine zq ?_ ?_ <;> intro h10
  ·
   refine Qs ?_; refine zQ ?_
   exact QS (by simp_all [Qev])
  refine JA ?_; refine zQ ?_
  exact QS (by simp_all [Qev])
 refine Qcb ?_
 refine zq ?_ ?_ <;> intro h10
 ·
  refine Qs ?_; refine zQ ?_
  exact QS (by simp_all [Qev])
 refine Qv ?_; refine zQ ?_
 exact QS (by simp_all [Qev])
end Go.Proofs.YtnkkokmmeplbgaaGreat
