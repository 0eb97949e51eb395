/-
  Contracts: uses of values' fields, allowed and closed names,
-/
import Derived.Test.YtnkkokmmeplbgaaGreatB4
import Derived.Test.YtnkkokmmeplbgaaGreatA3
namespace Go.Proofs.YtnkkokmmeplbgaaGreat
set_option maxRecDepth 100000
set_option maxHeartbeats 1000000
open Go.RowKit
def Q9 (v : Qp) (n li pa en : Bool) : Bool := (n || v.N == 0) && (li || (v.nm.length : Int) == 0) && (pa || (v.ps.length : Int) == 0) && (en || (v.es.length : Int) == 0)
def YE (only : List Nm) (s : Nm) : Bool := XP s && !(decide ((only.length : Int) > 0) && !X6 only s)
def Jg (only l : List Nm) : Bool := Qt l && l.all (YE only)
def WB (l : List Nm) (r : Ru) : Bool := !(J6 r.i l && !X6 l r.t)
def WS (rs : List Ru) (l : List Nm) : Bool := rs.all (WB l)
def Qdd (last : Int) (t : Tk) : Bool := !(decide (t.1 ≤ last) || decide (t.1 > 63) || decide (t.2 < 1) || decide (t.2 > 1000000000000000))
def QV : Int → List Tk → Bool
 | _, [] => true
 | last, t :: r => Qdd last t && QV t.1 r
theorem Qnj {l : List Tk} {k : Nat} {last : Int} {x : Tk} {b : Bool} (hg : QV last (l.drop k) = b) (hx : l[k]? = some x) : b = (Qdd last x && QV x.1 (l.drop (k + 1))) := by
 rw [← hg, XC hx]; rfl
theorem Qvd {l : List Tk} {k : Nat} {last : Int} {b : Bool} (hg : QV last (l.drop k) = b) (h : l.length ≤ k) : b = true := by
 rw [← hg, List.drop_of_length_le h]; rfl
def QdH (l : List Tk) (p : Int) : Int := match l.find? (fun t => t.1 == p) with | some t => t.2 | none => 0
def QgH (l : List Tk) (p : Int) : Int := if QV (-1) l then QdH l p else 0
def QcB (p k : Int) (l : List Tk) : List Tk := if k > 0 then (p, k) :: l else l
def QaS (ch : Int → Int → Int) : Nat → List Tk → List Tk → List Tk
 | 0, _, _ => []
 | _ + 1, [], [] => []
 | f + 1, x :: r, [] => QcB x.1 (ch x.2 0) (QaS ch f r [])
 | f + 1, [], y :: s => QcB y.1 (ch 0 y.2) (QaS ch f [] s)
 | f + 1, x :: r, y :: s => if x.1 < y.1 then QcB x.1 (ch x.2 0) (QaS ch f r (y :: s)) else if y.1 < x.1 then QcB y.1 (ch 0 y.2) (QaS ch f (x :: r) s) else QcB x.1 (ch x.2 y.2) (QaS ch f r s)
theorem Yl (ch : Int → Int → Int) : ∀ (f g : Nat) (a b : List Tk), a.length + b.length ≤ f → a.length + b.length ≤ g → QaS ch f a b = QaS ch g a b
 | 0, 0, _, _, _, _ => rfl
 | 0, g + 1, a, b, h1, _ => by
  have ha : a = [] := List.eq_nil_of_length_eq_zero (by omega)
  have hb : b = [] := List.eq_nil_of_length_eq_zero (by omega)
  subst ha hb; rfl
 | f + 1, 0, a, b, _, h2 => by
  have ha : a = [] := List.eq_nil_of_length_eq_zero (by omega)
  have hb : b = [] := List.eq_nil_of_length_eq_zero (by omega)
  subst ha hb; rfl
 | f + 1, g + 1, [], [], _, _ => rfl
 | f + 1, g + 1, x :: r, [], h1, h2 => by simp only [List.length_cons, List.length_nil] at h1 h2; simp only [QaS]; rw [Yl ch f g r [] (by simp; omega) (by simp; omega)]
 | f + 1, g + 1, [], y :: s, h1, h2 => by simp only [List.length_cons, List.length_nil] at h1 h2; simp only [QaS]; rw [Yl ch f g [] s (by simp; omega) (by simp; omega)]
 | f + 1, g + 1, x :: r, y :: s, h1, h2 => by
  simp only [List.length_cons] at h1 h2
  simp only [QaS]
  rw [Yl ch f g r (y :: s) (by simp; omega) (by simp; omega), Yl ch f g (x :: r) s (by simp; omega) (by simp; omega), Yl ch f g r s (by omega) (by omega)]
def Wb (ch : Int → Int → Int) (a b : List Tk) : List Tk := QaS ch (a.length + b.length) a b
section
variable {ch : Int → Int → Int} {x y : Tk} {r s : List Tk}
theorem QuA : Wb ch (x :: r) [] = QcB x.1 (ch x.2 0) (Wb ch r []) := by
 show QaS ch (r.length + 1 + 0) (x :: r) [] = _
 rfl
theorem Qvm : Wb ch [] (y :: s) = QcB y.1 (ch 0 y.2) (Wb ch [] s) := by
 unfold Wb
 rw [Yl ch _ (s.length + 1) [] (y :: s) (by simp) (by simp), Yl ch _ s.length [] s (by simp) (by simp)]
 rfl
theorem QrV (h : x.1 < y.1) : Wb ch (x :: r) (y :: s) = QcB x.1 (ch x.2 0) (Wb ch r (y :: s)) := by
 unfold Wb
 rw [Yl ch _ (r.length + (s.length + 1) + 1) (x :: r) (y :: s) (Nat.le_refl _) (by simp only [List.length_cons]; omega), QaS, if_pos h]
 rfl
theorem Qr0 (h : ¬ x.1 < y.1) (h2 : y.1 < x.1) : Wb ch (x :: r) (y :: s) = QcB y.1 (ch 0 y.2) (Wb ch (x :: r) s) := by
 unfold Wb
 rw [Yl ch _ (r.length + 1 + s.length + 1) (x :: r) (y :: s) (Nat.le_refl _) (by simp only [List.length_cons]; omega), QaS, if_neg h, if_pos h2]
 rfl
theorem Qrl (h : ¬ x.1 < y.1) (h2 : ¬ y.1 < x.1) : Wb ch (x :: r) (y :: s) = QcB x.1 (ch x.2 y.2) (Wb ch r s) := by
 unfold Wb
 rw [Yl ch _ (r.length + s.length + 1 + 1) (x :: r) (y :: s) (Nat.le_refl _) (by simp only [List.length_cons]; omega), QaS, if_neg h, if_neg h2, Yl ch _ (r.length + s.length) r s (by omega) (by omega)]
theorem Qez {p k : Int} {l acc u : List Tk} (h : decide (k > 0) = true) (hg : acc ++ QcB p k l = u) : (acc ++ [(p, k)]) ++ l = u := by
 rw [← hg, QcB, if_pos (by simpa using h)]; simp
theorem QgN {p k : Int} {l acc u : List Tk} (h : decide (k > 0) = false) (hg : acc ++ QcB p k l = u) : acc ++ l = u := by
 rw [← hg, QcB, if_neg (by simpa using h)]
end
theorem Xe (x y : AV) : JI 2 1 [x, y] = [[x, y]] := rfl
theorem Qed (t : Tk) : okE 2 (tkC t) = true := rfl
theorem Qrw : ∀ (l : List Tk) (last : Int), QV last l = true → (l.length : Int) ≤ 63 - last ∨ l = []
 | [], _, _ => .inr rfl
 | t :: r, last, h => by
  simp only [QV, Qdd, Bool.and_eq_true, Bool.not_eq_true', Bool.or_eq_false_iff, decide_eq_false_iff_not] at h
  rcases Qrw r t.1 h.2 with h1 | h1
  ·left; simp only [List.length_cons]; omega
  left; subst h1; simp only [List.length_cons, List.length_nil]; omega
theorem Qub {l : List Tk} (h : QV (-1) l = true) : l.length ≤ 64 := by
 rcases Qrw l _ h with h | h
 ·omega
 subst h; simp
def QiU (ch : Int → Int → Int) (a b : List Tk) : List Tk := if QV (-1) a && QV (-1) b then Wb ch a b else []
def KO (m n : Int) : Int := if m > n then m else 0
def Qfz (a b : List Tk) : List Tk := QiU KO a b
def QeB (a b : List Tk) : Int := if !(QV (-1) a && QV (-1) b) then 3 else if (Qfz a b).length == 0 then (if (Qfz b a).length == 0 then 0 else 1) else if (Qfz b a).length == 0 then 2 else 3
theorem WC (v : Qp) (n li pa en : Bool) : FC Tryz.prog 138 [.agg (QF v), bl n, bl li, bl pa, bl en] (bl (Q9 v n li pa en)) := by
 refine Qh [10] Tryz.func138 rfl rfl 44 Tryz.ntmps138 (Nat.le_of_ble_eq_true rfl) ?_
 intro E hN;refine X3 ?_
 refine zc 12 ?_ ?_ <;> intro h2
 ·refine Xg ?_
  refine zc 19 ?_ ?_ <;> intro h3
  ·refine X3 ?_
   refine zc 28 ?_ ?_ <;> intro h4
   ·refine X3 ?_
    refine zc 37 ?_ ?_ <;> intro h5
    ·refine Xg ?_;refine zQ ?_;exact Qo (by simp_all [Q9])
    refine Xg ?_;refine zQ ?_;exact Qo (by simp_all [Q9])
   refine Xg ?_
   refine zc 35 ?_ ?_ <;> intro h14
   rotate_left
   ·refine X3 ?_;refine zQ ?_;exact Qo (by simp_all [Q9])
   refine QH ?_
   refine zc 37 ?_ ?_ <;> intro h5
   ·refine QC ?_;refine uP (XO h14) (XF rfl rfl h5 rfl) ?_;refine QH ?_;refine zQ ?_;exact Qo (by simp_all [Q9])
   refine QC ?_;refine uP (XO h14) (Xx rfl rfl h5 rfl) ?_;refine QH ?_;refine zQ ?_;exact Qo (by simp_all [Q9])
  refine Xg ?_
  refine zc 26 ?_ ?_ <;> intro h22
  rotate_left
  ·refine Wn ?_;refine zQ ?_;exact Qo (by simp_all [Q9])
  refine QH ?_
  refine zc 28 ?_ ?_ <;> intro h4
  ·refine QC ?_;refine uP (XO h22) (XF rfl rfl h4 rfl) ?_;refine QC ?_
   refine zc 37 ?_ ?_ <;> intro h5
   ·refine Xg ?_;refine zQ ?_;exact Qo (by simp_all [Q9])
   refine Xg ?_;refine zQ ?_;exact Qo (by simp_all [Q9])
  refine QC ?_;refine uP (XO h22) (Xx rfl rfl h4 rfl) ?_;refine QH ?_
  refine zc 35 ?_ ?_ <;> intro h30
  rotate_left
  ·refine X3 ?_;refine zQ ?_;exact Qo (by simp_all [Q9])
  refine QH ?_
  refine zc 37 ?_ ?_ <;> intro h5
  ·refine QC ?_;refine uP (XO h30) (XF rfl rfl h5 rfl) ?_;refine QH ?_;refine zQ ?_;exact Qo (by simp_all [Q9])
  refine QC ?_;refine uP (XO h30) (Xx rfl rfl h5 rfl) ?_;refine QH ?_;refine zQ ?_;exact Qo (by simp_all [Q9])
 refine Qy ?_
 refine zc 17 ?_ ?_ <;> intro h37
 rotate_left
 ·refine QaZ ?_;refine QD ?_;refine zQ ?_;exact Qo (by simp_all [Q9])
 refine QH ?_
 refine zc 19 ?_ ?_ <;> intro h3
 ·refine QC ?_;refine uP (XO h37) (XF rfl rfl h3 rfl) ?_;refine QC ?_
  refine zc 28 ?_ ?_ <;> intro h4
  ·refine X3 ?_
   refine zc 37 ?_ ?_ <;> intro h5
   ·refine Xg ?_;refine zQ ?_;exact Qo (by simp_all [Q9])
   refine Xg ?_;refine zQ ?_;exact Qo (by simp_all [Q9])
  refine Xg ?_
  refine zc 35 ?_ ?_ <;> intro h45
  rotate_left
  ·refine X3 ?_;refine zQ ?_;exact Qo (by simp_all [Q9])
  refine QH ?_
  refine zc 37 ?_ ?_ <;> intro h5
  ·refine QC ?_;refine uP (XO h45) (XF rfl rfl h5 rfl) ?_;refine QH ?_;refine zQ ?_;exact Qo (by simp_all [Q9])
  refine QC ?_;refine uP (XO h45) (Xx rfl rfl h5 rfl) ?_;refine QH ?_;refine zQ ?_;exact Qo (by simp_all [Q9])
 refine QC ?_;refine uP (XO h37) (Xx rfl rfl h3 rfl) ?_;refine QH ?_
 refine zc 26 ?_ ?_ <;> intro h53
 rotate_left
 ·refine Wn ?_;refine zQ ?_;exact Qo (by simp_all [Q9])
 refine QH ?_
 refine zc 28 ?_ ?_ <;> intro h4
 ·refine QC ?_;refine uP (XO h53) (XF rfl rfl h4 rfl) ?_;refine QC ?_
  refine zc 37 ?_ ?_ <;> intro h5
  ·refine Xg ?_;refine zQ ?_;exact Qo (by simp_all [Q9])
  refine Xg ?_;refine zQ ?_;exact Qo (by simp_all [Q9])
 refine QC ?_;refine uP (XO h53) (Xx rfl rfl h4 rfl) ?_;refine QH ?_
 refine zc 35 ?_ ?_ <;> intro h61
 rotate_left
 ·refine X3 ?_;refine zQ ?_;exact Qo (by simp_all [Q9])
 refine QH ?_
 refine zc 37 ?_ ?_ <;> intro h5
 ·refine QC ?_;refine uP (XO h61) (XF rfl rfl h5 rfl) ?_;refine QH ?_;refine zQ ?_;exact Qo (by simp_all [Q9])
 refine QC ?_;refine uP (XO h61) (Xx rfl rfl h5 rfl) ?_;refine QH ?_;refine zQ ?_;exact Qo (by simp_all [Q9])
theorem Qck (only l : List Nm) : FC Tryz.prog 139 [XS only, XS l] (bl (Jg only l)) := by
 refine Qh [4] Tryz.func139 rfl rfl 31 Tryz.ntmps139 (Nat.le_of_ble_eq_true rfl) ?_
 intro E hN;refine Jq 1 rfl (fun hl1 => ?_);refine Xo ?_;refine zP (Qd (Qa2 l) rfl rfl rfl) ?_;refine QH ?_
 refine zq ?_ ?_ <;> intro h3
 ·have h1 := h3
  refine QD ?_;refine zQ ?_;exact Qo (by simp_all [Jg])
 have h1 := h3
 refine X3 ?_;refine Qm (fun x : {k : Nat // k ≤ (l).length ∧ (l.drop k).all (YE only) = l.all (YE only)} => ⟨[(0, XS only), (10, XS l), (11, i64 l.length), (12, i64 (x.1 : Nat))], [], 0⟩) (fun x => (l).length - x.1) (⟨0, Nat.zero_le _, by simp⟩) ?_ ?_
 ·exact Qa rfl (Yf ⟨(Y6 (by simp)), rfl, (XE trivial)⟩) trivial
 rintro ⟨k, hk, hg⟩;dsimp only;refine Qy ?_
 refine zq ?_ ?_ <;> intro h8
 rotate_left
 ·have hge : (l).length ≤ k := by simpa using h8
  refine QC ?_;refine zQ ?_;exact Qo (by rw [Jg, X4 hg hge]; simp_all)
 have hlt : k < (l).length := by simpa using h8
 obtain ⟨x, hx⟩ := Qq hlt;refine Qy ?_;refine zP (Qf rfl rfl rfl k rfl _ (Qi hx) rfl) ?_;refine Xk ?_;refine zP (Qd (QeK _) rfl rfl rfl) ?_;refine QH ?_
 refine zc 19 ?_ ?_ <;> intro h11
 ·refine QdK ?_;refine zQ ?_;exact Qo (by rw [Jg, Q6 hg hx (by simp_all [YE])]; simp)
 refine QC ?_
 refine zc 23 ?_ ?_ <;> intro h13
 ·refine QH ?_;refine uP (XO h13) (Qd (Qjb only _) rfl rfl rfl) ?_;refine JB ?_;refine uP (X0 (m1 (n0 h11))) (XF rfl rfl h13 rfl) ?_;refine QH ?_
  refine zq ?_ ?_ <;> intro h14
  ·refine QD ?_;refine zQ ?_;exact Qo (by rw [Jg, Q6 hg hx (by simp_all [YE])]; simp)
  refine QC ?_;refine Qb ?_;exact ⟨⟨k + 1, hlt, XG hg hx (by simp_all [YE])⟩, Qa rfl (JZ ⟨X5, rfl, trivial⟩) trivial, by dsimp only; omega⟩
 refine QC ?_;refine uP (X0 (m1 (n0 h11))) (Xx rfl rfl h13 rfl) ?_;refine Xg ?_;refine Qb ?_;exact ⟨⟨k + 1, hlt, XG hg hx (by simp_all [YE])⟩, Qa rfl (JZ ⟨X5, rfl, trivial⟩) trivial, by dsimp only; omega⟩
theorem Qpg (rs : List Ru) (l : List Nm) : FC Tryz.prog 140 [rus rs, XS l] (bl (WS rs l)) := by
 refine Qh [4] Tryz.func140 rfl rfl 25 Tryz.ntmps140 (Nat.le_of_ble_eq_true rfl) ?_
 intro E hN;refine Jq 0 rfl (fun hl0 => ?_);refine Jx ?_;refine Qm (fun x : {k : Nat // k ≤ (rs).length ∧ (rs.drop k).all (WB l) = rs.all (WB l)} => ⟨[(1, XS l), (7, rus rs), (8, i64 rs.length), (9, i64 (x.1 : Nat))], [], 0⟩) (fun x => (rs).length - x.1) (⟨0, Nat.zero_le _, by simp⟩) ?_ ?_
 ·exact Qa rfl (Yf ⟨(Y6 (by simp)), rfl, (XE trivial)⟩) trivial
 rintro ⟨k, hk, hg⟩;dsimp only;refine Qy ?_
 refine zq ?_ ?_ <;> intro h7
 rotate_left
 ·have hge : (rs).length ≤ k := by simpa using h7
  refine QC ?_;refine zQ ?_;exact Qo (X4 hg hge).symm
 have hlt : k < (rs).length := by simpa using h7
 obtain ⟨x, hx⟩ := Qq hlt;refine Qy ?_;refine zP (Qf rfl rfl rfl k rfl _ (Qi hx) rfl) ?_;refine X3 ?_;refine zP (Qd (Qdm _ l) rfl rfl rfl) ?_;refine zM ?_
 refine zc 17 ?_ ?_ <;> intro h14
 rotate_left
 ·refine Jx ?_;refine Qb ?_;exact ⟨⟨k + 1, hlt, XG hg hx (by simp_all [WB])⟩, Qa rfl (JZ ⟨X5, rfl, trivial⟩) trivial, by dsimp only; omega⟩
 refine QD ?_;refine uP (XO h14) (Qd (Qjb l _) rfl rfl rfl) ?_;refine QD ?_
 refine zq ?_ ?_ <;> intro h17
 ·refine QD ?_;refine zQ ?_;exact Qo (Q6 hg hx (by simp_all [WB])).symm
 refine QC ?_;refine Qb ?_;exact ⟨⟨k + 1, hlt, XG hg hx (by simp_all [WB])⟩, Qa rfl (JZ ⟨X5, rfl, trivial⟩) trivial, by dsimp only; omega⟩
theorem Qb3 (l : List Tk) : FC Tryz.prog 173 [tks l] (bl (QV (-1) l)) := by
 refine Qh [2] Tryz.func173 rfl rfl 34 Tryz.ntmps173 (Nat.le_of_ble_eq_true rfl) ?_
 intro E hN;refine Jq 0 rfl (fun hl0 => ?_);refine QaL ?_;refine Qm (fun x : {q : Nat × Int // q.1 ≤ l.length ∧ QV q.2 (l.drop q.1) = QV (-1) l} => ⟨[(3, i64 x.1.2), (6, tks l), (7, i64 l.length), (8, i64 (x.1.1 : Nat))], [], 0⟩) (fun x => l.length - x.1.1) (⟨(0, -1), Nat.zero_le _, by simp⟩) ?_ ?_
 ·exact Qa rfl (Yf ⟨(Y6 (by simp)), rfl, (XE trivial)⟩) trivial
 rintro ⟨⟨k, last⟩, hk, hg⟩;dsimp only at hk hg ⊢;refine Qy ?_
 refine zq ?_ ?_ <;> intro h7
 rotate_left
 ·have hge : (l).length ≤ k := by simpa using h7
  refine QC ?_;refine zQ ?_;exact Qo (Qvd hg hge).symm
 have hlt : k < (l).length := by simpa using h7
 obtain ⟨x, hx⟩ := Qq hlt
 have hs := Qnj hg hx
 refine Qy ?_;refine zP (Qf rfl rfl rfl k rfl _ (Qi hx) rfl) ?_;refine Jx ?_
 refine zc 16 ?_ ?_ <;> intro h14
 ·refine Qes ?_;refine zQ ?_;exact Qo (by rw [hs]; simp_all [Qdd])
 refine Qy ?_
 refine zc 21 ?_ ?_ <;> intro h17
 ·refine YI ?_;refine zQ ?_;exact Qo (by rw [hs]; simp_all [Qdd])
 refine Qy ?_
 refine zc 26 ?_ ?_ <;> intro h20
 ·refine X3 ?_;refine zQ ?_;exact Qo (by rw [hs]; simp_all [Qdd])
 refine Qy ?_
 refine zq ?_ ?_ <;> intro h23
 ·refine QD ?_;refine zQ ?_;exact Qo (by rw [hs]; simp_all [Qdd])
 have hok : Qdd last x = true := by simp_all [Qdd]
 refine X3 ?_;refine Qb ?_;exact ⟨⟨(k + 1, x.1), hlt, by rw [hs, hok]; rfl⟩, Qa rfl (JZ ⟨X5, rfl, trivial⟩) trivial, by dsimp only; omega⟩
theorem Qta {f : FuncId} [Q8 Tryz.prog f] {ch : Int → Int → Int} (hc : ∀ m n, FC Tryz.prog f [i64 m, i64 n] (i64 (ch m n))) (a b : List Tk) : FC Tryz.prog 225 [tks a, tks b, .fn f []] (tks (QiU ch a b)) := by
 refine Qh [6] Tryz.func225 rfl rfl 112 Tryz.ntmps225 (Nat.le_of_ble_eq_true rfl) ?_
 intro E hN;refine Xo ?_;refine zP (Qd (Qb3 a) rfl rfl rfl) ?_;refine QH ?_
 refine zc 15 ?_ ?_ <;> intro h4
 ·refine X3 ?_;refine zQ ?_;exact Qd9 (by simp_all [QiU])
 refine JB ?_;refine uP (X0 (m1 (n0 h4))) (Qd (Qb3 b) rfl rfl rfl) ?_;refine QD ?_
 refine zq ?_ ?_ <;> intro h5
 ·have h1 := h5
  refine QD ?_;refine zQ ?_;exact Qd9 (by simp_all [QiU])
 have h1 : (QV (-1) a && QV (-1) b) = true := by simp_all
 have ha64 := Qub (l := a) (by simp_all)
 have hb64 := Qub (l := b) (by simp_all)
 refine Xg ?_;refine Qx (Qk4 rfl 7 192 2 rfl) ?_;refine Qm (fun x : {q : List Tk × List Tk × List Tk // q.2.2 ++ Wb ch q.1 q.2.1 = Wb ch a b ∧ q.2.2.length + q.1.length + q.2.1.length ≤ a.length + b.length} => ⟨[(0, tks x.1.1), (1, tks x.1.2.1), (2, .fn f []), (7, .sl (x.1.2.2.map tkC) (some 0))], [(0, .tok 192 2 x.1.2.2.length)], 1⟩) (fun x => x.1.1.length + x.1.2.1.length) (⟨(a, b, []), rfl, by simp⟩) ?_ ?_
 ·exact Qa rfl (YO trivial) ⟨rfl, rfl, rfl, trivial⟩
 rintro ⟨⟨u, v, acc⟩, hg, hlen⟩;dsimp only at hg hlen ⊢
 rcases u with _ | ⟨x, r⟩ <;> rcases v with _ | ⟨y, s⟩
 ·skip
  refine Qy ?_;refine zP (Ql (b := false) rfl rfl rfl (by simp <;> omega)) ?_;refine QD ?_;refine zP (Ql (b := false) rfl rfl rfl (by simp <;> omega)) ?_;refine Xo ?_;refine zQ ?_;exact Qd9 (by rw [QiU, if_pos h1, ← hg]; simp [Wb, QaS])
 ·skip
  refine Qy ?_;refine zP (Ql (b := false) rfl rfl rfl (by simp <;> omega)) ?_;refine QD ?_;refine zP (Ql (b := true) rfl rfl rfl (by simp <;> omega)) ?_;refine Qd8 ?_;refine zD 19 ?_;refine QH ?_;refine zp (Ql (b := false) rfl rfl rfl (by simp <;> omega)) ?_;refine QD ?_;refine zp (Ql (b := false) rfl rfl rfl (by simp <;> omega)) ?_;refine QaL ?_;refine zD 14 ?_;refine QH ?_;refine zp (Ql (b := true) rfl rfl rfl (by simp <;> omega)) ?_;refine YI ?_;refine zD 12 ?_;refine zm ?_;refine zp (Qf rfl rfl rfl 0 rfl _ rfl rfl) ?_;refine QD ?_
  refine zp (Qf rfl rfl rfl 0 rfl _ rfl rfl) ?_;refine QD ?_;refine zp (Kt rfl rfl rfl 1 rfl (by simp) (by exact fun _ => rfl)) ?_;refine zp (JC rfl rfl) ?_;refine zp (JC rfl rfl) ?_;refine Xg ?_;refine zP (Qar (hc _ _) rfl rfl rfl rfl) ?_;refine Xg ?_
  refine zq ?_ ?_ <;> intro h25
  ·have h13 := h25
   refine Qy ?_;refine zP (QG rfl rfl rfl rfl (by exact rfl) (by decide) (by decide)) ?_;refine QM hN rfl rfl rfl (by simp) rfl rfl (QP Qed _) rfl (by simp [Xe] at hlen ⊢ <;> omega) rfl rfl rfl rfl ?_;refine zS ?_;refine Qb ?_;exact ⟨⟨([], s, acc ++ [(y.1, ch 0 y.2)]), Qez h13 (by rw [← hg, Qvm]), by simp at hlen ⊢ <;> omega⟩, Qa rfl (JZ ⟨(cgL (by simp [tkC, Xe])), rfl, trivial⟩) ⟨(cgT (by simp [Xe])), rfl, rfl, trivial⟩, by simp <;> omega⟩
  have h13 := h25
  refine QO ?_;exact ⟨⟨([], s, acc), QgN h13 (by rw [← hg, Qvm]), by simp at hlen ⊢ <;> omega⟩, Qa rfl (JZ ⟨(cgL (by simp [tkC, Xe])), rfl, trivial⟩) ⟨(cgT (by simp [Xe])), rfl, rfl, trivial⟩, by simp <;> omega⟩
 ·skip
  refine Qy ?_;refine zP (Ql (b := true) rfl rfl rfl (by simp <;> omega)) ?_;refine QjC ?_;refine zD 19 ?_;refine QH ?_;refine zp (Ql (b := true) rfl rfl rfl (by simp <;> omega)) ?_;refine Qes ?_;refine zD 12 ?_;refine zm ?_;refine zp (Qf rfl rfl rfl 0 rfl _ rfl rfl) ?_;refine QD ?_;refine zp (Qf rfl rfl rfl 0 rfl _ rfl rfl) ?_;refine QD ?_;refine zp (Kt rfl rfl rfl 1 rfl (by simp) (by exact fun _ => rfl)) ?_;refine zp (JC rfl rfl) ?_;refine zp (JC rfl rfl) ?_;refine Xg ?_;refine zP (Qar (hc _ _) rfl rfl rfl rfl) ?_;refine Xg ?_
  refine zq ?_ ?_ <;> intro h39
  ·have h13 := h39
   refine Qy ?_;refine zP (QG rfl rfl rfl rfl (by exact rfl) (by decide) (by decide)) ?_;refine QM hN rfl rfl rfl (by simp) rfl rfl (QP Qed _) rfl (by simp [Xe] at hlen ⊢ <;> omega) rfl rfl rfl rfl ?_;refine zS ?_;refine Qb ?_;exact ⟨⟨(r, [], acc ++ [(x.1, ch x.2 0)]), Qez h13 (by rw [← hg, QuA]), by simp at hlen ⊢ <;> omega⟩, Qa rfl (JZ ⟨(cgL (by simp [tkC, Xe])), rfl, trivial⟩) ⟨(cgT (by simp [Xe])), rfl, rfl, trivial⟩, by simp <;> omega⟩
  have h13 := h39
  refine QO ?_;exact ⟨⟨(r, [], acc), QgN h13 (by rw [← hg, QuA]), by simp at hlen ⊢ <;> omega⟩, Qa rfl (JZ ⟨(cgL (by simp [tkC, Xe])), rfl, trivial⟩) ⟨(cgT (by simp [Xe])), rfl, rfl, trivial⟩, by simp <;> omega⟩
 skip
 refine Qy ?_;refine zP (Ql (b := true) rfl rfl rfl (by simp <;> omega)) ?_;refine QjC ?_;refine zD 19 ?_;refine QH ?_;refine zp (Ql (b := false) rfl rfl rfl (by simp <;> omega)) ?_;refine QD ?_;refine zp (Ql (b := true) rfl rfl rfl (by simp <;> omega)) ?_;refine QH ?_;refine zp (Qf rfl rfl rfl 0 rfl _ rfl rfl) ?_;refine QD ?_;refine zp (Qf rfl rfl rfl 0 rfl _ rfl rfl) ?_;refine Xg ?_
 refine zq ?_ ?_ <;> intro h52
 ·have h8 := h52
  refine zD 12 ?_;refine zm ?_;refine zp (Qf rfl rfl rfl 0 rfl _ rfl rfl) ?_;refine QD ?_;refine zp (Qf rfl rfl rfl 0 rfl _ rfl rfl) ?_;refine QD ?_;refine zp (Kt rfl rfl rfl 1 rfl (by simp) (by exact fun _ => rfl)) ?_;refine zp (JC rfl rfl) ?_;refine zp (JC rfl rfl) ?_;refine Xg ?_;refine zP (Qar (hc _ _) rfl rfl rfl rfl) ?_;refine Xg ?_
  refine zq ?_ ?_ <;> intro h61
  ·have h13 := h61
   refine Qy ?_;refine zP (QG rfl rfl rfl rfl (by exact rfl) (by decide) (by decide)) ?_;refine QM hN rfl rfl rfl (by simp) rfl rfl (QP Qed _) rfl (by simp [Xe] at hlen ⊢ <;> omega) rfl rfl rfl rfl ?_;refine zS ?_;refine Qb ?_;exact ⟨⟨(r, y :: s, acc ++ [(x.1, ch x.2 0)]), Qez h13 (by rw [← hg, QrV (by simpa using h8)]), by simp at hlen ⊢ <;> omega⟩, Qa rfl (JZ ⟨(cgL (by simp [tkC, Xe])), rfl, trivial⟩) ⟨(cgT (by simp [Xe])), rfl, rfl, trivial⟩, by simp <;> omega⟩
  have h13 := h61
  refine QO ?_;exact ⟨⟨(r, y :: s, acc), QgN h13 (by rw [← hg, QrV (by simpa using h8)]), by simp at hlen ⊢ <;> omega⟩, Qa rfl (JZ ⟨(cgL (by simp [tkC, Xe])), rfl, trivial⟩) ⟨(cgT (by simp [Xe])), rfl, rfl, trivial⟩, by simp <;> omega⟩
 have h8 := h52
 refine JB ?_;refine zD 14 ?_;refine QH ?_;refine zp (Ql (b := false) rfl rfl rfl (by simp <;> omega)) ?_;refine QH ?_;refine zp (Qf rfl rfl rfl 0 rfl _ rfl rfl) ?_;refine QD ?_;refine zp (Qf rfl rfl rfl 0 rfl _ rfl rfl) ?_;refine Xk ?_
 refine zq ?_ ?_ <;> intro h72
 ·have h10 := h72
  refine zD 12 ?_;refine zm ?_;refine zp (Qf rfl rfl rfl 0 rfl _ rfl rfl) ?_;refine QD ?_;refine zp (Qf rfl rfl rfl 0 rfl _ rfl rfl) ?_;refine QD ?_;refine zp (Kt rfl rfl rfl 1 rfl (by simp) (by exact fun _ => rfl)) ?_;refine zp (JC rfl rfl) ?_;refine zp (JC rfl rfl) ?_;refine Xg ?_;refine zP (Qar (hc _ _) rfl rfl rfl rfl) ?_;refine Xg ?_
  refine zq ?_ ?_ <;> intro h81
  ·have h13 := h81
   refine Qy ?_;refine zP (QG rfl rfl rfl rfl (by exact rfl) (by decide) (by decide)) ?_;refine QM hN rfl rfl rfl (by simp) rfl rfl (QP Qed _) rfl (by simp [Xe] at hlen ⊢ <;> omega) rfl rfl rfl rfl ?_;refine zS ?_;refine Qb ?_;exact ⟨⟨(x :: r, s, acc ++ [(y.1, ch 0 y.2)]), Qez h13 (by rw [← hg, Qr0 (by simpa using h8) (by simpa using h10)]), by simp at hlen ⊢ <;> omega⟩, Qa rfl (JZ ⟨(cgL (by simp [tkC, Xe])), rfl, trivial⟩) ⟨(cgT (by simp [Xe])), rfl, rfl, trivial⟩, by simp <;> omega⟩
  have h13 := h81
  refine QO ?_;exact ⟨⟨(x :: r, s, acc), QgN h13 (by rw [← hg, Qr0 (by simpa using h8) (by simpa using h10)]), by simp at hlen ⊢ <;> omega⟩, Qa rfl (JZ ⟨(cgL (by simp [tkC, Xe])), rfl, trivial⟩) ⟨(cgT (by simp [Xe])), rfl, rfl, trivial⟩, by simp <;> omega⟩
 have h10 := h72
 refine zD 20 ?_;refine zm ?_;refine zp (Qf rfl rfl rfl 0 rfl _ rfl rfl) ?_;refine QD ?_;refine zp (Qf rfl rfl rfl 0 rfl _ rfl rfl) ?_;refine QD ?_;refine zp (Qf rfl rfl rfl 0 rfl _ rfl rfl) ?_;refine QD ?_;refine zp (Kt rfl rfl rfl 1 rfl (by simp) (by exact fun _ => rfl)) ?_;refine zm ?_;refine zp (Kt rfl rfl rfl 1 rfl (by simp) (by exact fun _ => rfl)) ?_;refine zp (JC rfl rfl) ?_;refine zp (JC rfl rfl) ?_;refine zp (JC rfl rfl) ?_;refine zp (JC rfl rfl) ?_;refine Xg ?_;refine zP (Qar (hc _ _) rfl rfl rfl rfl) ?_;refine Xg ?_
 refine zq ?_ ?_ <;> intro h97
 ·have h13 := h97
  refine Qy ?_;refine zP (QG rfl rfl rfl rfl (by exact rfl) (by decide) (by decide)) ?_;refine QM hN rfl rfl rfl (by simp) rfl rfl (QP Qed _) rfl (by simp [Xe] at hlen ⊢ <;> omega) rfl rfl rfl rfl ?_;refine zS ?_;refine Qb ?_;exact ⟨⟨(r, s, acc ++ [(x.1, ch x.2 y.2)]), Qez h13 (by rw [← hg, Qrl (by simpa using h8) (by simpa using h10)]), by simp at hlen ⊢ <;> omega⟩, Qa rfl (JZ ⟨(cgL (by simp [tkC, Xe])), rfl, trivial⟩) ⟨(cgT (by simp [Xe])), rfl, rfl, trivial⟩, by simp <;> omega⟩
 have h13 := h97
 refine QO ?_;exact ⟨⟨(r, s, acc), QgN h13 (by rw [← hg, Qrl (by simpa using h8) (by simpa using h10)]), by simp at hlen ⊢ <;> omega⟩, Qa rfl (JZ ⟨(cgL (by simp [tkC, Xe])), rfl, trivial⟩) ⟨(cgT (by simp [Xe])), rfl, rfl, trivial⟩, by simp <;> omega⟩
theorem QmL (m n : Int) : FC Tryz.prog 226 [i64 m, i64 n] (i64 (KO m n)) := by
 refine Qh [4] Tryz.func226 rfl rfl 9 Tryz.ntmps226 (Nat.le_of_ble_eq_true rfl) ?_
 intro E hN;refine Xn ?_
 refine zq ?_ ?_ <;> intro h3
 ·refine QC ?_;refine zQ ?_;exact QZ (by unfold KO; split <;> simp_all <;> omega)
 refine QC ?_;refine zQ ?_;exact QZ (by unfold KO; split <;> simp_all <;> omega)
theorem Qkz (a b : List Tk) : FC Tryz.prog 206 [tks a, tks b] (tks (Qfz a b)) := by
 refine Qh [4] Tryz.func206 rfl rfl 8 Tryz.ntmps206 (Nat.le_of_ble_eq_true rfl) ?_
 intro E hN;refine Xo ?_;refine zP (Qd (Qta QmL a b) rfl rfl rfl) ?_;refine zS ?_;refine zQ ?_
 rfl
theorem Qge (a b : List Tk) : FC Tryz.prog 175 [tks a, tks b] (i64 (QeB a b)) := by
 refine Qh [4] Tryz.func175 rfl rfl 34 Tryz.ntmps175 (Nat.le_of_ble_eq_true rfl) ?_
 intro E hN;refine Xo ?_;refine zP (Qd (Qb3 a) rfl rfl rfl) ?_;refine QH ?_
 refine zc 10 ?_ ?_ <;> intro h3
 ·refine X3 ?_;refine zQ ?_;exact QZ (by simp_all [QeB])
 refine JB ?_;refine uP (X0 (m1 (n0 h3))) (Qd (Qb3 b) rfl rfl rfl) ?_;refine QD ?_
 refine zq ?_ ?_ <;> intro h4
 ·refine QD ?_;refine zQ ?_;exact QZ (by simp_all [QeB])
 refine Qy ?_;refine zP (Qd (Qkz a b) rfl rfl rfl) ?_;refine QC ?_;refine zP (Qd (Qkz b a) rfl rfl rfl) ?_;refine Xn ?_
 refine zc 27 ?_ ?_ <;> intro h7
 ·refine QC ?_
  refine zq ?_ ?_ <;> intro h10
  ·refine QD ?_;refine zQ ?_;exact QZ (by simp_all [QeB])
  refine X3 ?_;refine zQ ?_;exact QZ (by simp_all [QeB])
 refine QaL ?_
 refine zq ?_ ?_ <;> intro h10
 ·refine QD ?_;refine zQ ?_;exact QZ (by simp_all [QeB])
 refine QC ?_;refine zQ ?_;exact QZ (by simp_all [QeB])
end Go.Proofs.YtnkkokmmeplbgaaGreat
