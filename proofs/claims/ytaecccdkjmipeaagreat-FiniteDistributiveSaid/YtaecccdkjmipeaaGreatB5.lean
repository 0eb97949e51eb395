/-
  Contracts: uses of values' fields, allowed and closed names,
-/
import Derived.Test.YtaecccdkjmipeaaGreatB4
import Derived.Test.YtaecccdkjmipeaaGreatA3
namespace Go.Proofs.YtaecccdkjmipeaaGreat
set_option maxRecDepth 100000
set_option maxHeartbeats 1000000
open Go.RowKit
def Jx (v : Qn) (n li pa en : Bool) : Bool := (n || v.N == 0) && (li || (v.nm.length : Int) == 0) && (pa || (v.ps.length : Int) == 0) && (en || (v.es.length : Int) == 0)
def Y7 (only : List Nm) (s : Nm) : Bool := XV s && !(decide ((only.length : Int) > 0) && !Jn only s)
def JE (only l : List Nm) : Bool := Qo l && l.all (Y7 only)
def Yi (l : List Nm) (r : Ru) : Bool := !(JR r.i l && !Jn l r.t)
def Xf (rs : List Ru) (l : List Nm) : Bool := rs.all (Yi l)
def Qgg (last : Int) (t : Tk) : Bool := !(decide (t.1 ≤ last) || decide (t.1 > 63) || decide (t.2 < 1) || decide (t.2 > 1000000000000000))
def Xw : Int → List Tk → Bool
 | _, [] => true
 | last, t :: r => Qgg last t && Xw t.1 r
theorem Qs1 {l : List Tk} {k : Nat} {last : Int} {x : Tk} {b : Bool} (hg : Xw last (l.drop k) = b) (hx : l[k]? = some x) : b = (Qgg last x && Xw x.1 (l.drop (k + 1))) := by
 rw [← hg, XL hx]; rfl
theorem Qvv {l : List Tk} {k : Nat} {last : Int} {b : Bool} (hg : Xw last (l.drop k) = b) (h : l.length ≤ k) : b = true := by
 rw [← hg, List.drop_of_length_le h]; rfl
def Qip (l : List Tk) (p : Int) : Int := match l.find? (fun t => t.1 == p) with | some t => t.2 | none => 0
def QcI (p k : Int) (l : List Tk) : List Tk := if k > 0 then (p, k) :: l else l
def Qas (ch : Int → Int → Int) : Nat → List Tk → List Tk → List Tk
 | 0, _, _ => []
 | _ + 1, [], [] => []
 | f + 1, x :: r, [] => QcI x.1 (ch x.2 0) (Qas ch f r [])
 | f + 1, [], y :: s => QcI y.1 (ch 0 y.2) (Qas ch f [] s)
 | f + 1, x :: r, y :: s => if x.1 < y.1 then QcI x.1 (ch x.2 0) (Qas ch f r (y :: s)) else if y.1 < x.1 then QcI y.1 (ch 0 y.2) (Qas ch f (x :: r) s) else QcI x.1 (ch x.2 y.2) (Qas ch f r s)
theorem YC (ch : Int → Int → Int) : ∀ (f g : Nat) (a b : List Tk), a.length + b.length ≤ f → a.length + b.length ≤ g → Qas ch f a b = Qas ch g a b
 | 0, 0, _, _, _, _ => rfl
 | 0, g + 1, a, b, h1, _ => by
  have ha : a = [] := List.eq_nil_of_length_eq_zero (by omega)
  have hb : b = [] := List.eq_nil_of_length_eq_zero (by omega)
  subst ha hb; rfl
 | f + 1, 0, a, b, _, h2 => by
  have ha : a = [] := List.eq_nil_of_length_eq_zero (by omega)
  have hb : b = [] := List.eq_nil_of_length_eq_zero (by omega)
  subst ha hb; rfl
 | f + 1, g + 1, [], [], _, _ => rfl
 | f + 1, g + 1, x :: r, [], h1, h2 => by simp only [List.length_cons, List.length_nil] at h1 h2; simp only [Qas]; rw [YC ch f g r [] (by simp; omega) (by simp; omega)]
 | f + 1, g + 1, [], y :: s, h1, h2 => by simp only [List.length_cons, List.length_nil] at h1 h2; simp only [Qas]; rw [YC ch f g [] s (by simp; omega) (by simp; omega)]
 | f + 1, g + 1, x :: r, y :: s, h1, h2 => by
  simp only [List.length_cons] at h1 h2
  simp only [Qas]
  rw [YC ch f g r (y :: s) (by simp; omega) (by simp; omega), YC ch f g (x :: r) s (by simp; omega) (by simp; omega), YC ch f g r s (by omega) (by omega)]
def K5 (ch : Int → Int → Int) (a b : List Tk) : List Tk := Qas ch (a.length + b.length) a b
section
variable {ch : Int → Int → Int} {x y : Tk} {r s : List Tk}
theorem QvC : K5 ch (x :: r) [] = QcI x.1 (ch x.2 0) (K5 ch r []) := by
 show Qas ch (r.length + 1 + 0) (x :: r) [] = _
 rfl
theorem Qvr : K5 ch [] (y :: s) = QcI y.1 (ch 0 y.2) (K5 ch [] s) := by
 unfold K5
 rw [YC ch _ (s.length + 1) [] (y :: s) (by simp) (by simp), YC ch _ s.length [] s (by simp) (by simp)]
 rfl
theorem Qsf (h : x.1 < y.1) : K5 ch (x :: r) (y :: s) = QcI x.1 (ch x.2 0) (K5 ch r (y :: s)) := by
 unfold K5
 rw [YC ch _ (r.length + (s.length + 1) + 1) (x :: r) (y :: s) (Nat.le_refl _) (by simp only [List.length_cons]; omega), Qas, if_pos h]
 rfl
theorem Qq1 (h : ¬ x.1 < y.1) (h2 : y.1 < x.1) : K5 ch (x :: r) (y :: s) = QcI y.1 (ch 0 y.2) (K5 ch (x :: r) s) := by
 unfold K5
 rw [YC ch _ (r.length + 1 + s.length + 1) (x :: r) (y :: s) (Nat.le_refl _) (by simp only [List.length_cons]; omega), Qas, if_neg h, if_pos h2]
 rfl
theorem Qsa (h : ¬ x.1 < y.1) (h2 : ¬ y.1 < x.1) : K5 ch (x :: r) (y :: s) = QcI x.1 (ch x.2 y.2) (K5 ch r s) := by
 unfold K5
 rw [YC ch _ (r.length + s.length + 1 + 1) (x :: r) (y :: s) (Nat.le_refl _) (by simp only [List.length_cons]; omega), Qas, if_neg h, if_neg h2, YC ch _ (r.length + s.length) r s (by omega) (by omega)]
theorem Qe1 {p k : Int} {l acc u : List Tk} (h : decide (k > 0) = true) (hg : acc ++ QcI p k l = u) : (acc ++ [(p, k)]) ++ l = u := by
 rw [← hg, QcI, if_pos (by simpa using h)]; simp
theorem Qhx {p k : Int} {l acc u : List Tk} (h : decide (k > 0) = false) (hg : acc ++ QcI p k l = u) : acc ++ l = u := by
 rw [← hg, QcI, if_neg (by simpa using h)]
end
theorem Xd (x y : AV) : Qg 2 1 [x, y] = [[x, y]] := rfl
theorem Qed (t : Tk) : okE 2 (tkC t) = true := rfl
theorem QqN : ∀ (l : List Tk) (last : Int), Xw last l = true → (l.length : Int) ≤ 63 - last ∨ l = []
 | [], _, _ => .inr rfl
 | t :: r, last, h => by
  simp only [Xw, Qgg, Bool.and_eq_true, Bool.not_eq_true', Bool.or_eq_false_iff, decide_eq_false_iff_not] at h
  rcases QqN r t.1 h.2 with h1 | h1
  ·left; simp only [List.length_cons]; omega
  left; subst h1; simp only [List.length_cons, List.length_nil]; omega
theorem QuM {l : List Tk} (h : Xw (-1) l = true) : l.length ≤ 64 := by
 rcases QqN l _ h with h | h
 ·omega
 subst h; simp
def Qjl (ch : Int → Int → Int) (a b : List Tk) : List Tk := if Xw (-1) a && Xw (-1) b then K5 ch a b else []
def KS (m n : Int) : Int := if m > n then m else 0
def Qfh (a b : List Tk) : List Tk := Qjl KS a b
def Qet (a b : List Tk) : Int := if !(Xw (-1) a && Xw (-1) b) then 3 else if (Qfh a b).length == 0 then (if (Qfh b a).length == 0 then 0 else 1) else if (Qfh b a).length == 0 then 2 else 3
theorem Ww (v : Qn) (n li pa en : Bool) : FC Tryz.prog 203 [.agg (Xm v), bl n, bl li, bl pa, bl en] (bl (Jx v n li pa en)) := by
 refine Qd [10] Tryz.func203 rfl rfl 44 Tryz.ntmps203 (Nat.le_of_ble_eq_true rfl) ?_
 intro E hN
 refine JU ?_
 refine zc 12 ?_ ?_ <;> intro h2
 ·
  refine Xz ?_
  refine zc 19 ?_ ?_ <;> intro h3
  ·
   refine JU ?_
   refine zc 28 ?_ ?_ <;> intro h4
   ·
    refine JU ?_
    refine zc 37 ?_ ?_ <;> intro h5
    ·
     refine Xz ?_; refine zQ ?_
     exact Qt (by simp_all [Jx])
    refine Xz ?_; refine zQ ?_
    exact Qt (by simp_all [Jx])
   refine Xz ?_
   refine zc 35 ?_ ?_ <;> intro h14
   rotate_left
   ·
    refine JU ?_; refine zQ ?_
    exact Qt (by simp_all [Jx])
   refine QO ?_
   refine zc 37 ?_ ?_ <;> intro h5
   ·
    refine QJ ?_; refine uP (X7 h14) (XI rfl rfl h5 rfl) ?_; refine QO ?_; refine zQ ?_
    exact Qt (by simp_all [Jx])
   refine QJ ?_; refine uP (X7 h14) (Ji rfl rfl h5 rfl) ?_; refine QO ?_; refine zQ ?_
   exact Qt (by simp_all [Jx])
  refine Xz ?_
  refine zc 26 ?_ ?_ <;> intro h22
  rotate_left
  ·
   refine QlK ?_; refine zQ ?_
   exact Qt (by simp_all [Jx])
  refine QO ?_
  refine zc 28 ?_ ?_ <;> intro h4
  ·
   refine QJ ?_; refine uP (X7 h22) (XI rfl rfl h4 rfl) ?_; refine QJ ?_
   refine zc 37 ?_ ?_ <;> intro h5
   ·
    refine Xz ?_; refine zQ ?_
    exact Qt (by simp_all [Jx])
   refine Xz ?_; refine zQ ?_
   exact Qt (by simp_all [Jx])
  refine QJ ?_; refine uP (X7 h22) (Ji rfl rfl h4 rfl) ?_; refine QO ?_
  refine zc 35 ?_ ?_ <;> intro h30
  rotate_left
  ·
   refine JU ?_; refine zQ ?_
   exact Qt (by simp_all [Jx])
  refine QO ?_
  refine zc 37 ?_ ?_ <;> intro h5
  ·
   refine QJ ?_; refine uP (X7 h30) (XI rfl rfl h5 rfl) ?_; refine QO ?_; refine zQ ?_
   exact Qt (by simp_all [Jx])
  refine QJ ?_; refine uP (X7 h30) (Ji rfl rfl h5 rfl) ?_; refine QO ?_; refine zQ ?_
  exact Qt (by simp_all [Jx])
 refine QA ?_
 refine zc 17 ?_ ?_ <;> intro h37
 rotate_left
 ·
  refine Yd ?_; refine QC ?_; refine zQ ?_
  exact Qt (by simp_all [Jx])
 refine QO ?_
 refine zc 19 ?_ ?_ <;> intro h3
 ·
  refine QJ ?_; refine uP (X7 h37) (XI rfl rfl h3 rfl) ?_; refine QJ ?_
  refine zc 28 ?_ ?_ <;> intro h4
  ·
   refine JU ?_
   refine zc 37 ?_ ?_ <;> intro h5
   ·
    refine Xz ?_; refine zQ ?_
    exact Qt (by simp_all [Jx])
   refine Xz ?_; refine zQ ?_
   exact Qt (by simp_all [Jx])
  refine Xz ?_
  refine zc 35 ?_ ?_ <;> intro h45
  rotate_left
  ·
   refine JU ?_; refine zQ ?_
   exact Qt (by simp_all [Jx])
  refine QO ?_
  refine zc 37 ?_ ?_ <;> intro h5
  ·
   refine QJ ?_; refine uP (X7 h45) (XI rfl rfl h5 rfl) ?_; refine QO ?_; refine zQ ?_
   exact Qt (by simp_all [Jx])
  refine QJ ?_; refine uP (X7 h45) (Ji rfl rfl h5 rfl) ?_; refine QO ?_; refine zQ ?_
  exact Qt (by simp_all [Jx])
 refine QJ ?_; refine uP (X7 h37) (Ji rfl rfl h3 rfl) ?_; refine QO ?_
 refine zc 26 ?_ ?_ <;> intro h53
 rotate_left
 ·
  refine QlK ?_; refine zQ ?_
  exact Qt (by simp_all [Jx])
 refine QO ?_
 refine zc 28 ?_ ?_ <;> intro h4
 ·
  refine QJ ?_; refine uP (X7 h53) (XI rfl rfl h4 rfl) ?_; refine QJ ?_
  refine zc 37 ?_ ?_ <;> intro h5
  ·
   refine Xz ?_; refine zQ ?_
   exact Qt (by simp_all [Jx])
  refine Xz ?_; refine zQ ?_
  exact Qt (by simp_all [Jx])
 refine QJ ?_; refine uP (X7 h53) (Ji rfl rfl h4 rfl) ?_; refine QO ?_
 refine zc 35 ?_ ?_ <;> intro h61
 rotate_left
 ·
  refine JU ?_; refine zQ ?_
  exact Qt (by simp_all [Jx])
 refine QO ?_
 refine zc 37 ?_ ?_ <;> intro h5
 ·
  refine QJ ?_; refine uP (X7 h61) (XI rfl rfl h5 rfl) ?_; refine QO ?_; refine zQ ?_
  exact Qt (by simp_all [Jx])
 refine QJ ?_; refine uP (X7 h61) (Ji rfl rfl h5 rfl) ?_; refine QO ?_; refine zQ ?_
 exact Qt (by simp_all [Jx])
theorem Qck (only l : List Nm) : FC Tryz.prog 204 [XU only, XU l] (bl (JE only l)) := by
 refine Qd [4] Tryz.func204 rfl rfl 31 Tryz.ntmps204 (Nat.le_of_ble_eq_true rfl) ?_
 intro E hN
 refine JK 1 rfl (fun hl1 => ?_)
 refine XJ ?_; refine zP (Qc (QaC l) rfl rfl rfl) ?_; refine QO ?_
 refine zq ?_ ?_ <;> intro h3
 ·
  have h1 := h3
  refine QC ?_; refine zQ ?_
  exact Qt (by simp_all [JE])
 have h1 := h3
 refine JU ?_
 refine Qi (fun x : {k : Nat // k ≤ (l).length ∧ (l.drop k).all (Y7 only) = l.all (Y7 only)} => ⟨[(0, XU only), (10, XU l), (11, i64 l.length), (12, i64 (x.1 : Nat))], [], 0⟩) (fun x => (l).length - x.1) (⟨0, Nat.zero_le _, by simp⟩) ?_ ?_
 ·
  exact Qa rfl (Jg ⟨(QE (by simp)), rfl, (Xu trivial)⟩) trivial
 rintro ⟨k, hk, hg⟩
 dsimp only
 refine QA ?_
 refine zq ?_ ?_ <;> intro h8
 rotate_left
 ·
  have hge : (l).length ≤ k := by simpa using h8
  refine QJ ?_; refine zQ ?_
  exact Qt (by rw [JE, X4 hg hge]; simp_all)
 have hlt : k < (l).length := by simpa using h8
 obtain ⟨x, hx⟩ := Qk hlt
 refine QA ?_; refine zP (Qh rfl rfl rfl k rfl _ (Qq hx) rfl) ?_; refine Je ?_; refine zP (Qc (QeI _) rfl rfl rfl) ?_
 refine QO ?_
 refine zc 19 ?_ ?_ <;> intro h11
 ·
  refine Qeo ?_; refine zQ ?_
  exact Qt (by rw [JE, Q6 hg hx (by simp_all [Y7])]; simp)
 refine QJ ?_
 refine zc 23 ?_ ?_ <;> intro h13
 ·
  refine QO ?_; refine uP (X7 h13) (Qc (QhJ only _) rfl rfl rfl) ?_; refine KO ?_; refine uP (JI (m1 (n0 h11))) (XI rfl rfl h13 rfl) ?_
  refine QO ?_
  refine zq ?_ ?_ <;> intro h14
  ·
   refine QC ?_; refine zQ ?_
   exact Qt (by rw [JE, Q6 hg hx (by simp_all [Y7])]; simp)
  refine QJ ?_; refine Qb ?_
  exact ⟨⟨k + 1, hlt, XF hg hx (by simp_all [Y7])⟩, Qa rfl (Xl ⟨(QE (by dsimp only; omega)), rfl, trivial⟩) trivial, by dsimp only; omega⟩
 refine QJ ?_; refine uP (JI (m1 (n0 h11))) (Ji rfl rfl h13 rfl) ?_; refine Xz ?_; refine Qb ?_
 exact ⟨⟨k + 1, hlt, XF hg hx (by simp_all [Y7])⟩, Qa rfl (Xl ⟨(QE (by dsimp only; omega)), rfl, trivial⟩) trivial, by dsimp only; omega⟩
theorem Qp2 (rs : List Ru) (l : List Nm) : FC Tryz.prog 205 [rus rs, XU l] (bl (Xf rs l)) := by
 refine Qd [4] Tryz.func205 rfl rfl 25 Tryz.ntmps205 (Nat.le_of_ble_eq_true rfl) ?_
 intro E hN
 refine JK 0 rfl (fun hl0 => ?_)
 refine JA ?_
 refine Qi (fun x : {k : Nat // k ≤ (rs).length ∧ (rs.drop k).all (Yi l) = rs.all (Yi l)} => ⟨[(1, XU l), (7, rus rs), (8, i64 rs.length), (9, i64 (x.1 : Nat))], [], 0⟩) (fun x => (rs).length - x.1) (⟨0, Nat.zero_le _, by simp⟩) ?_ ?_
 ·
  exact Qa rfl (Jg ⟨(QE (by simp)), rfl, (Xu trivial)⟩) trivial
 rintro ⟨k, hk, hg⟩
 dsimp only
 refine QA ?_
 refine zq ?_ ?_ <;> intro h7
 rotate_left
 ·
  have hge : (rs).length ≤ k := by simpa using h7
  refine QJ ?_; refine zQ ?_
  exact Qt (X4 hg hge).symm
 have hlt : k < (rs).length := by simpa using h7
 obtain ⟨x, hx⟩ := Qk hlt
 refine QA ?_; refine zP (Qh rfl rfl rfl k rfl _ (Qq hx) rfl) ?_; refine JU ?_; refine zP (Qc (QbC _ l) rfl rfl rfl) ?_
 refine zM ?_
 refine zc 17 ?_ ?_ <;> intro h14
 rotate_left
 ·
  refine JA ?_; refine Qb ?_
  exact ⟨⟨k + 1, hlt, XF hg hx (by simp_all [Yi])⟩, Qa rfl (Xl ⟨(QE (by dsimp only; omega)), rfl, trivial⟩) trivial, by dsimp only; omega⟩
 refine QC ?_; refine uP (X7 h14) (Qc (QhJ l _) rfl rfl rfl) ?_; refine QC ?_
 refine zq ?_ ?_ <;> intro h17
 ·
  refine QC ?_; refine zQ ?_
  exact Qt (Q6 hg hx (by simp_all [Yi])).symm
 refine QJ ?_; refine Qb ?_
 exact ⟨⟨k + 1, hlt, XF hg hx (by simp_all [Yi])⟩, Qa rfl (Xl ⟨(QE (by dsimp only; omega)), rfl, trivial⟩) trivial, by dsimp only; omega⟩
theorem QbO (l : List Tk) : FC Tryz.prog 200 [tks l] (bl (Xw (-1) l)) := by
 refine Qd [2] Tryz.func200 rfl rfl 34 Tryz.ntmps200 (Nat.le_of_ble_eq_true rfl) ?_
 intro E hN
 refine JK 0 rfl (fun hl0 => ?_)
 refine QeT ?_
 refine Qi (fun x : {q : Nat × Int // q.1 ≤ l.length ∧ Xw q.2 (l.drop q.1) = Xw (-1) l} => ⟨[(3, i64 x.1.2), (6, tks l), (7, i64 l.length), (8, i64 (x.1.1 : Nat))], [], 0⟩) (fun x => l.length - x.1.1) (⟨(0, -1), Nat.zero_le _, by simp⟩) ?_ ?_
 ·
  exact Qa rfl (Jg ⟨(QE (by simp)), rfl, (Xu trivial)⟩) trivial
 rintro ⟨⟨k, last⟩, hk, hg⟩
 dsimp only at hk hg ⊢
 refine QA ?_
 refine zq ?_ ?_ <;> intro h7
 rotate_left
 ·
  have hge : (l).length ≤ k := by simpa using h7
  refine QJ ?_; refine zQ ?_
  exact Qt (Qvv hg hge).symm
 have hlt : k < (l).length := by simpa using h7
 obtain ⟨x, hx⟩ := Qk hlt
 have hs := Qs1 hg hx
 refine QA ?_; refine zP (Qh rfl rfl rfl k rfl _ (Qq hx) rfl) ?_; refine JA ?_
 refine zc 16 ?_ ?_ <;> intro h14
 ·
  refine Qil ?_; refine zQ ?_
  exact Qt (by rw [hs]; simp_all [Qgg])
 refine QA ?_
 refine zc 21 ?_ ?_ <;> intro h17
 ·
  refine WG ?_; refine zQ ?_
  exact Qt (by rw [hs]; simp_all [Qgg])
 refine QA ?_
 refine zc 26 ?_ ?_ <;> intro h20
 ·
  refine JU ?_; refine zQ ?_
  exact Qt (by rw [hs]; simp_all [Qgg])
 refine QA ?_
 refine zq ?_ ?_ <;> intro h23
 ·
  refine QC ?_; refine zQ ?_
  exact Qt (by rw [hs]; simp_all [Qgg])
 have hok : Qgg last x = true := by simp_all [Qgg]
 refine JU ?_; refine Qb ?_
 exact ⟨⟨(k + 1, x.1), hlt, by rw [hs, hok]; rfl⟩, Qa rfl (Xl ⟨(QE (by dsimp only; omega)), rfl, trivial⟩) trivial, by dsimp only; omega⟩
theorem Qti {f : FuncId} [Xe Tryz.prog f] {ch : Int → Int → Int} (hc : ∀ m n, FC Tryz.prog f [i64 m, i64 n] (i64 (ch m n))) (a b : List Tk) : FC Tryz.prog 211 [tks a, tks b, .fn f []] (tks (Qjl ch a b)) := by
 refine Qd [6] Tryz.func211 rfl rfl 112 Tryz.ntmps211 (Nat.le_of_ble_eq_true rfl) ?_
 intro E hN
 refine XJ ?_; refine zP (Qc (QbO a) rfl rfl rfl) ?_; refine QO ?_
 refine zc 15 ?_ ?_ <;> intro h4
 ·
  refine JU ?_; refine zQ ?_
  exact Qir (by simp_all [Qjl])
 refine KO ?_; refine uP (JI (m1 (n0 h4))) (Qc (QbO b) rfl rfl rfl) ?_; refine QC ?_
 refine zq ?_ ?_ <;> intro h5
 ·
  have h1 := h5
  refine QC ?_; refine zQ ?_
  exact Qir (by simp_all [Qjl])
 have h1 : (Xw (-1) a && Xw (-1) b) = true := by simp_all
 have ha64 := QuM (l := a) (by simp_all)
 have hb64 := QuM (l := b) (by simp_all)
 refine Xz ?_; refine Qu (Qe8 rfl 7 153 2 rfl) ?_
 refine Qi (fun x : {q : List Tk × List Tk × List Tk // q.2.2 ++ K5 ch q.1 q.2.1 = K5 ch a b ∧ q.2.2.length + q.1.length + q.2.1.length ≤ a.length + b.length} => ⟨[(0, tks x.1.1), (1, tks x.1.2.1), (2, .fn f []), (7, .sl (x.1.2.2.map tkC) (some 0))], [(0, .tok 153 2 x.1.2.2.length)], 1⟩) (fun x => x.1.1.length + x.1.2.1.length) (⟨(a, b, []), rfl, by simp⟩) ?_ ?_
 ·
  exact Qa rfl (QR trivial) ⟨rfl, rfl, rfl, trivial⟩
 rintro ⟨⟨u, v, acc⟩, hg, hlen⟩
 dsimp only at hg hlen ⊢
 rcases u with _ | ⟨x, r⟩ <;> rcases v with _ | ⟨y, s⟩
 ·
  skip
  refine QA ?_
  refine zP (Xc (b := false) rfl rfl rfl (by simp <;> omega)) ?_
  refine QC ?_
  refine zP (Xc (b := false) rfl rfl rfl (by simp <;> omega)) ?_
  refine XJ ?_; refine zQ ?_
  exact Qir (by rw [Qjl, if_pos h1, ← hg]; simp [K5, Qas])
 ·
  skip
  refine QA ?_
  refine zP (Xc (b := false) rfl rfl rfl (by simp <;> omega)) ?_
  refine QC ?_
  refine zP (Xc (b := true) rfl rfl rfl (by simp <;> omega)) ?_
  refine Qe3 ?_; refine Qy 19 (by kernel_rfl) (by kernel_rfl) ?_; refine QO ?_
  refine zp (Xc (b := false) rfl rfl rfl (by simp <;> omega)) ?_
  refine QC ?_
  refine zp (Xc (b := false) rfl rfl rfl (by simp <;> omega)) ?_
  refine JA ?_; change Qz _ _ _ _ _ _; refine QJ ?_; refine Qy 14 (by kernel_rfl) (by kernel_rfl) ?_; refine QO ?_
  refine zp (Xc (b := true) rfl rfl rfl (by simp <;> omega)) ?_
  refine YJ ?_; change Qz _ _ _ _ _ _; refine QC ?_; refine Qy 12 (by kernel_rfl) (by kernel_rfl) ?_; refine zm ?_
  refine zp (Qh rfl rfl rfl 0 rfl _ rfl rfl) ?_; refine QC ?_; refine zp (Qh rfl rfl rfl 0 rfl _ rfl rfl) ?_; refine QC ?_
  refine zp (KD rfl rfl rfl 1 rfl (by simp) (by exact fun _ => rfl)) ?_; refine zp (JP rfl rfl) ?_; refine zp (JP rfl rfl) ?_
  change Qz _ _ _ _ _ _; refine Xz ?_; refine zP (YG (hc _ _) rfl rfl rfl rfl) ?_; refine Xz ?_
  refine zq ?_ ?_ <;> intro h25
  ·
   have h13 := h25
   refine QA ?_; refine zP (Qj rfl rfl rfl rfl (by exact rfl) (by decide) (by decide)) ?_
   refine Xh hN rfl rfl rfl (by simp) rfl rfl (Xa Qed _) rfl (by simp [Xd] at hlen ⊢ <;> omega) rfl rfl rfl rfl ?_
   refine zS ?_; refine Qb ?_
   exact ⟨⟨([], s, acc ++ [(y.1, ch 0 y.2)]), Qe1 h13 (by rw [← hg, Qvr]), by simp at hlen ⊢ <;> omega⟩, Qa rfl (Xl ⟨(cgL (by simp [tkC, Xd])), rfl, trivial⟩) ⟨(cgT (by simp [Xd])), rfl, rfl, trivial⟩, by simp <;> omega⟩
  have h13 := h25
  refine XM ?_
  exact ⟨⟨([], s, acc), Qhx h13 (by rw [← hg, Qvr]), by simp at hlen ⊢ <;> omega⟩, Qa rfl (Xl ⟨(cgL (by simp [tkC, Xd])), rfl, trivial⟩) ⟨(cgT (by simp [Xd])), rfl, rfl, trivial⟩, by simp <;> omega⟩
 ·
  skip
  refine QA ?_
  refine zP (Xc (b := true) rfl rfl rfl (by simp <;> omega)) ?_
  refine QjA ?_; refine Qy 19 (by kernel_rfl) (by kernel_rfl) ?_; refine QO ?_
  refine zp (Xc (b := true) rfl rfl rfl (by simp <;> omega)) ?_
  refine QeT ?_; change Qz _ _ _ _ _ _; refine QC ?_; refine Qy 12 (by kernel_rfl) (by kernel_rfl) ?_; refine zm ?_
  refine zp (Qh rfl rfl rfl 0 rfl _ rfl rfl) ?_; refine QC ?_; refine zp (Qh rfl rfl rfl 0 rfl _ rfl rfl) ?_; refine QC ?_
  refine zp (KD rfl rfl rfl 1 rfl (by simp) (by exact fun _ => rfl)) ?_; refine zp (JP rfl rfl) ?_; refine zp (JP rfl rfl) ?_
  change Qz _ _ _ _ _ _; refine Xz ?_; refine zP (YG (hc _ _) rfl rfl rfl rfl) ?_; refine Xz ?_
  refine zq ?_ ?_ <;> intro h39
  ·
   have h13 := h39
   refine QA ?_; refine zP (Qj rfl rfl rfl rfl (by exact rfl) (by decide) (by decide)) ?_
   refine Xh hN rfl rfl rfl (by simp) rfl rfl (Xa Qed _) rfl (by simp [Xd] at hlen ⊢ <;> omega) rfl rfl rfl rfl ?_
   refine zS ?_; refine Qb ?_
   exact ⟨⟨(r, [], acc ++ [(x.1, ch x.2 0)]), Qe1 h13 (by rw [← hg, QvC]), by simp at hlen ⊢ <;> omega⟩, Qa rfl (Xl ⟨(cgL (by simp [tkC, Xd])), rfl, trivial⟩) ⟨(cgT (by simp [Xd])), rfl, rfl, trivial⟩, by simp <;> omega⟩
  have h13 := h39
  refine XM ?_
  exact ⟨⟨(r, [], acc), Qhx h13 (by rw [← hg, QvC]), by simp at hlen ⊢ <;> omega⟩, Qa rfl (Xl ⟨(cgL (by simp [tkC, Xd])), rfl, trivial⟩) ⟨(cgT (by simp [Xd])), rfl, rfl, trivial⟩, by simp <;> omega⟩
 skip
 refine QA ?_
 refine zP (Xc (b := true) rfl rfl rfl (by simp <;> omega)) ?_
 refine QjA ?_; refine Qy 19 (by kernel_rfl) (by kernel_rfl) ?_; refine QO ?_
 refine zp (Xc (b := false) rfl rfl rfl (by simp <;> omega)) ?_
 refine QC ?_
 refine zp (Xc (b := true) rfl rfl rfl (by simp <;> omega)) ?_
 refine QO ?_; refine zp (Qh rfl rfl rfl 0 rfl _ rfl rfl) ?_; refine QC ?_; refine zp (Qh rfl rfl rfl 0 rfl _ rfl rfl) ?_; refine QA ?_
 change Qz _ _ _ _ _ _; refine zT ?_
 refine zq ?_ ?_ <;> intro h52
 ·
  have h8 := h52
  refine Qy 12 (by kernel_rfl) (by kernel_rfl) ?_; refine zm ?_; refine zp (Qh rfl rfl rfl 0 rfl _ rfl rfl) ?_; refine QC ?_
  refine zp (Qh rfl rfl rfl 0 rfl _ rfl rfl) ?_; refine QC ?_; refine zp (KD rfl rfl rfl 1 rfl (by simp) (by exact fun _ => rfl)) ?_
  refine zp (JP rfl rfl) ?_; refine zp (JP rfl rfl) ?_; change Qz _ _ _ _ _ _; refine Xz ?_
  refine zP (YG (hc _ _) rfl rfl rfl rfl) ?_; refine Xz ?_
  refine zq ?_ ?_ <;> intro h61
  ·
   have h13 := h61
   refine QA ?_; refine zP (Qj rfl rfl rfl rfl (by exact rfl) (by decide) (by decide)) ?_
   refine Xh hN rfl rfl rfl (by simp) rfl rfl (Xa Qed _) rfl (by simp [Xd] at hlen ⊢ <;> omega) rfl rfl rfl rfl ?_
   refine zS ?_; refine Qb ?_
   exact ⟨⟨(r, y :: s, acc ++ [(x.1, ch x.2 0)]), Qe1 h13 (by rw [← hg, Qsf (by simpa using h8)]), by simp at hlen ⊢ <;> omega⟩, Qa rfl (Xl ⟨(cgL (by simp [tkC, Xd])), rfl, trivial⟩) ⟨(cgT (by simp [Xd])), rfl, rfl, trivial⟩, by simp <;> omega⟩
  have h13 := h61
  refine XM ?_
  exact ⟨⟨(r, y :: s, acc), Qhx h13 (by rw [← hg, Qsf (by simpa using h8)]), by simp at hlen ⊢ <;> omega⟩, Qa rfl (Xl ⟨(cgL (by simp [tkC, Xd])), rfl, trivial⟩) ⟨(cgT (by simp [Xd])), rfl, rfl, trivial⟩, by simp <;> omega⟩
 have h8 := h52
 refine KO ?_; refine Qy 14 (by kernel_rfl) (by kernel_rfl) ?_; refine QO ?_
 refine zp (Xc (b := false) rfl rfl rfl (by simp <;> omega)) ?_
 refine QO ?_; refine zp (Qh rfl rfl rfl 0 rfl _ rfl rfl) ?_; refine QC ?_; refine zp (Qh rfl rfl rfl 0 rfl _ rfl rfl) ?_; refine QJ ?_
 change Qz _ _ _ _ _ _; refine zT ?_
 refine zq ?_ ?_ <;> intro h72
 ·
  have h10 := h72
  refine Qy 12 (by kernel_rfl) (by kernel_rfl) ?_; refine zm ?_; refine zp (Qh rfl rfl rfl 0 rfl _ rfl rfl) ?_; refine QC ?_
  refine zp (Qh rfl rfl rfl 0 rfl _ rfl rfl) ?_; refine QC ?_; refine zp (KD rfl rfl rfl 1 rfl (by simp) (by exact fun _ => rfl)) ?_
  refine zp (JP rfl rfl) ?_; refine zp (JP rfl rfl) ?_; change Qz _ _ _ _ _ _; refine Xz ?_
  refine zP (YG (hc _ _) rfl rfl rfl rfl) ?_; refine Xz ?_
  refine zq ?_ ?_ <;> intro h81
  ·
   have h13 := h81
   refine QA ?_; refine zP (Qj rfl rfl rfl rfl (by exact rfl) (by decide) (by decide)) ?_
   refine Xh hN rfl rfl rfl (by simp) rfl rfl (Xa Qed _) rfl (by simp [Xd] at hlen ⊢ <;> omega) rfl rfl rfl rfl ?_
   refine zS ?_; refine Qb ?_
   exact ⟨⟨(x :: r, s, acc ++ [(y.1, ch 0 y.2)]), Qe1 h13 (by rw [← hg, Qq1 (by simpa using h8) (by simpa using h10)]), by simp at hlen ⊢ <;> omega⟩, Qa rfl (Xl ⟨(cgL (by simp [tkC, Xd])), rfl, trivial⟩) ⟨(cgT (by simp [Xd])), rfl, rfl, trivial⟩, by simp <;> omega⟩
  have h13 := h81
  refine XM ?_
  exact ⟨⟨(x :: r, s, acc), Qhx h13 (by rw [← hg, Qq1 (by simpa using h8) (by simpa using h10)]), by simp at hlen ⊢ <;> omega⟩, Qa rfl (Xl ⟨(cgL (by simp [tkC, Xd])), rfl, trivial⟩) ⟨(cgT (by simp [Xd])), rfl, rfl, trivial⟩, by simp <;> omega⟩
 have h10 := h72
 refine Qy 20 (by kernel_rfl) (by kernel_rfl) ?_; refine zm ?_; refine zp (Qh rfl rfl rfl 0 rfl _ rfl rfl) ?_; refine QC ?_
 refine zp (Qh rfl rfl rfl 0 rfl _ rfl rfl) ?_; refine QC ?_; refine zp (Qh rfl rfl rfl 0 rfl _ rfl rfl) ?_; refine QC ?_
 refine zp (KD rfl rfl rfl 1 rfl (by simp) (by exact fun _ => rfl)) ?_; refine zm ?_
 refine zp (KD rfl rfl rfl 1 rfl (by simp) (by exact fun _ => rfl)) ?_; refine zp (JP rfl rfl) ?_; refine zp (JP rfl rfl) ?_
 refine zp (JP rfl rfl) ?_; refine zp (JP rfl rfl) ?_; change Qz _ _ _ _ _ _; refine Xz ?_
 refine zP (YG (hc _ _) rfl rfl rfl rfl) ?_; refine Xz ?_
 refine zq ?_ ?_ <;> intro h97
 ·
  have h13 := h97
  refine QA ?_; refine zP (Qj rfl rfl rfl rfl (by exact rfl) (by decide) (by decide)) ?_
  refine Xh hN rfl rfl rfl (by simp) rfl rfl (Xa Qed _) rfl (by simp [Xd] at hlen ⊢ <;> omega) rfl rfl rfl rfl ?_
  refine zS ?_; refine Qb ?_
  exact ⟨⟨(r, s, acc ++ [(x.1, ch x.2 y.2)]), Qe1 h13 (by rw [← hg, Qsa (by simpa using h8) (by simpa using h10)]), by simp at hlen ⊢ <;> omega⟩, Qa rfl (Xl ⟨(cgL (by simp [tkC, Xd])), rfl, trivial⟩) ⟨(cgT (by simp [Xd])), rfl, rfl, trivial⟩, by simp <;> omega⟩
 have h13 := h97
 refine XM ?_
 exact ⟨⟨(r, s, acc), Qhx h13 (by rw [← hg, Qsa (by simpa using h8) (by simpa using h10)]), by simp at hlen ⊢ <;> omega⟩, Qa rfl (Xl ⟨(cgL (by simp [tkC, Xd])), rfl, trivial⟩) ⟨(cgT (by simp [Xd])), rfl, rfl, trivial⟩, by simp <;> omega⟩
theorem QmJ (m n : Int) : FC Tryz.prog 212 [i64 m, i64 n] (i64 (KS m n)) := by
 refine Qd [4] Tryz.func212 rfl rfl 9 Tryz.ntmps212 (Nat.le_of_ble_eq_true rfl) ?_
 intro E hN
 refine YJ ?_
 refine zq ?_ ?_ <;> intro h3
 ·
  refine QJ ?_; refine zQ ?_
  exact Q2 (by unfold KS; split <;> simp_all <;> omega)
 refine QJ ?_; refine zQ ?_
 exact Q2 (by unfold KS; split <;> simp_all <;> omega)
theorem Qla (a b : List Tk) : FC Tryz.prog 201 [tks a, tks b] (tks (Qfh a b)) := by
 refine Qd [4] Tryz.func201 rfl rfl 8 Tryz.ntmps201 (Nat.le_of_ble_eq_true rfl) ?_
 intro E hN
 refine XJ ?_; refine zP (Qc (Qti QmJ a b) rfl rfl rfl) ?_; refine zS ?_; refine zQ ?_
 rfl
theorem QgE (a b : List Tk) : FC Tryz.prog 187 [tks a, tks b] (i64 (Qet a b)) := by
 refine Qd [4] Tryz.func187 rfl rfl 34 Tryz.ntmps187 (Nat.le_of_ble_eq_true rfl) ?_
 intro E hN
 refine XJ ?_; refine zP (Qc (QbO a) rfl rfl rfl) ?_; refine QO ?_
 refine zc 10 ?_ ?_ <;> intro h3
 ·
  refine JU ?_; refine zQ ?_
  exact Q2 (by simp_all [Qet])
 refine KO ?_; refine uP (JI (m1 (n0 h3))) (Qc (QbO b) rfl rfl rfl) ?_; refine QC ?_
 refine zq ?_ ?_ <;> intro h4
 ·
  refine QC ?_; refine zQ ?_
  exact Q2 (by simp_all [Qet])
 refine QA ?_; refine zP (Qc (Qla a b) rfl rfl rfl) ?_; refine QJ ?_; refine zP (Qc (Qla b a) rfl rfl rfl) ?_; refine YJ ?_
 refine zc 27 ?_ ?_ <;> intro h7
 ·
  refine QJ ?_
  refine zq ?_ ?_ <;> intro h10
  ·
   refine QC ?_; refine zQ ?_
   exact Q2 (by simp_all [Qet])
  refine JU ?_; refine zQ ?_
  exact Q2 (by simp_all [Qet])
 refine QeT ?_
 refine zq ?_ ?_ <;> intro h10
 ·
  refine QC ?_; refine zQ ?_
  exact Q2 (by simp_all [Qet])
 refine QJ ?_; refine zQ ?_
 exact Q2 (by simp_all [Qet])
end Go.Proofs.YtaecccdkjmipeaaGreat
