/-
  Contracts: uses of values' fields, allowed and closed names, clocks.
-/
import Derived.Test.YtaecccdkjmipeaaGreatB4
import Derived.Test.YtaecccdkjmipeaaGreatA3
namespace Go.Proofs.YtaecccdkjmipeaaGreat
open Go.RowKit
def usedB (v : Val) (n li pa en : Bool) : Bool := (n || v.N == 0) && (li || (v.nm.length : Int) == 0) && (pa || (v.ps.length : Int) == 0) && (en || (v.es.length : Int) == 0)
def okName (only : List Nm) (s : Nm) : Bool := validB s && !(decide ((only.length : Int) > 0) && !hasB only s)
def allowedB (only l : List Nm) : Bool := sortedB l && l.all (okName only)
def okRule (l : List Nm) (r : Ru) : Bool := !(subsetB r.i l && !hasB l r.t)
def closedB (rs : List Ru) (l : List Nm) : Bool := rs.all (okRule l)
def okTk (last : Int) (t : Tk) : Bool := !(decide (t.1 ≤ last) || decide (t.1 > 63) || decide (t.2 < 1) || decide (t.2 > 1000000000000000))
def validC : Int → List Tk → Bool
 | _, [] => true
 | last, t :: r => okTk last t && validC t.1 r
theorem vc_step {l : List Tk} {k : Nat} {last : Int} {x : Tk} {b : Bool} (hg : validC last (l.drop k) = b) (hx : l[k]? = some x) : b = (okTk last x && validC x.1 (l.drop (k + 1))) := by
 rw [← hg, drop_get hx]; rfl
theorem vc_end {l : List Tk} {k : Nat} {last : Int} {b : Bool} (hg : validC last (l.drop k) = b) (h : l.length ≤ k) : b = true := by
 rw [← hg, List.drop_of_length_le h]; rfl
def getB (l : List Tk) (p : Int) : Int := match l.find? (fun t => t.1 == p) with | some t => t.2 | none => 0
def putT (p k : Int) (l : List Tk) : List Tk := if k > 0 then (p, k) :: l else l
def walkN (ch : Int → Int → Int) : Nat → List Tk → List Tk → List Tk
 | 0, _, _ => []
 | _ + 1, [], [] => []
 | f + 1, x :: r, [] => putT x.1 (ch x.2 0) (walkN ch f r [])
 | f + 1, [], y :: s => putT y.1 (ch 0 y.2) (walkN ch f [] s)
 | f + 1, x :: r, y :: s => if x.1 < y.1 then putT x.1 (ch x.2 0) (walkN ch f r (y :: s)) else if y.1 < x.1 then putT y.1 (ch 0 y.2) (walkN ch f (x :: r) s) else putT x.1 (ch x.2 y.2) (walkN ch f r s)
theorem walkN_fuel (ch : Int → Int → Int) : ∀ (f g : Nat) (a b : List Tk), a.length + b.length ≤ f → a.length + b.length ≤ g → walkN ch f a b = walkN ch g a b
 | 0, 0, _, _, _, _ => rfl
 | 0, g + 1, a, b, h1, _ => by
  have ha : a = [] := List.eq_nil_of_length_eq_zero (by omega)
  have hb : b = [] := List.eq_nil_of_length_eq_zero (by omega)
  subst ha hb; rfl
 | f + 1, 0, a, b, _, h2 => by
  have ha : a = [] := List.eq_nil_of_length_eq_zero (by omega)
  have hb : b = [] := List.eq_nil_of_length_eq_zero (by omega)
  subst ha hb; rfl
 | f + 1, g + 1, [], [], _, _ => rfl
 | f + 1, g + 1, x :: r, [], h1, h2 => by simp only [List.length_cons, List.length_nil] at h1 h2; simp only [walkN]; rw [walkN_fuel ch f g r [] (by simp; omega) (by simp; omega)]
 | f + 1, g + 1, [], y :: s, h1, h2 => by simp only [List.length_cons, List.length_nil] at h1 h2; simp only [walkN]; rw [walkN_fuel ch f g [] s (by simp; omega) (by simp; omega)]
 | f + 1, g + 1, x :: r, y :: s, h1, h2 => by
  simp only [List.length_cons] at h1 h2
  simp only [walkN]
  rw [walkN_fuel ch f g r (y :: s) (by simp; omega) (by simp; omega), walkN_fuel ch f g (x :: r) s (by simp; omega) (by simp; omega), walkN_fuel ch f g r s (by omega) (by omega)]
def walkT (ch : Int → Int → Int) (a b : List Tk) : List Tk := walkN ch (a.length + b.length) a b
section
variable {ch : Int → Int → Int} {x y : Tk} {r s : List Tk}
theorem wk_l : walkT ch (x :: r) [] = putT x.1 (ch x.2 0) (walkT ch r []) := by
 show walkN ch (r.length + 1 + 0) (x :: r) [] = _
 rfl
theorem wk_r : walkT ch [] (y :: s) = putT y.1 (ch 0 y.2) (walkT ch [] s) := by
 unfold walkT
 rw [walkN_fuel ch _ (s.length + 1) [] (y :: s) (by simp) (by simp), walkN_fuel ch _ s.length [] s (by simp) (by simp)]
 rfl
theorem wk_lt (h : x.1 < y.1) : walkT ch (x :: r) (y :: s) = putT x.1 (ch x.2 0) (walkT ch r (y :: s)) := by
 unfold walkT
 rw [walkN_fuel ch _ (r.length + (s.length + 1) + 1) (x :: r) (y :: s) (Nat.le_refl _) (by simp only [List.length_cons]; omega), walkN, if_pos h]
 rfl
theorem wk_gt (h : ¬ x.1 < y.1) (h2 : y.1 < x.1) : walkT ch (x :: r) (y :: s) = putT y.1 (ch 0 y.2) (walkT ch (x :: r) s) := by
 unfold walkT
 rw [walkN_fuel ch _ (r.length + 1 + s.length + 1) (x :: r) (y :: s) (Nat.le_refl _) (by simp only [List.length_cons]; omega), walkN, if_neg h, if_pos h2]
 rfl
theorem wk_eq (h : ¬ x.1 < y.1) (h2 : ¬ y.1 < x.1) : walkT ch (x :: r) (y :: s) = putT x.1 (ch x.2 y.2) (walkT ch r s) := by
 unfold walkT
 rw [walkN_fuel ch _ (r.length + s.length + 1 + 1) (x :: r) (y :: s) (Nat.le_refl _) (by simp only [List.length_cons]; omega), walkN, if_neg h, if_neg h2, walkN_fuel ch _ (r.length + s.length) r s (by omega) (by omega)]
theorem put_yes {p k : Int} {l acc u : List Tk} (h : decide (k > 0) = true) (hg : acc ++ putT p k l = u) : (acc ++ [(p, k)]) ++ l = u := by
 rw [← hg, putT, if_pos (by simpa using h)]; simp
theorem put_no {p k : Int} {l acc u : List Tk} (h : decide (k > 0) = false) (hg : acc ++ putT p k l = u) : acc ++ l = u := by
 rw [← hg, putT, if_neg (by simpa using h)]
end
theorem chunk_tk (x y : AV) : chunkA 2 1 [x, y] = [[x, y]] := rfl
theorem okE_tk (t : Tk) : okE 2 (tkC t) = true := rfl
theorem vc_len : ∀ (l : List Tk) (last : Int), validC last l = true → (l.length : Int) ≤ 63 - last ∨ l = []
 | [], _, _ => .inr rfl
 | t :: r, last, h => by
  simp only [validC, okTk, Bool.and_eq_true, Bool.not_eq_true', Bool.or_eq_false_iff, decide_eq_false_iff_not] at h
  rcases vc_len r t.1 h.2 with h1 | h1
  ·left; simp only [List.length_cons]; omega
  left; subst h1; simp only [List.length_cons, List.length_nil]; omega
theorem vc_64 {l : List Tk} (h : validC (-1) l = true) : l.length ≤ 64 := by
 rcases vc_len l _ h with h | h
 ·omega
 subst h; simp
def walkC (ch : Int → Int → Int) (a b : List Tk) : List Tk := if validC (-1) a && validC (-1) b then walkT ch a b else []
def chMinus (m n : Int) : Int := if m > n then m else 0
def minusT (a b : List Tk) : List Tk := walkC chMinus a b
def cmpC (a b : List Tk) : Int := if !(validC (-1) a && validC (-1) b) then 3 else if (minusT a b).length == 0 then (if (minusT b a).length == 0 then 0 else 1) else if (minusT b a).length == 0 then 2 else 3

set_option maxRecDepth 100000 in
set_option maxHeartbeats 1000000 in
theorem used_fc (v : Val) (n li pa en : Bool) : FC Tryz.prog 203 [.agg (valL v), bl n, bl li, bl pa, bl en] (bl (usedB v n li pa en)) := by
 refine fc_of_awp [10] Tryz.func203 rfl rfl 44 Tryz.ntmps203 (Nat.le_of_ble_eq_true rfl) ?_
 intro E hN
 refine rn9 ?_
 refine zc 12 ?_ ?_ <;> intro h2
 ·
  iterate 3 refine uK (w10 h2) ?_
  refine zh1 h2 ?_; refine rn3 ?_
  refine zc 19 ?_ ?_ <;> intro h3
  ·
   iterate 4 refine uK (w10 h3) ?_
   refine zh1 h3 ?_; refine zh1 rfl ?_; refine rn3 ?_
   refine zc 28 ?_ ?_ <;> intro h4
   ·
    iterate 4 refine uK (w10 h4) ?_
    refine zh1 h4 ?_; refine zh1 rfl ?_; refine rn3 ?_
    refine zc 37 ?_ ?_ <;> intro h5
    ·
     iterate 4 refine uK (w10 h5) ?_
     refine zh1 h5 ?_; refine zh1 rfl ?_; refine zS ?_; refine zQ ?_
     exact retB (by simp_all [usedB])
    refine uF (w00 h5) ?_; refine uL (w00 h5) ?_; refine uE (w00 h5) ?_; refine uP (w00 h5) (q_bin rfl rfl rfl) ?_; refine zh0 h5 ?_; refine zh1 rfl ?_
    refine zS ?_; refine zQ ?_
    exact retB (by simp_all [usedB])
   refine uF (w00 h4) ?_; refine uL (w00 h4) ?_; refine uE (w00 h4) ?_; refine uP (w00 h4) (q_bin rfl rfl rfl) ?_; refine zh0 h4 ?_; refine zh1 rfl ?_
   refine zM ?_
   refine zc 35 ?_ ?_ <;> intro h14
   ·
    refine uM (w11 h14) ?_; refine uM (w11 h14) ?_
    refine zc 37 ?_ ?_ <;> intro h5
    ·
     iterate 4 refine uK (w10 h5) ?_
     refine uP (w11 h14) (q_pick1 rfl rfl h5 rfl) ?_; refine zh1 h14 ?_; refine zS ?_; refine zQ ?_
     exact retB (by simp_all [usedB])
    refine uF (w00 h5) ?_; refine uL (w00 h5) ?_; refine uE (w00 h5) ?_; refine uP (w00 h5) (q_bin rfl rfl rfl) ?_
    refine uP (w11 h14) (q_pick0 rfl rfl h5 rfl) ?_; refine zh1 h14 ?_; refine zS ?_; refine zQ ?_
    exact retB (by simp_all [usedB])
   iterate 2 refine uK (w01 h14) ?_
   refine rn4 ?_; refine uK (w01 h14) ?_; refine zh0 h14 ?_; refine zS ?_; refine zQ ?_
   exact retB (by simp_all [usedB])
  refine uF (w00 h3) ?_; refine uL (w00 h3) ?_; refine uE (w00 h3) ?_; refine uP (w00 h3) (q_bin rfl rfl rfl) ?_; refine zh0 h3 ?_; refine zh1 rfl ?_
  refine zM ?_
  refine zc 26 ?_ ?_ <;> intro h22
  ·
   refine uM (w11 h22) ?_; refine uM (w11 h22) ?_
   refine zc 28 ?_ ?_ <;> intro h4
   ·
    iterate 4 refine uK (w10 h4) ?_
    refine uP (w11 h22) (q_pick1 rfl rfl h4 rfl) ?_; refine zh1 h22 ?_; refine rn3 ?_
    refine zc 37 ?_ ?_ <;> intro h5
    ·
     iterate 4 refine uK (w10 h5) ?_
     refine zh1 h5 ?_; refine zh1 rfl ?_; refine zS ?_; refine zQ ?_
     exact retB (by simp_all [usedB])
    refine uF (w00 h5) ?_; refine uL (w00 h5) ?_; refine uE (w00 h5) ?_; refine uP (w00 h5) (q_bin rfl rfl rfl) ?_; refine zh0 h5 ?_; refine zh1 rfl ?_
    refine zS ?_; refine zQ ?_
    exact retB (by simp_all [usedB])
   refine uF (w00 h4) ?_; refine uL (w00 h4) ?_; refine uE (w00 h4) ?_; refine uP (w00 h4) (q_bin rfl rfl rfl) ?_
   refine uP (w11 h22) (q_pick0 rfl rfl h4 rfl) ?_; refine zh1 h22 ?_; refine zM ?_
   refine zc 35 ?_ ?_ <;> intro h30
   ·
    refine uM (w11 h30) ?_; refine uM (w11 h30) ?_
    refine zc 37 ?_ ?_ <;> intro h5
    ·
     iterate 4 refine uK (w10 h5) ?_
     refine uP (w11 h30) (q_pick1 rfl rfl h5 rfl) ?_; refine zh1 h30 ?_; refine zS ?_; refine zQ ?_
     exact retB (by simp_all [usedB])
    refine uF (w00 h5) ?_; refine uL (w00 h5) ?_; refine uE (w00 h5) ?_; refine uP (w00 h5) (q_bin rfl rfl rfl) ?_
    refine uP (w11 h30) (q_pick0 rfl rfl h5 rfl) ?_; refine zh1 h30 ?_; refine zS ?_; refine zQ ?_
    exact retB (by simp_all [usedB])
   iterate 2 refine uK (w01 h30) ?_
   refine rn4 ?_; refine uK (w01 h30) ?_; refine zh0 h30 ?_; refine zS ?_; refine zQ ?_
   exact retB (by simp_all [usedB])
  iterate 2 refine uK (w01 h22) ?_
  refine rn4 ?_; refine uK (w01 h22) ?_; refine zh0 h22 ?_; refine rn8 ?_; refine zh0 rfl ?_; refine zS ?_; refine zQ ?_
  exact retB (by simp_all [usedB])
 refine uF (w00 h2) ?_; refine uL (w00 h2) ?_; refine uP (w00 h2) (q_bin rfl rfl rfl) ?_; refine zh0 h2 ?_; refine zM ?_
 refine zc 17 ?_ ?_ <;> intro h37
 ·
  refine uM (w11 h37) ?_; refine uM (w11 h37) ?_
  refine zc 19 ?_ ?_ <;> intro h3
  ·
   iterate 4 refine uK (w10 h3) ?_
   refine uP (w11 h37) (q_pick1 rfl rfl h3 rfl) ?_; refine zh1 h37 ?_; refine rn3 ?_
   refine zc 28 ?_ ?_ <;> intro h4
   ·
    iterate 4 refine uK (w10 h4) ?_
    refine zh1 h4 ?_; refine zh1 rfl ?_; refine rn3 ?_
    refine zc 37 ?_ ?_ <;> intro h5
    ·
     iterate 4 refine uK (w10 h5) ?_
     refine zh1 h5 ?_; refine zh1 rfl ?_; refine zS ?_; refine zQ ?_
     exact retB (by simp_all [usedB])
    refine uF (w00 h5) ?_; refine uL (w00 h5) ?_; refine uE (w00 h5) ?_; refine uP (w00 h5) (q_bin rfl rfl rfl) ?_; refine zh0 h5 ?_; refine zh1 rfl ?_
    refine zS ?_; refine zQ ?_
    exact retB (by simp_all [usedB])
   refine uF (w00 h4) ?_; refine uL (w00 h4) ?_; refine uE (w00 h4) ?_; refine uP (w00 h4) (q_bin rfl rfl rfl) ?_; refine zh0 h4 ?_; refine zh1 rfl ?_
   refine zM ?_
   refine zc 35 ?_ ?_ <;> intro h45
   ·
    refine uM (w11 h45) ?_; refine uM (w11 h45) ?_
    refine zc 37 ?_ ?_ <;> intro h5
    ·
     iterate 4 refine uK (w10 h5) ?_
     refine uP (w11 h45) (q_pick1 rfl rfl h5 rfl) ?_; refine zh1 h45 ?_; refine zS ?_; refine zQ ?_
     exact retB (by simp_all [usedB])
    refine uF (w00 h5) ?_; refine uL (w00 h5) ?_; refine uE (w00 h5) ?_; refine uP (w00 h5) (q_bin rfl rfl rfl) ?_
    refine uP (w11 h45) (q_pick0 rfl rfl h5 rfl) ?_; refine zh1 h45 ?_; refine zS ?_; refine zQ ?_
    exact retB (by simp_all [usedB])
   iterate 2 refine uK (w01 h45) ?_
   refine rn4 ?_; refine uK (w01 h45) ?_; refine zh0 h45 ?_; refine zS ?_; refine zQ ?_
   exact retB (by simp_all [usedB])
  refine uF (w00 h3) ?_; refine uL (w00 h3) ?_; refine uE (w00 h3) ?_; refine uP (w00 h3) (q_bin rfl rfl rfl) ?_
  refine uP (w11 h37) (q_pick0 rfl rfl h3 rfl) ?_; refine zh1 h37 ?_; refine zM ?_
  refine zc 26 ?_ ?_ <;> intro h53
  ·
   refine uM (w11 h53) ?_; refine uM (w11 h53) ?_
   refine zc 28 ?_ ?_ <;> intro h4
   ·
    iterate 4 refine uK (w10 h4) ?_
    refine uP (w11 h53) (q_pick1 rfl rfl h4 rfl) ?_; refine zh1 h53 ?_; refine rn3 ?_
    refine zc 37 ?_ ?_ <;> intro h5
    ·
     iterate 4 refine uK (w10 h5) ?_
     refine zh1 h5 ?_; refine zh1 rfl ?_; refine zS ?_; refine zQ ?_
     exact retB (by simp_all [usedB])
    refine uF (w00 h5) ?_; refine uL (w00 h5) ?_; refine uE (w00 h5) ?_; refine uP (w00 h5) (q_bin rfl rfl rfl) ?_; refine zh0 h5 ?_; refine zh1 rfl ?_
    refine zS ?_; refine zQ ?_
    exact retB (by simp_all [usedB])
   refine uF (w00 h4) ?_; refine uL (w00 h4) ?_; refine uE (w00 h4) ?_; refine uP (w00 h4) (q_bin rfl rfl rfl) ?_
   refine uP (w11 h53) (q_pick0 rfl rfl h4 rfl) ?_; refine zh1 h53 ?_; refine zM ?_
   refine zc 35 ?_ ?_ <;> intro h61
   ·
    refine uM (w11 h61) ?_; refine uM (w11 h61) ?_
    refine zc 37 ?_ ?_ <;> intro h5
    ·
     iterate 4 refine uK (w10 h5) ?_
     refine uP (w11 h61) (q_pick1 rfl rfl h5 rfl) ?_; refine zh1 h61 ?_; refine zS ?_; refine zQ ?_
     exact retB (by simp_all [usedB])
    refine uF (w00 h5) ?_; refine uL (w00 h5) ?_; refine uE (w00 h5) ?_; refine uP (w00 h5) (q_bin rfl rfl rfl) ?_
    refine uP (w11 h61) (q_pick0 rfl rfl h5 rfl) ?_; refine zh1 h61 ?_; refine zS ?_; refine zQ ?_
    exact retB (by simp_all [usedB])
   iterate 2 refine uK (w01 h61) ?_
   refine rn4 ?_; refine uK (w01 h61) ?_; refine zh0 h61 ?_; refine zS ?_; refine zQ ?_
   exact retB (by simp_all [usedB])
  iterate 2 refine uK (w01 h53) ?_
  refine rn4 ?_; refine uK (w01 h53) ?_; refine zh0 h53 ?_; refine rn8 ?_; refine zh0 rfl ?_; refine zS ?_; refine zQ ?_
  exact retB (by simp_all [usedB])
 iterate 2 refine uK (w01 h37) ?_
 refine rn4 ?_; refine uK (w01 h37) ?_; refine zh0 h37 ?_; refine rn8 ?_; refine zh0 rfl ?_; refine rn8 ?_; refine zh0 rfl ?_; refine zS ?_
 refine zQ ?_
 exact retB (by simp_all [usedB])
set_option maxRecDepth 100000 in
set_option maxHeartbeats 1000000 in
theorem allowed_fc (only l : List Nm) : FC Tryz.prog 204 [svs only, svs l] (bl (allowedB only l)) := by
 refine fc_of_awp [4] Tryz.func204 rfl rfl 31 Tryz.ntmps204 (Nat.le_of_ble_eq_true rfl) ?_
 intro E hN
 refine a_lm 1 rfl (fun hl1 => ?_)
 refine rn8 ?_; refine zP (q_call (sorted_fc l) rfl rfl rfl) ?_; refine rn2 ?_
 refine zq ?_ ?_ <;> intro h3
 ·
  have h1 := h3
  refine rn3 ?_; refine zQ ?_
  exact retB (by simp_all [allowedB])
 have h1 := h3
 refine rn9 ?_
 refine awp_loop (fun x : {k : Nat // k ≤ (l).length ∧ (l.drop k).all (okName only) = l.all (okName only)} => ⟨[(0, svs only), (10, svs l), (11, i64 l.length), (12, i64 (x.1 : Nat))], [], 0⟩) (fun x => (l).length - x.1) (⟨0, Nat.zero_le _, by simp⟩) ?_ ?_
 ·
  exact weak_scrub' rfl (zz2 ⟨(cgI (by simp)), rfl, (zz1 trivial)⟩) trivial
 rintro ⟨k, hk, hg⟩
 dsimp only
 refine rn5 ?_
 refine zq ?_ ?_ <;> intro h8
 ·
  have hlt : k < (l).length := by simpa using h8
  obtain ⟨x, hx⟩ := get_lt hlt
  refine rn5 ?_; refine zP (q_elem rfl rfl rfl k rfl _ (map_get hx) rfl) ?_; refine rn6 ?_; refine zP (q_call (valid_fc _) rfl rfl rfl) ?_
  refine rn2 ?_
  refine zc 19 ?_ ?_ <;> intro h11
  ·
   iterate 4 refine uK (w10 (m0 (n1 h11))) ?_
   refine rn4 ?_; refine uK (w10 (m0 (n1 h11))) ?_; refine zh1 (m0 (n1 h11)) ?_; refine zN ?_; refine c_true rfl rfl ?_; refine rn3 ?_; refine zQ ?_
   exact retB (by rw [allowedB, all_no hg hx (by simp_all [okName])]; simp)
  refine uM (w00 (m1 (n0 h11))) ?_; refine uE (w00 (m1 (n0 h11))) ?_; refine uP (w00 (m1 (n0 h11))) (q_bin rfl rfl rfl) ?_
  refine uM (w00 (m1 (n0 h11))) ?_
  refine zc 23 ?_ ?_ <;> intro h13
  ·
   refine uM (w11 h13) ?_; refine uM (w11 h13) ?_; refine uP (w11 h13) (q_call (has_fc only _) rfl rfl rfl) ?_; refine uP (w11 h13) (q_not rfl rfl) ?_
   refine uP (w00 (m1 (n0 h11))) (q_pick1 rfl rfl h13 rfl) ?_; refine zh0 (m1 (n0 h11)) ?_; refine zN ?_
   refine zq ?_ ?_ <;> intro h14
   ·
    refine rn3 ?_; refine zQ ?_
    exact retB (by rw [allowedB, all_no hg hx (by simp_all [okName])]; simp)
   refine rn2 ?_; refine zP (q_addi rfl rfl rfl (by omega)) ?_; refine zM ?_; refine aops_nil ?_
   exact ⟨⟨k + 1, hlt, all_go hg hx (by simp_all [okName])⟩, weak_scrub' rfl (zz3 ⟨(cgI (by dsimp only; omega)), rfl, trivial⟩) trivial, by dsimp only; omega⟩
  iterate 4 refine uK (w01 h13) ?_
  refine uP (w00 (m1 (n0 h11))) (q_pick0 rfl rfl h13 rfl) ?_; refine zh0 (m1 (n0 h11)) ?_; refine zN ?_; refine c_false rfl rfl ?_; refine rn2 ?_
  refine zP (q_addi rfl rfl rfl (by omega)) ?_; refine zM ?_; refine aops_nil ?_
  exact ⟨⟨k + 1, hlt, all_go hg hx (by simp_all [okName])⟩, weak_scrub' rfl (zz3 ⟨(cgI (by dsimp only; omega)), rfl, trivial⟩) trivial, by dsimp only; omega⟩
 have hge : (l).length ≤ k := by simpa using h8
 refine rn4 ?_; refine zQ ?_
 exact retB (by rw [allowedB, all_end hg hge]; simp_all)
set_option maxRecDepth 100000 in
set_option maxHeartbeats 1000000 in
theorem closed_fc (rs : List Ru) (l : List Nm) : FC Tryz.prog 205 [rus rs, svs l] (bl (closedB rs l)) := by
 refine fc_of_awp [4] Tryz.func205 rfl rfl 25 Tryz.ntmps205 (Nat.le_of_ble_eq_true rfl) ?_
 intro E hN
 refine a_lm 0 rfl (fun hl0 => ?_)
 refine rn12 ?_
 refine awp_loop (fun x : {k : Nat // k ≤ (rs).length ∧ (rs.drop k).all (okRule l) = rs.all (okRule l)} => ⟨[(1, svs l), (7, rus rs), (8, i64 rs.length), (9, i64 (x.1 : Nat))], [], 0⟩) (fun x => (rs).length - x.1) (⟨0, Nat.zero_le _, by simp⟩) ?_ ?_
 ·
  exact weak_scrub' rfl (zz2 ⟨(cgI (by simp)), rfl, (zz1 trivial)⟩) trivial
 rintro ⟨k, hk, hg⟩
 dsimp only
 refine rn5 ?_
 refine zq ?_ ?_ <;> intro h7
 ·
  have hlt : k < (rs).length := by simpa using h7
  obtain ⟨x, hx⟩ := get_lt hlt
  refine rn5 ?_; refine zP (q_elem rfl rfl rfl k rfl _ (map_get hx) rfl) ?_; refine rn9 ?_; refine zP (q_call (subset_fc _ l) rfl rfl rfl) ?_
  refine zM ?_
  refine zc 17 ?_ ?_ <;> intro h14
  ·
   refine uM (w11 h14) ?_; refine uF (w11 h14) ?_; refine uL (w11 h14) ?_; refine uP (w11 h14) (q_call (has_fc l _) rfl rfl rfl) ?_
   refine uP (w11 h14) (q_not rfl rfl) ?_; refine zh1 h14 ?_; refine zN ?_
   refine zq ?_ ?_ <;> intro h17
   ·
    refine rn3 ?_; refine zQ ?_
    exact retB (all_no hg hx (by simp_all [okRule])).symm
   refine rn2 ?_; refine zP (q_addi rfl rfl rfl (by omega)) ?_; refine zM ?_; refine aops_nil ?_
   exact ⟨⟨k + 1, hlt, all_go hg hx (by simp_all [okRule])⟩, weak_scrub' rfl (zz3 ⟨(cgI (by dsimp only; omega)), rfl, trivial⟩) trivial, by dsimp only; omega⟩
  iterate 5 refine uK (w01 h14) ?_
  refine zh0 h14 ?_; refine zN ?_; refine c_false rfl rfl ?_; refine rn2 ?_; refine zP (q_addi rfl rfl rfl (by omega)) ?_; refine zM ?_
  refine aops_nil ?_
  exact ⟨⟨k + 1, hlt, all_go hg hx (by simp_all [okRule])⟩, weak_scrub' rfl (zz3 ⟨(cgI (by dsimp only; omega)), rfl, trivial⟩) trivial, by dsimp only; omega⟩
 have hge : (rs).length ≤ k := by simpa using h7
 refine rn4 ?_; refine zQ ?_
 exact retB (all_end hg hge).symm
set_option maxRecDepth 100000 in
set_option maxHeartbeats 1000000 in
theorem validC_fc (l : List Tk) : FC Tryz.prog 200 [tks l] (bl (validC (-1) l)) := by
 refine fc_of_awp [2] Tryz.func200 rfl rfl 34 Tryz.ntmps200 (Nat.le_of_ble_eq_true rfl) ?_
 intro E hN
 refine a_lm 0 rfl (fun hl0 => ?_)
 refine rn16 ?_
 refine awp_loop (fun x : {q : Nat × Int // q.1 ≤ l.length ∧ validC q.2 (l.drop q.1) = validC (-1) l} => ⟨[(3, i64 x.1.2), (6, tks l), (7, i64 l.length), (8, i64 (x.1.1 : Nat))], [], 0⟩) (fun x => l.length - x.1.1) (⟨(0, -1), Nat.zero_le _, by simp⟩) ?_ ?_
 ·
  exact weak_scrub' rfl (zz2 ⟨(cgI (by simp)), rfl, (zz1 trivial)⟩) trivial
 rintro ⟨⟨k, last⟩, hk, hg⟩
 dsimp only at hk hg ⊢
 refine rn5 ?_
 refine zq ?_ ?_ <;> intro h7
 ·
  have hlt : k < (l).length := by simpa using h7
  obtain ⟨x, hx⟩ := get_lt hlt
  have hs := vc_step hg hx
  refine rn5 ?_; refine zP (q_elem rfl rfl rfl k rfl _ (map_get hx) rfl) ?_; refine rn12 ?_
  refine zc 16 ?_ ?_ <;> intro h14
  ·
   iterate 3 refine uK (w10 h14) ?_
   refine zh1 h14 ?_; refine rn4 ?_; refine zh1 rfl ?_; refine rn4 ?_; refine zh1 rfl ?_; refine zN ?_; refine c_true rfl rfl ?_; refine rn3 ?_
   refine zQ ?_
   exact retB (by rw [hs]; simp_all [okTk])
  refine uF (w00 h14) ?_; refine uL (w00 h14) ?_; refine uP (w00 h14) (q_bin rfl rfl rfl) ?_; refine zh0 h14 ?_; refine zM ?_
  refine zc 21 ?_ ?_ <;> intro h17
  ·
   iterate 3 refine uK (w10 h17) ?_
   refine zh1 h17 ?_; refine rn4 ?_; refine zh1 rfl ?_; refine zN ?_; refine c_true rfl rfl ?_; refine rn3 ?_; refine zQ ?_
   exact retB (by rw [hs]; simp_all [okTk])
  refine uF (w00 h17) ?_; refine uL (w00 h17) ?_; refine uP (w00 h17) (q_bin rfl rfl rfl) ?_; refine zh0 h17 ?_; refine zM ?_
  refine zc 26 ?_ ?_ <;> intro h20
  ·
   iterate 3 refine uK (w10 h20) ?_
   refine zh1 h20 ?_; refine zN ?_; refine c_true rfl rfl ?_; refine rn3 ?_; refine zQ ?_
   exact retB (by rw [hs]; simp_all [okTk])
  refine uF (w00 h20) ?_; refine uL (w00 h20) ?_; refine uP (w00 h20) (q_bin rfl rfl rfl) ?_; refine zh0 h20 ?_; refine zN ?_
  refine zq ?_ ?_ <;> intro h23
  ·
   refine rn3 ?_; refine zQ ?_
   exact retB (by rw [hs]; simp_all [okTk])
  have hok : okTk last x = true := by simp_all [okTk]
  refine rn7 ?_; refine zP (q_addi rfl rfl rfl (by omega)) ?_; refine zM ?_; refine aops_nil ?_
  exact ⟨⟨(k + 1, x.1), hlt, by rw [hs, hok]; rfl⟩, weak_scrub' rfl (zz3 ⟨(cgI (by dsimp only; omega)), rfl, trivial⟩) trivial, by dsimp only; omega⟩
 have hge : (l).length ≤ k := by simpa using h7
 refine rn4 ?_; refine zQ ?_
 exact retB (vc_end hg hge).symm
set_option maxRecDepth 100000 in
set_option maxHeartbeats 1000000 in
theorem walk_fc {f : FuncId} [TFn Tryz.prog f] {ch : Int → Int → Int} (hc : ∀ m n, FC Tryz.prog f [i64 m, i64 n] (i64 (ch m n))) (a b : List Tk) : FC Tryz.prog 211 [tks a, tks b, .fn f []] (tks (walkC ch a b)) := by
 refine fc_of_awp [6] Tryz.func211 rfl rfl 112 Tryz.ntmps211 (Nat.le_of_ble_eq_true rfl) ?_
 intro E hN
 refine rn8 ?_; refine zP (q_call (validC_fc a) rfl rfl rfl) ?_; refine rn2 ?_
 refine zc 15 ?_ ?_ <;> intro h4
 ·
  iterate 3 refine uK (w10 (m0 (n1 h4))) ?_
  refine zh1 (m0 (n1 h4)) ?_; refine zN ?_; refine c_true rfl rfl ?_; refine rn3 ?_; refine zQ ?_
  exact retL (by simp_all [walkC])
 refine uM (w00 (m1 (n0 h4))) ?_; refine uP (w00 (m1 (n0 h4))) (q_call (validC_fc b) rfl rfl rfl) ?_; refine uP (w00 (m1 (n0 h4))) (q_not rfl rfl) ?_
 refine zh0 (m1 (n0 h4)) ?_; refine zN ?_
 refine zq ?_ ?_ <;> intro h5
 ·
  have h1 := h5
  refine rn3 ?_; refine zQ ?_
  exact retL (by simp_all [walkC])
 have h1 : (validC (-1) a && validC (-1) b) = true := by simp_all
 have ha64 := vc_64 (l := a) (by simp_all)
 have hb64 := vc_64 (l := b) (by simp_all)
 refine rn7 ?_; refine awp_weak (weak_tok rfl 7 153 2 rfl) ?_
 refine awp_loop (fun x : {q : List Tk × List Tk × List Tk // q.2.2 ++ walkT ch q.1 q.2.1 = walkT ch a b ∧ q.2.2.length + q.1.length + q.2.1.length ≤ a.length + b.length} => ⟨[(0, tks x.1.1), (1, tks x.1.2.1), (2, .fn f []), (7, .sl (x.1.2.2.map tkC) (some 0))], [(0, .tok 153 2 x.1.2.2.length)], 1⟩) (fun x => x.1.1.length + x.1.2.1.length) (⟨(a, b, []), rfl, by simp⟩) ?_ ?_
 ·
  exact weak_scrub' rfl (zz4 trivial) ⟨rfl, rfl, rfl, trivial⟩
 rintro ⟨⟨u, v, acc⟩, hg, hlen⟩
 dsimp only at hg hlen ⊢
 rcases u with _ | ⟨x, r⟩ <;> rcases v with _ | ⟨y, s⟩
 ·
  skip
  refine rn5 ?_
  refine zP (q_binb (b := false) rfl rfl rfl (by simp <;> omega)) ?_
  refine rn3 ?_
  refine zP (q_binb (b := false) rfl rfl rfl (by simp <;> omega)) ?_
  refine zh0 rfl ?_; refine zN ?_; refine c_false rfl rfl ?_; refine rn5 ?_; refine zQ ?_
  exact retL (by rw [walkC, if_pos h1, ← hg]; simp [walkT, walkN])
 ·
  skip
  refine rn5 ?_
  refine zP (q_binb (b := false) rfl rfl rfl (by simp <;> omega)) ?_
  refine rn3 ?_
  refine zP (q_binb (b := true) rfl rfl rfl (by simp <;> omega)) ?_
  refine zh0 rfl ?_; refine zN ?_; refine c_true rfl rfl ?_; refine rn14 ?_; refine awp_draw 19 (by kernel_rfl) (by kernel_rfl) ?_; refine rn2 ?_
  refine zp (q_binb (b := false) rfl rfl rfl (by simp <;> omega)) ?_
  refine rn3 ?_
  refine zp (q_binb (b := false) rfl rfl rfl (by simp <;> omega)) ?_
  refine rn10 ?_; refine zp (q_pick0 rfl rfl rfl rfl) ?_; refine zp (q_pick0 rfl rfl rfl rfl) ?_; change AOps _ _ _ _ _ _; refine zT ?_
  refine c_false rfl rfl ?_; refine rn1 ?_; refine awp_draw 14 (by kernel_rfl) (by kernel_rfl) ?_; refine rn2 ?_
  refine zp (q_binb (b := true) rfl rfl rfl (by simp <;> omega)) ?_
  refine rn10 ?_; refine zp (q_pick1 rfl rfl rfl rfl) ?_; change AOps _ _ _ _ _ _; refine zT ?_; refine c_true rfl rfl ?_
  refine awp_draw 12 (by kernel_rfl) (by kernel_rfl) ?_; refine zm ?_; refine zp (q_elem rfl rfl rfl 0 rfl _ rfl rfl) ?_; refine rn3 ?_
  refine zp (q_elem rfl rfl rfl 0 rfl _ rfl rfl) ?_; refine rn3 ?_; refine zp (q_from rfl rfl rfl 1 rfl (by simp) (by exact fun _ => rfl)) ?_
  refine zp (q_assign rfl rfl) ?_; refine zp (q_assign rfl rfl) ?_; change AOps _ _ _ _ _ _; refine rn7 ?_
  refine zP (q_callv (hc _ _) rfl rfl rfl rfl) ?_; refine rn7 ?_
  refine zq ?_ ?_ <;> intro h25
  ·
   have h13 := h25
   refine rn5 ?_; refine zP (q_bslice rfl rfl rfl rfl (by exact rfl) (by decide) (by decide)) ?_
   refine s_append_tok hN rfl rfl rfl (by simp) rfl rfl (all_okE okE_tk _) rfl (by simp [chunk_tk] at hlen ⊢ <;> omega) rfl rfl rfl rfl ?_
   refine zS ?_; refine aops_nil ?_
   exact ⟨⟨([], s, acc ++ [(y.1, ch 0 y.2)]), put_yes h13 (by rw [← hg, wk_r]), by simp at hlen ⊢ <;> omega⟩, weak_scrub' rfl (zz3 ⟨(cgL (by simp [tkC, chunk_tk])), rfl, trivial⟩) ⟨(cgT (by simp [chunk_tk])), rfl, rfl, trivial⟩, by simp <;> omega⟩
  have h13 := h25
  refine awp_skip ?_
  exact ⟨⟨([], s, acc), put_no h13 (by rw [← hg, wk_r]), by simp at hlen ⊢ <;> omega⟩, weak_scrub' rfl (zz3 ⟨(cgL (by simp [tkC, chunk_tk])), rfl, trivial⟩) ⟨(cgT (by simp [chunk_tk])), rfl, rfl, trivial⟩, by simp <;> omega⟩
 ·
  skip
  refine rn5 ?_
  refine zP (q_binb (b := true) rfl rfl rfl (by simp <;> omega)) ?_
  refine rn4 ?_; refine zh1 rfl ?_; refine zN ?_; refine c_true rfl rfl ?_; refine rn14 ?_; refine awp_draw 19 (by kernel_rfl) (by kernel_rfl) ?_
  refine rn2 ?_
  refine zp (q_binb (b := true) rfl rfl rfl (by simp <;> omega)) ?_
  refine rn15 ?_; refine zp (q_pick1 rfl rfl rfl rfl) ?_; change AOps _ _ _ _ _ _; refine zT ?_; refine c_true rfl rfl ?_
  refine awp_draw 12 (by kernel_rfl) (by kernel_rfl) ?_; refine zm ?_; refine zp (q_elem rfl rfl rfl 0 rfl _ rfl rfl) ?_; refine rn3 ?_
  refine zp (q_elem rfl rfl rfl 0 rfl _ rfl rfl) ?_; refine rn3 ?_; refine zp (q_from rfl rfl rfl 1 rfl (by simp) (by exact fun _ => rfl)) ?_
  refine zp (q_assign rfl rfl) ?_; refine zp (q_assign rfl rfl) ?_; change AOps _ _ _ _ _ _; refine rn7 ?_
  refine zP (q_callv (hc _ _) rfl rfl rfl rfl) ?_; refine rn7 ?_
  refine zq ?_ ?_ <;> intro h39
  ·
   have h13 := h39
   refine rn5 ?_; refine zP (q_bslice rfl rfl rfl rfl (by exact rfl) (by decide) (by decide)) ?_
   refine s_append_tok hN rfl rfl rfl (by simp) rfl rfl (all_okE okE_tk _) rfl (by simp [chunk_tk] at hlen ⊢ <;> omega) rfl rfl rfl rfl ?_
   refine zS ?_; refine aops_nil ?_
   exact ⟨⟨(r, [], acc ++ [(x.1, ch x.2 0)]), put_yes h13 (by rw [← hg, wk_l]), by simp at hlen ⊢ <;> omega⟩, weak_scrub' rfl (zz3 ⟨(cgL (by simp [tkC, chunk_tk])), rfl, trivial⟩) ⟨(cgT (by simp [chunk_tk])), rfl, rfl, trivial⟩, by simp <;> omega⟩
  have h13 := h39
  refine awp_skip ?_
  exact ⟨⟨(r, [], acc), put_no h13 (by rw [← hg, wk_l]), by simp at hlen ⊢ <;> omega⟩, weak_scrub' rfl (zz3 ⟨(cgL (by simp [tkC, chunk_tk])), rfl, trivial⟩) ⟨(cgT (by simp [chunk_tk])), rfl, rfl, trivial⟩, by simp <;> omega⟩
 skip
 refine rn5 ?_
 refine zP (q_binb (b := true) rfl rfl rfl (by simp <;> omega)) ?_
 refine rn4 ?_; refine zh1 rfl ?_; refine zN ?_; refine c_true rfl rfl ?_; refine rn14 ?_; refine awp_draw 19 (by kernel_rfl) (by kernel_rfl) ?_
 refine rn2 ?_
 refine zp (q_binb (b := false) rfl rfl rfl (by simp <;> omega)) ?_
 refine rn3 ?_
 refine zp (q_binb (b := true) rfl rfl rfl (by simp <;> omega)) ?_
 refine rn2 ?_; refine zp (q_elem rfl rfl rfl 0 rfl _ rfl rfl) ?_; refine rn3 ?_; refine zp (q_elem rfl rfl rfl 0 rfl _ rfl rfl) ?_; refine rn3 ?_
 refine zp (q_pick1 rfl rfl rfl rfl) ?_; refine zp (q_pick0 rfl rfl rfl rfl) ?_; change AOps _ _ _ _ _ _; refine zT ?_
 refine zq ?_ ?_ <;> intro h52
 ·
  have h8 := h52
  refine awp_draw 12 (by kernel_rfl) (by kernel_rfl) ?_; refine zm ?_; refine zp (q_elem rfl rfl rfl 0 rfl _ rfl rfl) ?_; refine rn3 ?_
  refine zp (q_elem rfl rfl rfl 0 rfl _ rfl rfl) ?_; refine rn3 ?_; refine zp (q_from rfl rfl rfl 1 rfl (by simp) (by exact fun _ => rfl)) ?_
  refine zp (q_assign rfl rfl) ?_; refine zp (q_assign rfl rfl) ?_; change AOps _ _ _ _ _ _; refine rn7 ?_
  refine zP (q_callv (hc _ _) rfl rfl rfl rfl) ?_; refine rn7 ?_
  refine zq ?_ ?_ <;> intro h61
  ·
   have h13 := h61
   refine rn5 ?_; refine zP (q_bslice rfl rfl rfl rfl (by exact rfl) (by decide) (by decide)) ?_
   refine s_append_tok hN rfl rfl rfl (by simp) rfl rfl (all_okE okE_tk _) rfl (by simp [chunk_tk] at hlen ⊢ <;> omega) rfl rfl rfl rfl ?_
   refine zS ?_; refine aops_nil ?_
   exact ⟨⟨(r, y :: s, acc ++ [(x.1, ch x.2 0)]), put_yes h13 (by rw [← hg, wk_lt (by simpa using h8)]), by simp at hlen ⊢ <;> omega⟩, weak_scrub' rfl (zz3 ⟨(cgL (by simp [tkC, chunk_tk])), rfl, trivial⟩) ⟨(cgT (by simp [chunk_tk])), rfl, rfl, trivial⟩, by simp <;> omega⟩
  have h13 := h61
  refine awp_skip ?_
  exact ⟨⟨(r, y :: s, acc), put_no h13 (by rw [← hg, wk_lt (by simpa using h8)]), by simp at hlen ⊢ <;> omega⟩, weak_scrub' rfl (zz3 ⟨(cgL (by simp [tkC, chunk_tk])), rfl, trivial⟩) ⟨(cgT (by simp [chunk_tk])), rfl, rfl, trivial⟩, by simp <;> omega⟩
 have h8 := h52
 refine rn1 ?_; refine awp_draw 14 (by kernel_rfl) (by kernel_rfl) ?_; refine rn2 ?_
 refine zp (q_binb (b := false) rfl rfl rfl (by simp <;> omega)) ?_
 refine rn2 ?_; refine zp (q_elem rfl rfl rfl 0 rfl _ rfl rfl) ?_; refine rn3 ?_; refine zp (q_elem rfl rfl rfl 0 rfl _ rfl rfl) ?_; refine rn3 ?_
 refine zp (q_pick0 rfl rfl rfl rfl) ?_; change AOps _ _ _ _ _ _; refine zT ?_
 refine zq ?_ ?_ <;> intro h72
 ·
  have h10 := h72
  refine awp_draw 12 (by kernel_rfl) (by kernel_rfl) ?_; refine zm ?_; refine zp (q_elem rfl rfl rfl 0 rfl _ rfl rfl) ?_; refine rn3 ?_
  refine zp (q_elem rfl rfl rfl 0 rfl _ rfl rfl) ?_; refine rn3 ?_; refine zp (q_from rfl rfl rfl 1 rfl (by simp) (by exact fun _ => rfl)) ?_
  refine zp (q_assign rfl rfl) ?_; refine zp (q_assign rfl rfl) ?_; change AOps _ _ _ _ _ _; refine rn7 ?_
  refine zP (q_callv (hc _ _) rfl rfl rfl rfl) ?_; refine rn7 ?_
  refine zq ?_ ?_ <;> intro h81
  ·
   have h13 := h81
   refine rn5 ?_; refine zP (q_bslice rfl rfl rfl rfl (by exact rfl) (by decide) (by decide)) ?_
   refine s_append_tok hN rfl rfl rfl (by simp) rfl rfl (all_okE okE_tk _) rfl (by simp [chunk_tk] at hlen ⊢ <;> omega) rfl rfl rfl rfl ?_
   refine zS ?_; refine aops_nil ?_
   exact ⟨⟨(x :: r, s, acc ++ [(y.1, ch 0 y.2)]), put_yes h13 (by rw [← hg, wk_gt (by simpa using h8) (by simpa using h10)]), by simp at hlen ⊢ <;> omega⟩, weak_scrub' rfl (zz3 ⟨(cgL (by simp [tkC, chunk_tk])), rfl, trivial⟩) ⟨(cgT (by simp [chunk_tk])), rfl, rfl, trivial⟩, by simp <;> omega⟩
  have h13 := h81
  refine awp_skip ?_
  exact ⟨⟨(x :: r, s, acc), put_no h13 (by rw [← hg, wk_gt (by simpa using h8) (by simpa using h10)]), by simp at hlen ⊢ <;> omega⟩, weak_scrub' rfl (zz3 ⟨(cgL (by simp [tkC, chunk_tk])), rfl, trivial⟩) ⟨(cgT (by simp [chunk_tk])), rfl, rfl, trivial⟩, by simp <;> omega⟩
 have h10 := h72
 refine awp_draw 20 (by kernel_rfl) (by kernel_rfl) ?_; refine zm ?_; refine zp (q_elem rfl rfl rfl 0 rfl _ rfl rfl) ?_; refine rn3 ?_
 refine zp (q_elem rfl rfl rfl 0 rfl _ rfl rfl) ?_; refine rn3 ?_; refine zp (q_elem rfl rfl rfl 0 rfl _ rfl rfl) ?_; refine rn3 ?_
 refine zp (q_from rfl rfl rfl 1 rfl (by simp) (by exact fun _ => rfl)) ?_; refine zm ?_
 refine zp (q_from rfl rfl rfl 1 rfl (by simp) (by exact fun _ => rfl)) ?_; refine zp (q_assign rfl rfl) ?_; refine zp (q_assign rfl rfl) ?_
 refine zp (q_assign rfl rfl) ?_; refine zp (q_assign rfl rfl) ?_; change AOps _ _ _ _ _ _; refine rn7 ?_
 refine zP (q_callv (hc _ _) rfl rfl rfl rfl) ?_; refine rn7 ?_
 refine zq ?_ ?_ <;> intro h97
 ·
  have h13 := h97
  refine rn5 ?_; refine zP (q_bslice rfl rfl rfl rfl (by exact rfl) (by decide) (by decide)) ?_
  refine s_append_tok hN rfl rfl rfl (by simp) rfl rfl (all_okE okE_tk _) rfl (by simp [chunk_tk] at hlen ⊢ <;> omega) rfl rfl rfl rfl ?_
  refine zS ?_; refine aops_nil ?_
  exact ⟨⟨(r, s, acc ++ [(x.1, ch x.2 y.2)]), put_yes h13 (by rw [← hg, wk_eq (by simpa using h8) (by simpa using h10)]), by simp at hlen ⊢ <;> omega⟩, weak_scrub' rfl (zz3 ⟨(cgL (by simp [tkC, chunk_tk])), rfl, trivial⟩) ⟨(cgT (by simp [chunk_tk])), rfl, rfl, trivial⟩, by simp <;> omega⟩
 have h13 := h97
 refine awp_skip ?_
 exact ⟨⟨(r, s, acc), put_no h13 (by rw [← hg, wk_eq (by simpa using h8) (by simpa using h10)]), by simp at hlen ⊢ <;> omega⟩, weak_scrub' rfl (zz3 ⟨(cgL (by simp [tkC, chunk_tk])), rfl, trivial⟩) ⟨(cgT (by simp [chunk_tk])), rfl, rfl, trivial⟩, by simp <;> omega⟩
set_option maxRecDepth 100000 in
set_option maxHeartbeats 1000000 in
theorem chMinus_fc (m n : Int) : FC Tryz.prog 212 [i64 m, i64 n] (i64 (chMinus m n)) := by
 refine fc_of_awp [4] Tryz.func212 rfl rfl 9 Tryz.ntmps212 (Nat.le_of_ble_eq_true rfl) ?_
 intro E hN
 refine rn11 ?_
 refine zq ?_ ?_ <;> intro h3
 ·
  refine rn4 ?_; refine zQ ?_
  exact retI (by unfold chMinus; split <;> simp_all <;> omega)
 refine rn4 ?_; refine zQ ?_
 exact retI (by unfold chMinus; split <;> simp_all <;> omega)
set_option maxRecDepth 100000 in
set_option maxHeartbeats 1000000 in
theorem minus_fc (a b : List Tk) : FC Tryz.prog 201 [tks a, tks b] (tks (minusT a b)) := by
 refine fc_of_awp [4] Tryz.func201 rfl rfl 8 Tryz.ntmps201 (Nat.le_of_ble_eq_true rfl) ?_
 intro E hN
 refine rn8 ?_; refine zP (q_call (walk_fc chMinus_fc a b) rfl rfl rfl) ?_; refine zS ?_; refine zQ ?_
 rfl
set_option maxRecDepth 100000 in
set_option maxHeartbeats 1000000 in
theorem cmpC_fc (a b : List Tk) : FC Tryz.prog 187 [tks a, tks b] (i64 (cmpC a b)) := by
 refine fc_of_awp [4] Tryz.func187 rfl rfl 34 Tryz.ntmps187 (Nat.le_of_ble_eq_true rfl) ?_
 intro E hN
 refine rn8 ?_; refine zP (q_call (validC_fc a) rfl rfl rfl) ?_; refine rn2 ?_
 refine zc 10 ?_ ?_ <;> intro h3
 ·
  iterate 3 refine uK (w10 (m0 (n1 h3))) ?_
  refine zh1 (m0 (n1 h3)) ?_; refine zN ?_; refine c_true rfl rfl ?_; refine rn3 ?_; refine zQ ?_
  exact retI (by simp_all [cmpC])
 refine uM (w00 (m1 (n0 h3))) ?_; refine uP (w00 (m1 (n0 h3))) (q_call (validC_fc b) rfl rfl rfl) ?_; refine uP (w00 (m1 (n0 h3))) (q_not rfl rfl) ?_
 refine zh0 (m1 (n0 h3)) ?_; refine zN ?_
 refine zq ?_ ?_ <;> intro h4
 ·
  refine rn3 ?_; refine zQ ?_
  exact retI (by simp_all [cmpC])
 refine rn5 ?_; refine zP (q_call (minus_fc a b) rfl rfl rfl) ?_; refine rn4 ?_; refine zP (q_call (minus_fc b a) rfl rfl rfl) ?_; refine rn11 ?_
 refine zc 27 ?_ ?_ <;> intro h7
 ·
  refine uM (w11 h7) ?_; refine zh1 h7 ?_; refine zT ?_
  refine zq ?_ ?_ <;> intro h10
  ·
   refine rn3 ?_; refine zQ ?_
   exact retI (by simp_all [cmpC])
  refine rn5 ?_; refine c_true rfl h7 ?_; refine rn3 ?_; refine zQ ?_
  exact retI (by simp_all [cmpC])
 refine uK (w01 h7) ?_; refine zh0 h7 ?_; refine zT ?_; refine c_false rfl rfl ?_; refine rn5 ?_; refine c_false rfl h7 ?_; refine rn5 ?_
 refine zq ?_ ?_ <;> intro h10
 ·
  refine rn3 ?_; refine zQ ?_
  exact retI (by simp_all [cmpC])
 refine rn4 ?_; refine zQ ?_
 exact retI (by simp_all [cmpC])
end Go.Proofs.YtaecccdkjmipeaaGreat
