/-
  Contracts: names.Of at sorted names, Union, Intersect.
-/
import Derived.Test.YtaecccdkjmipeaaGreatB8
import Derived.Test.YtaecccdkjmipeaaGreatA4
import Derived.Test.YtaecccdkjmipeaaGreatA6
import Derived.Test.YtaecccdkjmipeaaGreatB4
namespace Go.Proofs.YtaecccdkjmipeaaGreat
set_option maxRecDepth 100000
set_option maxHeartbeats 1000000
open Go.RowKit
def QnR (q : En) (x : En) : Bool := Qet q.1 x.1 == 1
def Qau (b : List En) (x : En) : Bool := !KN b x
def Qb2 (a : List En) (q : En) : Bool := !a.any (QnR q)
def Qd5 (x y : En) : Bool := decide (Ku x y ≤ 0)
def Yo (a b : List En) : List En := (a.filter (Qau b) ++ b.filter (Qb2 a)).mergeSort Qd5
theorem Qnu {l l2 : List En} (hp : l2.Perm l) (hs : l2.Pairwise (fun x y => 0 ≤ Ku y x)) : l2 = l.mergeSort Qd5 := by
 have hle : ∀ x y, Qd5 x y = true ↔ 0 ≤ Ku y x := fun x y => by simp [Qd5, YR.anti x y]
 have h1 : l2.Pairwise (fun x y => Qd5 x y = true) := hs.imp (fun h => (hle _ _).2 h)
 have h2 : (l.mergeSort Qd5).Pairwise (fun x y => Qd5 x y = true) := List.pairwise_mergeSort (fun x y z h1 h2 => by
   simp only [Qd5, decide_eq_true_eq] at *
   exact YR.trans _ _ _ h1 h2) (fun x y => by
   have := YR.anti x y
   simp only [Qd5, Bool.or_eq_true, decide_eq_true_eq]
   omega) l
 refine List.Perm.eq_of_pairwise (le := fun x y => Qd5 x y = true) (fun x y _ _ h3 h4 => ?_) h1 h2 (hp.trans (List.mergeSort_perm l Qd5).symm)
 simp only [Qd5, decide_eq_true_eq] at h3 h4
 have := YR.anti y x
 exact YR.eq _ _ (by omega)
theorem Qmq (e : En) : okE 2 (enC e) = true := rfl
theorem QqM (e : En) : fzs (enC e) = some (enC e) := rfl
theorem QN {α : Type} {f : α → List AV} {L : Nat} {te : TypeId} {k : Nat} (h : ∀ x, (f x).all (okId L) = true) (l : List α) : WH L (.arr te k (l.map f)) = true := by
 show ((l.map f).flatten).all (okId L) = true
 induction l with
 | nil => rfl
 | cons x l ih => rw [List.map_cons, List.flatten_cons, List.all_append, h, ih]; rfl
theorem Qjf (L : Nat) (e : En) : (enC e).all (okId L) = true := rfl
theorem QrN (e : En) : Qg 2 1 (enC e) = [enC e] := rfl
theorem Kq {q n n' : Nat} (h : n = n') : some (AV.own q n) = some (AV.own q n') := by rw [h]
theorem Yl {te : TypeId} {k : Nat} {es es' : List (List AV)} (h : es = es') : some (QH.arr te k es) = some (QH.arr te k es') := by rw [h]
theorem QcO {q : En → Bool} {l : List En} {k : Nat} {x : En} (hx : l[k]? = some x) (h : q x = true) : (l.take (k + 1)).filter q = (l.take k).filter q ++ [x] := by
 rw [List.take_add_one, hx, List.filter_append]; simp [h]
theorem QfZ {q : En → Bool} {l : List En} {k : Nat} {x : En} (hx : l[k]? = some x) (h : q x = false) : (l.take (k + 1)).filter q = (l.take k).filter q := by
 rw [List.take_add_one, hx, List.filter_append]; simp [h]
theorem Qfq {q : En → Bool} {l : List En} {k : Nat} : ((l.take k).filter q).length ≤ l.length := Nat.le_trans (List.length_filter_le _ _) (by simp; omega)
theorem Qpy (x y : En) : Jk (.mk 0 [] [] [x]) (.mk 0 [] [] [y]) = Ku x y := by
 rw [Qb6]
 simp only [Qn.N, Qn.nm, Qn.ps, Qn.es, Jp, Lib.compareInt]
 by_cases h : Ku x y = 0 <;> simp [orE, h]
theorem QmV (q x : En) : FC Tryz.prog 186 [.agg (enC x), .el (enC q)] (bl (QnR q x)) := by
 refine Qd [3] Tryz.func186 rfl rfl 10 Tryz.ntmps186 (Nat.le_of_ble_eq_true rfl) ?_
 intro E hN
 refine YJ ?_; refine zP (Qc (QgE _ _) rfl rfl rfl) ?_; refine QO ?_; refine zQ ?_
 rfl
theorem Qmw (x y : En) : FC Tryz.prog 189 [.agg (enC x), .agg (enC y)] (i64 (Ku x y)) := by
 refine Qd [4] Tryz.func189 rfl rfl 12 Tryz.ntmps189 (Nat.le_of_ble_eq_true rfl) ?_
 intro E hN
 refine JU ?_; refine zP (Qj rfl rfl rfl rfl (by exact rfl) (by decide) (by decide)) ?_; refine QO ?_
 refine zP (Qj rfl rfl rfl rfl (by exact rfl) (by decide) (by decide)) ?_; refine KO ?_
 refine zP (Qc (QaB (.mk 0 [] [] [x]) (.mk 0 [] [] [y])) rfl rfl rfl) ?_; refine zS ?_; refine zQ ?_
 exact Q2 (Qpy x y)
theorem Qp9 (a b : List En) (hab : a.length + b.length ≤ 1000000) : FC Tryz.prog 169 [ens a, ens b] (ens (Yo a b)) := by
 refine Qd [4] Tryz.func169 rfl rfl 43 Tryz.ntmps169 (Nat.le_of_ble_eq_true rfl) ?_
 intro E hN
 refine QeT ?_; refine Qu (Yu rfl 5 88 2 rfl) ?_
 refine Qi (fun x : {k : Nat // k ≤ (a).length ∧ True} => ⟨[(0, ens a), (1, ens b), (10, ens a), (11, i64 a.length), (12, i64 (x.1 : Nat)), (5, .own 0 ((a.take x.1).filter (Qau b)).length)], [(0, .arr 88 2 (((a.take x.1).filter (Qau b)).map enC))], 1⟩) (fun x => (a).length - x.1) (⟨0, Nat.zero_le _, by simp⟩) ?_ ?_
 ·
  exact Qa rfl (Xl ⟨(QE (by simp)), rfl, (Jg trivial)⟩) ⟨rfl, rfl, (QN (Qjf _) _), trivial⟩
 rintro ⟨k, hk, hg⟩
 dsimp only
 refine JK 10 rfl (fun hl8 => ?_)
 refine QA ?_
 refine zq ?_ ?_ <;> intro h10
 ·
  have hlt : k < (a).length := by simpa using h10
  obtain ⟨x, hx⟩ := Qk hlt
  refine QA ?_; refine zP (Qh rfl rfl rfl k rfl _ (Qq hx) rfl) ?_; refine XJ ?_; refine zP (Qc (Qg8 _ _) rfl rfl rfl) ?_
  refine QO ?_
  refine zq ?_ ?_ <;> intro h16
  ·
   have hkb : Qau b x = true := h16
   refine QC ?_; refine zP (Qj rfl rfl rfl rfl (by exact rfl) (by decide) (by decide)) ?_
   refine Xb hN rfl rfl rfl (by simp) rfl rfl rfl (by simp only [List.length_map, List.length_append, Xd, List.length_singleton]; have := Qfq (q := Qau b) (l := a) (k := k); have := Qfq (q := Qb2 a) (l := b) (k := k);  omega) rfl rfl rfl rfl ?_
   refine QA ?_; refine Qb ?_
   exact ⟨⟨k + 1, hlt, trivial⟩, Qa rfl (QR ⟨(QE (by dsimp only; omega)), rfl, (Kq (by first | (rw [QcO hx hkb]; simp [Xd, enC] <;> omega) | rw [QfZ hx hkb])), rfl, trivial⟩) ⟨(Yl (by first | (rw [QcO hx hkb]; simp [Xd, enC] <;> omega) | rw [QfZ hx hkb])), rfl, (QN (Qjf _) _), trivial⟩, by dsimp only; omega⟩
  have hkb : Qau b x = false := h16
  refine QJ ?_; refine Qb ?_
  exact ⟨⟨k + 1, hlt, trivial⟩, Qa rfl (QR ⟨(QE (by dsimp only; omega)), rfl, (Kq (by first | (rw [QcO hx hkb]; simp [Xd, enC] <;> omega) | rw [QfZ hx hkb])), rfl, trivial⟩) ⟨(Yl (by first | (rw [QcO hx hkb]; simp [Xd, enC] <;> omega) | rw [QfZ hx hkb])), rfl, (QN (Qjf _) _), trivial⟩, by dsimp only; omega⟩
 have hge : (a).length ≤ k := by simpa using h10
 refine JU ?_
 refine Qi (fun x : {k : Nat // k ≤ (b).length ∧ True} => ⟨[(0, ens a), (25, ens b), (26, i64 b.length), (27, i64 (x.1 : Nat)), (5, .own 0 (a.filter (Qau b) ++ (b.take x.1).filter (Qb2 a)).length)], [(0, .arr 88 2 ((a.filter (Qau b) ++ (b.take x.1).filter (Qb2 a)).map enC))], 1⟩) (fun x => (b).length - x.1) (⟨0, Nat.zero_le _, by simp⟩) ?_ ?_
 ·
  exact Qa rfl (Jg ⟨(QE (by simp)), rfl, rfl, rfl, (Kq (by rw [List.take_of_length_le hge]; simp)), rfl, trivial⟩) ⟨(Yl (by rw [List.take_of_length_le hge]; simp)), rfl, (QN (Qjf _) _), trivial⟩
 rintro ⟨k, hk, hg⟩
 clear hge
 dsimp only
 refine JK 25 rfl (fun hl8 => ?_)
 refine QA ?_
 refine zq ?_ ?_ <;> intro h28
 rotate_left
 ·
  have hge : (b).length ≤ k := by simpa using h28
  refine QO ?_
  have hacc : (a.filter (Qau b) ++ (b.take k).filter (Qb2 a)) = a.filter (Qau b) ++ b.filter (Qb2 a) := by rw [List.take_of_length_le hge]
  refine QO ?_
  refine QnE (sf := 188) hN QmO rfl (by decide) enC (a.filter (Qau b) ++ (b.take k).filter (Qb2 a)) Ku (fun g => YR.swo g) Qmq QqM Tryz.isAgg88 Tryz.sizeOf88 (fun x _ y _ => Qmw x y) rfl rfl rfl rfl (by have := Qfq (q := Qau b) (l := a) (k := a.length); have := Qfq (q := Qb2 a) (l := b) (k := k); rw [List.take_length] at *; simp only [List.length_append]; omega) rfl rfl rfl rfl (fun l2 hp hs2 => ?_)
  refine QO ?_
  refine Qu (QB 5 0 rfl rfl (by simp [hp.length_eq]) (Xa Qmq _) (fun e he => by obtain ⟨y, -, rfl⟩ := List.mem_map.1 he; exact QqM y) rfl) ?_
  refine QC ?_; refine zQ ?_
  exact Qir (by rw [Qnu hp hs2, hacc]; rfl)
 have hlt : k < (b).length := by simpa using h28
 obtain ⟨x, hx⟩ := Qk hlt
 refine QA ?_; refine zP (Qh rfl rfl rfl k rfl _ (Qq hx) rfl) ?_; refine QA ?_; refine Qu (J2 9 1 rfl rfl rfl rfl) ?_
 refine QO ?_; refine zP (Qec rfl rfl) ?_; refine zP (Qc (Qmc a (fun y _ => QmV x y)) rfl rfl rfl) ?_; refine QO ?_
 refine zq ?_ ?_ <;> intro h34
 ·
  have hka : Qb2 a x = true := h34
  refine QC ?_; refine zP (Qj rfl rfl rfl rfl (by exact rfl) (by decide) (by decide)) ?_
  refine Xb hN rfl rfl rfl (by simp) rfl rfl rfl (by simp only [List.length_map, List.length_append, Xd, List.length_singleton]; have := Qfq (q := Qau b) (l := a) (k := a.length); have := Qfq (q := Qb2 a) (l := b) (k := k); rw [List.take_length] at *; omega) rfl rfl rfl rfl ?_
  refine QA ?_; refine Qb ?_
  exact ⟨⟨k + 1, hlt, trivial⟩, Qa rfl (Xl ⟨(QE (by dsimp only; omega)), rfl, (Kq (by first | (rw [QcO hx hka]; simp [Xd, enC] <;> omega) | rw [QfZ hx hka])), rfl, trivial⟩) ⟨(Yl (by first | (rw [QcO hx hka]; simp [Xd, enC] <;> omega) | rw [QfZ hx hka])), rfl, (QN (Qjf _) _), trivial⟩, by dsimp only; omega⟩
 have hka : Qb2 a x = false := h34
 refine QJ ?_; refine Qb ?_
 exact ⟨⟨k + 1, hlt, trivial⟩, Qa rfl (Xl ⟨(QE (by dsimp only; omega)), rfl, (Kq (by first | (rw [QcO hx hka]; simp [Xd, enC] <;> omega) | rw [QfZ hx hka])), rfl, trivial⟩) ⟨(Yl (by first | (rw [QcO hx hka]; simp [Xd, enC] <;> omega) | rw [QfZ hx hka])), rfl, (QN (Qjf _) _), trivial⟩, by dsimp only; omega⟩
def QaS (b : Bool) (x : Nm) (l : List Nm) : List Nm := if b then x :: l else l
def QcK (lf bo ri : Bool) : Nat → List Nm → List Nm → List Nm
 | 0, _, _ => []
 | _ + 1, [], [] => []
 | f + 1, x :: r, [] => QaS lf x (QcK lf bo ri f r [])
 | f + 1, [], y :: s => QaS ri y (QcK lf bo ri f [] s)
 | f + 1, x :: r, y :: s => if Op.bytesLess x y then QaS lf x (QcK lf bo ri f r (y :: s)) else if Op.bytesLess y x then QaS ri y (QcK lf bo ri f (x :: r) s) else QaS bo x (QcK lf bo ri f r s)
section
variable (lf bo ri : Bool)
theorem Y4 : ∀ (f g : Nat) (a b : List Nm), a.length + b.length ≤ f → a.length + b.length ≤ g → QcK lf bo ri f a b = QcK lf bo ri g a b
 | 0, 0, _, _, _, _ => rfl
 | 0, g + 1, a, b, h1, _ => by
  have ha : a = [] := List.eq_nil_of_length_eq_zero (by omega)
  have hb : b = [] := List.eq_nil_of_length_eq_zero (by omega)
  subst ha hb; rfl
 | f + 1, 0, a, b, _, h2 => by
  have ha : a = [] := List.eq_nil_of_length_eq_zero (by omega)
  have hb : b = [] := List.eq_nil_of_length_eq_zero (by omega)
  subst ha hb; rfl
 | f + 1, g + 1, [], [], _, _ => rfl
 | f + 1, g + 1, x :: r, [], h1, h2 => by simp only [List.length_cons, List.length_nil] at h1 h2; simp only [QcK]; rw [Y4 f g r [] (by simp; omega) (by simp; omega)]
 | f + 1, g + 1, [], y :: s, h1, h2 => by simp only [List.length_cons, List.length_nil] at h1 h2; simp only [QcK]; rw [Y4 f g [] s (by simp; omega) (by simp; omega)]
 | f + 1, g + 1, x :: r, y :: s, h1, h2 => by
  simp only [List.length_cons] at h1 h2
  simp only [QcK]
  rw [Y4 f g r (y :: s) (by simp; omega) (by simp; omega), Y4 f g (x :: r) s (by simp; omega) (by simp; omega), Y4 f g r s (by omega) (by omega)]
def Wv (a b : List Nm) : List Nm := QcK lf bo ri (a.length + b.length) a b
end
section
variable {lf bo ri : Bool} {x y : Nm} {r s : List Nm}
theorem Qvu : Wv lf bo ri (x :: r) [] = QaS lf x (Wv lf bo ri r []) := by
 show QcK lf bo ri (r.length + 1 + 0) (x :: r) [] = _
 rfl
theorem QvG : Wv lf bo ri [] (y :: s) = QaS ri y (Wv lf bo ri [] s) := by
 unfold Wv
 rw [Y4 lf bo ri _ (s.length + 1) [] (y :: s) (by simp) (by simp), Y4 lf bo ri _ s.length [] s (by simp) (by simp)]
 rfl
theorem QrJ (h : Op.bytesLess x y = true) : Wv lf bo ri (x :: r) (y :: s) = QaS lf x (Wv lf bo ri r (y :: s)) := by
 unfold Wv
 rw [Y4 lf bo ri _ (r.length + (s.length + 1) + 1) (x :: r) (y :: s) (Nat.le_refl _) (by simp only [List.length_cons]; omega), QcK, if_pos h]
 rfl
theorem QqZ (h : Op.bytesLess x y = false) (h2 : Op.bytesLess y x = true) : Wv lf bo ri (x :: r) (y :: s) = QaS ri y (Wv lf bo ri (x :: r) s) := by
 unfold Wv
 rw [Y4 lf bo ri _ (r.length + 1 + s.length + 1) (x :: r) (y :: s) (Nat.le_refl _) (by simp only [List.length_cons]; omega), QcK, if_neg (by simp [h]), if_pos h2]
 rfl
theorem Qsx (h : Op.bytesLess x y = false) (h2 : Op.bytesLess y x = false) : Wv lf bo ri (x :: r) (y :: s) = QaS bo x (Wv lf bo ri r s) := by
 unfold Wv
 rw [Y4 lf bo ri _ (r.length + s.length + 1 + 1) (x :: r) (y :: s) (Nat.le_refl _) (by simp only [List.length_cons]; omega), QcK, if_neg (by simp [h]), if_neg (by simp [h2]), Y4 lf bo ri _ (r.length + s.length) r s (by omega) (by omega)]
theorem QhG {b : Bool} {x : Nm} {l acc u : List Nm} (h : b = true) (hg : acc ++ QaS b x l = u) : (acc ++ [x]) ++ l = u := by
 rw [← hg, QaS, if_pos h]; simp
theorem Qlk {b : Bool} {x : Nm} {l acc u : List Nm} (h : b = false) (hg : acc ++ QaS b x l = u) : acc ++ l = u := by
 rw [← hg, QaS, if_neg (by simp [h])]
theorem Yv (s : Nm) : okE 1 (WS s) = true := rfl
theorem Xs (x : AV) : Qg 1 1 [x] = [[x]] := rfl
end
theorem QtN (hof : ∀ l : List Nm, Qo l = true → l.length ≤ 1000000 → FC Tryz.prog 192 [XU l] (XU l)) (a b : List Nm) (ha : Qo a = true) (hb0 : Qo b = true) (hab : a.length + b.length ≤ 1000000) (lf bo ri : Bool) : FC Tryz.prog 179 [XU a, XU b, bl lf, bl bo, bl ri] (XU (Wv lf bo ri a b)) := by
 refine Qd [10] Tryz.func179 rfl rfl 87 Tryz.ntmps179 (Nat.le_of_ble_eq_true rfl) ?_
 intro E hN
 refine Xz ?_; refine zP (Qc (hof a ha (by omega)) rfl rfl rfl) ?_; refine zM ?_; refine zP (Qc (hof b hb0 (by omega)) rfl rfl rfl) ?_
 refine JU ?_; refine Qu (Qe8 rfl 13 9 1 rfl) ?_
 refine Qi (fun x : {q : List Nm × List Nm × List Nm // q.2.2 ++ Wv lf bo ri q.1 q.2.1 = Wv lf bo ri a b ∧ q.2.2.length + q.1.length + q.2.1.length ≤ a.length + b.length} => ⟨[(2, bl lf), (3, bl bo), (4, bl ri), (11, XU x.1.1), (12, XU x.1.2.1), (13, .sl (x.1.2.2.map WS) (some 0))], [(0, .tok 9 1 x.1.2.2.length)], 1⟩) (fun x => x.1.1.length + x.1.2.1.length) (⟨(a, b, []), rfl, by simp⟩) ?_ ?_
 ·
  exact Qa rfl (QR (Jg trivial)) ⟨rfl, rfl, rfl, trivial⟩
 rintro ⟨⟨u, v, acc⟩, hg, hlen⟩
 dsimp only at hg hlen ⊢
 rcases u with _ | ⟨x, r⟩ <;> rcases v with _ | ⟨y, s⟩
 ·
  skip
  refine QA ?_
  refine zP (Xc (b := false) rfl rfl rfl (by simp <;> omega)) ?_
  refine QC ?_
  refine zP (Xc (b := false) rfl rfl rfl (by simp <;> omega)) ?_
  refine XJ ?_; refine zQ ?_
  exact Qir (by rw [← hg]; simp [Wv, QcK])
 ·
  skip
  refine QA ?_
  refine zP (Xc (b := false) rfl rfl rfl (by simp <;> omega)) ?_
  refine QC ?_
  refine zP (Xc (b := true) rfl rfl rfl (by simp <;> omega)) ?_
  refine Xz ?_; refine Qy 17 (by kernel_rfl) (by kernel_rfl) ?_; refine QO ?_
  refine zp (Xc (b := false) rfl rfl rfl (by simp <;> omega)) ?_
  refine QC ?_
  refine zp (Xc (b := false) rfl rfl rfl (by simp <;> omega)) ?_
  refine XN ?_; change Qz _ _ _ _ _ _; refine QJ ?_; refine Qy 12 (by kernel_rfl) (by kernel_rfl) ?_; refine QO ?_
  refine zp (Xc (b := true) rfl rfl rfl (by simp <;> omega)) ?_
  refine JU ?_; change Qz _ _ _ _ _ _; refine XJ ?_
  refine zq ?_ ?_ <;> intro h10
  ·
   have hb := h10
   refine QC ?_; refine zP (Qh rfl rfl rfl 0 rfl _ rfl rfl) ?_; refine zL ?_
   refine zP (Qj rfl rfl rfl rfl (by exact rfl) (by decide) (by decide)) ?_
   refine Xh hN rfl rfl rfl (by simp) rfl rfl (Xa Yv _) rfl (by simp [Xs] at hlen ⊢ <;> omega) rfl rfl rfl rfl ?_
   refine QJ ?_; refine zP (KD rfl rfl rfl 1 rfl (by simp) (by exact fun _ => rfl)) ?_; refine zS ?_; refine Qb ?_
   exact ⟨⟨([], s, acc ++ [y]), QhG hb (by rw [← hg, QvG]), by simp at hlen ⊢ <;> omega⟩, Qa rfl (QR (Xu ⟨(cgL (by simp [WS, Xs])), rfl, trivial⟩)) ⟨(cgT (by simp [Xs])), rfl, rfl, trivial⟩, by simp <;> omega⟩
  have hb := h10
  refine QC ?_; refine zP (KD rfl rfl rfl 1 rfl (by simp) (by exact fun _ => rfl)) ?_; refine zS ?_; refine Qb ?_
  exact ⟨⟨([], s, acc), Qlk hb (by rw [← hg, QvG]), by simp at hlen ⊢ <;> omega⟩, Qa rfl (QR (Xu ⟨(cgL (by simp [WS, Xs])), rfl, trivial⟩)) ⟨(cgT (by simp [Xs])), rfl, rfl, trivial⟩, by simp <;> omega⟩
 ·
  skip
  refine QA ?_
  refine zP (Xc (b := true) rfl rfl rfl (by simp <;> omega)) ?_
  refine YJ ?_; refine Qy 17 (by kernel_rfl) (by kernel_rfl) ?_; refine QO ?_
  refine zp (Xc (b := true) rfl rfl rfl (by simp <;> omega)) ?_
  refine WG ?_; change Qz _ _ _ _ _ _; refine XJ ?_
  refine zq ?_ ?_ <;> intro h8
  ·
   have hb := h8
   refine QC ?_; refine zP (Qh rfl rfl rfl 0 rfl _ rfl rfl) ?_; refine zL ?_
   refine zP (Qj rfl rfl rfl rfl (by exact rfl) (by decide) (by decide)) ?_
   refine Xh hN rfl rfl rfl (by simp) rfl rfl (Xa Yv _) rfl (by simp [Xs] at hlen ⊢ <;> omega) rfl rfl rfl rfl ?_
   refine QJ ?_; refine zP (KD rfl rfl rfl 1 rfl (by simp) (by exact fun _ => rfl)) ?_; refine zS ?_; refine Qb ?_
   exact ⟨⟨(r, [], acc ++ [x]), QhG hb (by rw [← hg, Qvu]), by simp at hlen ⊢ <;> omega⟩, Qa rfl (QR (Xu ⟨(cgL (by simp [WS, Xs])), rfl, trivial⟩)) ⟨(cgT (by simp [Xs])), rfl, rfl, trivial⟩, by simp <;> omega⟩
  have hb := h8
  refine QC ?_; refine zP (KD rfl rfl rfl 1 rfl (by simp) (by exact fun _ => rfl)) ?_; refine zS ?_; refine Qb ?_
  exact ⟨⟨(r, [], acc), Qlk hb (by rw [← hg, Qvu]), by simp at hlen ⊢ <;> omega⟩, Qa rfl (QR (Xu ⟨(cgL (by simp [WS, Xs])), rfl, trivial⟩)) ⟨(cgT (by simp [Xs])), rfl, rfl, trivial⟩, by simp <;> omega⟩
 skip
 refine QA ?_
 refine zP (Xc (b := true) rfl rfl rfl (by simp <;> omega)) ?_
 refine YJ ?_; refine Qy 17 (by kernel_rfl) (by kernel_rfl) ?_; refine QO ?_
 refine zp (Xc (b := false) rfl rfl rfl (by simp <;> omega)) ?_
 refine QC ?_
 refine zp (Xc (b := true) rfl rfl rfl (by simp <;> omega)) ?_
 refine QO ?_; refine zp (Qh rfl rfl rfl 0 rfl _ rfl rfl) ?_; refine QO ?_; refine zp (Qh rfl rfl rfl 0 rfl _ rfl rfl) ?_; refine QJ ?_
 change Qz _ _ _ _ _ _; refine zT ?_
 refine zq ?_ ?_ <;> intro h42
 ·
  have hLt := h42
  refine QA ?_
  refine zq ?_ ?_ <;> intro h8
  ·
   have hb := h8
   refine QC ?_; refine zP (Qh rfl rfl rfl 0 rfl _ rfl rfl) ?_; refine zL ?_
   refine zP (Qj rfl rfl rfl rfl (by exact rfl) (by decide) (by decide)) ?_
   refine Xh hN rfl rfl rfl (by simp) rfl rfl (Xa Yv _) rfl (by simp [Xs] at hlen ⊢ <;> omega) rfl rfl rfl rfl ?_
   refine QJ ?_; refine zP (KD rfl rfl rfl 1 rfl (by simp) (by exact fun _ => rfl)) ?_; refine zS ?_; refine Qb ?_
   exact ⟨⟨(r, y :: s, acc ++ [x]), QhG hb (by rw [← hg, QrJ hLt]), by simp at hlen ⊢ <;> omega⟩, Qa rfl (QR (Xu ⟨(cgL (by simp [WS, Xs])), rfl, trivial⟩)) ⟨(cgT (by simp [Xs])), rfl, rfl, trivial⟩, by simp <;> omega⟩
  have hb := h8
  refine QC ?_; refine zP (KD rfl rfl rfl 1 rfl (by simp) (by exact fun _ => rfl)) ?_; refine zS ?_; refine Qb ?_
  exact ⟨⟨(r, y :: s, acc), Qlk hb (by rw [← hg, QrJ hLt]), by simp at hlen ⊢ <;> omega⟩, Qa rfl (QR (Xu ⟨(cgL (by simp [WS, Xs])), rfl, trivial⟩)) ⟨(cgT (by simp [Xs])), rfl, rfl, trivial⟩, by simp <;> omega⟩
 have hLt := h42
 refine KO ?_; refine Qy 12 (by kernel_rfl) (by kernel_rfl) ?_; refine QO ?_
 refine zp (Xc (b := false) rfl rfl rfl (by simp <;> omega)) ?_
 refine QO ?_; refine zp (Qh rfl rfl rfl 0 rfl _ rfl rfl) ?_; refine QO ?_; refine zp (Qh rfl rfl rfl 0 rfl _ rfl rfl) ?_; refine QC ?_
 change Qz _ _ _ _ _ _; refine zT ?_
 refine zq ?_ ?_ <;> intro h54
 ·
  have hGt := h54
  refine QA ?_
  refine zq ?_ ?_ <;> intro h10
  ·
   have hb := h10
   refine QC ?_; refine zP (Qh rfl rfl rfl 0 rfl _ rfl rfl) ?_; refine zL ?_
   refine zP (Qj rfl rfl rfl rfl (by exact rfl) (by decide) (by decide)) ?_
   refine Xh hN rfl rfl rfl (by simp) rfl rfl (Xa Yv _) rfl (by simp [Xs] at hlen ⊢ <;> omega) rfl rfl rfl rfl ?_
   refine QJ ?_; refine zP (KD rfl rfl rfl 1 rfl (by simp) (by exact fun _ => rfl)) ?_; refine zS ?_; refine Qb ?_
   exact ⟨⟨(x :: r, s, acc ++ [y]), QhG hb (by rw [← hg, QqZ hLt hGt]), by simp at hlen ⊢ <;> omega⟩, Qa rfl (QR (Xu ⟨(cgL (by simp [WS, Xs])), rfl, trivial⟩)) ⟨(cgT (by simp [Xs])), rfl, rfl, trivial⟩, by simp <;> omega⟩
  have hb := h10
  refine QC ?_; refine zP (KD rfl rfl rfl 1 rfl (by simp) (by exact fun _ => rfl)) ?_; refine zS ?_; refine Qb ?_
  exact ⟨⟨(x :: r, s, acc), Qlk hb (by rw [← hg, QqZ hLt hGt]), by simp at hlen ⊢ <;> omega⟩, Qa rfl (QR (Xu ⟨(cgL (by simp [WS, Xs])), rfl, trivial⟩)) ⟨(cgT (by simp [Xs])), rfl, rfl, trivial⟩, by simp <;> omega⟩
 have hGt := h54
 refine QA ?_
 refine zq ?_ ?_ <;> intro h9
 ·
  have hb := h9
  refine QC ?_; refine zP (Qh rfl rfl rfl 0 rfl _ rfl rfl) ?_; refine zL ?_
  refine zP (Qj rfl rfl rfl rfl (by exact rfl) (by decide) (by decide)) ?_
  refine Xh hN rfl rfl rfl (by simp) rfl rfl (Xa Yv _) rfl (by simp [Xs] at hlen ⊢ <;> omega) rfl rfl rfl rfl ?_
  refine zT ?_; refine Qy 5 (by kernel_rfl) (by kernel_rfl) ?_; refine zm ?_
  refine zp (KD rfl rfl rfl 1 rfl (by simp) (by exact fun _ => rfl)) ?_; refine zm ?_
  refine zp (KD rfl rfl rfl 1 rfl (by simp) (by exact fun _ => rfl)) ?_; refine zp (JP rfl rfl) ?_; change Qz _ _ _ _ _ _; refine zS ?_
  refine Qb ?_
  exact ⟨⟨(r, s, acc ++ [x]), QhG hb (by rw [← hg, Qsx hLt hGt]), by simp at hlen ⊢ <;> omega⟩, Qa rfl (QR (Xu ⟨(cgL (by simp [WS, Xs])), rfl, trivial⟩)) ⟨(cgT (by simp [Xs])), rfl, rfl, trivial⟩, by simp <;> omega⟩
 have hb := h9
 refine zW ?_; refine Qy 5 (by kernel_rfl) (by kernel_rfl) ?_; refine zm ?_
 refine zp (KD rfl rfl rfl 1 rfl (by simp) (by exact fun _ => rfl)) ?_; refine zm ?_
 refine zp (KD rfl rfl rfl 1 rfl (by simp) (by exact fun _ => rfl)) ?_; refine zp (JP rfl rfl) ?_; change Qz _ _ _ _ _ _; refine zS ?_
 refine Qb ?_
 exact ⟨⟨(r, s, acc), Qlk hb (by rw [← hg, Qsx hLt hGt]), by simp at hlen ⊢ <;> omega⟩, Qa rfl (QR (Xu ⟨(cgL (by simp [WS, Xs])), rfl, trivial⟩)) ⟨(cgT (by simp [Xs])), rfl, rfl, trivial⟩, by simp <;> omega⟩
theorem Qay (l : List Nm) : ∀ e ∈ l.map WS, fzs e = some e := fun e he => by
 obtain ⟨x, -, rfl⟩ := List.mem_map.1 he
 rfl
theorem Kn (l : List Nm) (hl : l.length ≤ 1000000) : FO Tryz.prog 113 [XU l] 9 1 (l.map WS) := by
 refine Qfn 2 Tryz.func113 rfl rfl 8 Tryz.ntmps113 (Nat.le_of_ble_eq_true rfl) ?_
 intro E hN
 refine XJ ?_
 refine Qm5 hN rfl rfl rfl rfl rfl rfl rfl (fun b hbb => ?_)
 refine zN ?_
 refine zq ?_ ?_ <;> intro h2
 ·
  have hnil : l = [] := by
   rcases l with _ | ⟨x, r⟩
   ·rfl
   have := hbb (by simp); rw [this] at h2; cases h2
  subst hnil
  refine QJ ?_; refine Qu (Yu rfl 2 9 1 rfl) ?_; refine QG ?_
  exact ⟨0, 0, rfl, rfl, rfl, Qay []⟩
 refine QC ?_; refine Wm hN rfl rfl rfl rfl rfl rfl ?_; refine zM ?_
 refine Xb hN rfl rfl rfl rfl rfl rfl (Xa Yv _) (by simp; omega) rfl rfl rfl rfl ?_
 refine zT ?_; refine QG ?_
 exact ⟨0, _, rfl, by simp, rfl, Qay l⟩
theorem Qcx : ∀ a : Nm, Op.bytesLess a a = false
 | [] => rfl
 | x :: a => by
  unfold Op.bytesLess
  simp [Qcx a, UInt8.lt_irrefl]
theorem QwS {a b : Nm} (h : Op.bytesLess a b = true) : (b == a) = false := by
 cases hb : (b == a) with
 | false => rfl
 | true =>
  have : b = a := by simpa using hb
  subst this
  rw [Qcx] at h; cases h
theorem Qnd (l : List Nm) (hs0 : Qo l = true) : FC Tryz.prog 208 [XU l] (XU l) := by
 refine Qd [2] Tryz.func208 rfl rfl 61 Tryz.ntmps208 (Nat.le_of_ble_eq_true rfl) ?_
 intro E hN
 refine JK 0 rfl (fun hl0 => ?_)
 refine YJ ?_
 refine zq ?_ ?_ <;> intro h3
 ·
  refine QJ ?_; refine zQ ?_
  rfl
 refine Xz ?_
 refine Qi (fun x : {k : Nat // 1 ≤ k ∧ Qo (l.drop (k - 1)) = Qo l ∧ k ≤ l.length + 1} => ⟨[(0, XU l), (3, i64 (x.1 : Nat))], [], 0⟩) (fun x => l.length + 1 - x.1) (⟨1, Nat.le_refl _, rfl, by omega⟩) ?_ ?_
 ·
  exact Qa rfl (Jg trivial) trivial
 rintro ⟨k, hk, hg, hk2⟩
 dsimp only
 refine XJ ?_
 refine zq ?_ ?_ <;> intro h7
 rotate_left
 ·
  refine QA ?_; refine zQ ?_
  rfl
 have hlt : k < l.length := by simpa using h7
 obtain ⟨x, hx⟩ := Qk hlt
 obtain ⟨y, hy⟩ := Qk (show k - 1 < l.length by omega)
 have hs := QfA hk hg hy hx
 rw [hs0] at hs
 have hs1 : (Op.bytesLess y x && Qo (l.drop k)) = true := hs.symm
 rw [Bool.and_eq_true] at hs1
 have hn : Qo (l.drop (k + 1 - 1)) = Qo l := by rw [Nat.add_sub_cancel, hs0]; exact hs1.2
 refine QJ ?_; refine Qy 9 (by kernel_rfl) (by kernel_rfl) ?_; refine QO ?_; refine zp (Qh rfl rfl rfl k rfl _ (Qq hx) rfl) ?_
 refine QC ?_; refine zp (WJ rfl rfl rfl (by omega)) ?_; refine zp (Qh rfl rfl rfl (k - 1) (by omega) _ (Qq hy) rfl) ?_; refine zl ?_
 change Qz _ _ _ _ _ _; refine zP (Xc (b := false) rfl rfl rfl (congrArg Value.bool (QwS hs1.1))) ?_; refine Xz ?_; refine Qb ?_
 exact ⟨⟨k + 1, by omega, hn, by omega⟩, Qa rfl (Xu ⟨(QE (by dsimp only; omega)), rfl, trivial⟩) trivial, by dsimp only; omega⟩
end Go.Proofs.YtaecccdkjmipeaaGreat
namespace Go.Proofs.YtaecccdkjmipeaaGreat
set_option maxRecDepth 100000
set_option maxHeartbeats 1000000
open Go.RowKit
theorem Qa5 : ∀ {a b d : Nm}, Op.bytesLess a b = true → Op.bytesLess b d = true → Op.bytesLess a d = true
 | _, [], _, h, _ => by rename_i a _; cases a <;> simp [Op.bytesLess] at h
 | [], _ :: _, [], _, h => by simp [Op.bytesLess] at h
 | [], _ :: _, _ :: _, _, _ => rfl
 | _ :: _, _ :: _, [], _, h => by simp [Op.bytesLess] at h
 | x :: a, y :: b, z :: d, h1, h2 => by
  unfold Op.bytesLess at h1 h2 ⊢
  simp only [Bool.or_eq_true, Bool.and_eq_true, decide_eq_true_eq, beq_iff_eq] at h1 h2 ⊢
  rcases h1 with h1 | ⟨rfl, h1⟩ <;> rcases h2 with h2 | ⟨rfl, h2⟩
  ·exact .inl (UInt8.lt_trans h1 h2)
  ·exact .inl h1
  ·exact .inl h2
  exact .inr ⟨rfl, Qa5 h1 h2⟩
theorem QuI : ∀ {a b : Nm}, Op.bytesLess a b = true → a ≤ b
 | [], _, _ => List.nil_le _
 | _ :: _, [], h => by simp [Op.bytesLess] at h
 | x :: a, y :: b, h => by
  rw [List.cons_le_cons_iff]
  unfold Op.bytesLess at h
  simp only [Bool.or_eq_true, Bool.and_eq_true, decide_eq_true_eq, beq_iff_eq] at h
  rcases h with h | ⟨h1, h2⟩
  ·exact .inl h
  exact .inr ⟨h1, QuI h2⟩
theorem Jm : ∀ {l : List Nm}, Qo l = true → l.Pairwise (fun a b => Op.bytesLess a b = true)
 | [], _ => List.Pairwise.nil
 | [_], _ => List.pairwise_singleton _ _
 | a :: b :: l, h => by
  have h : (Op.bytesLess a b && Qo (b :: l)) = true := h
  rw [Bool.and_eq_true] at h
  have ih := Jm h.2
  refine List.Pairwise.cons (fun d hd => ?_) ih
  rcases List.mem_cons.1 hd with rfl | hd
  ·exact h.1
  exact Qa5 h.1 ((List.pairwise_cons.1 ih).1 d hd)
theorem Qqh {l : List Nm} (h : Qo l = true) : (l.mergeSort fun x y => decide (x ≤ y)) = l :=
 List.mergeSort_of_pairwise ((Jm h).imp (fun h => by simpa using QuI h))
theorem Qwt (l : List Nm) (hs0 : Qo l = true) (hl : l.length ≤ 1000000) : FC Tryz.prog 192 [XU l] (XU l) := by
 refine Qd [2] Tryz.func192 rfl rfl 10 Tryz.ntmps192 (Nat.le_of_ble_eq_true rfl) ?_
 intro E hN
 refine Xz ?_; refine Qtx hN rfl (Kn l hl) (.fn _ _ _ _ rfl rfl) rfl rfl rfl rfl rfl ?_; refine QA ?_
 refine Quh hN QqC Qpz l rfl rfl (by simp) rfl (by omega) rfl rfl rfl rfl ?_
 rw [Qqh hs0]
 refine QO ?_; refine Qu (QB 3 0 rfl rfl (by simp) (Xa Yv _) (Qay l) rfl) ?_; refine QO ?_
 refine zP (Qc (Qnd l hs0) rfl rfl rfl) ?_; refine zS ?_; refine zQ ?_
 rfl
theorem Qrm (a b : List Nm) (ha : Qo a = true) (hb : Qo b = true) (hab : a.length + b.length ≤ 1000000) (lf bo ri : Bool) : FC Tryz.prog 179 [XU a, XU b, bl lf, bl bo, bl ri] (XU (Wv lf bo ri a b)) := QtN (fun l h1 h2 => Qwt l h1 h2) a b ha hb hab lf bo ri
theorem QhL (a b : List Nm) (ha : Qo a = true) (hb : Qo b = true) (hab : a.length + b.length ≤ 1000000) : FC Tryz.prog 167 [XU a, XU b] (XU (Wv true true true a b)) := by
 refine Qd [4] Tryz.func167 rfl rfl 8 Tryz.ntmps167 (Nat.le_of_ble_eq_true rfl) ?_
 intro E hN
 refine XJ ?_; refine zP (Qc (Qrm a b ha hb hab true true true) rfl rfl rfl) ?_; refine zS ?_; refine zQ ?_
 rfl
theorem QmD (l : List Nm) (hl : l.length ≤ 1000000) : FC Tryz.prog 113 [XU l] (XU l) := QkE (Kn l hl) (Xa Yv _)
theorem Qo2 (l : List Tk) : ∀ e ∈ l.map tkC, fzs e = some e := fun e he => by
 obtain ⟨x, -, rfl⟩ := List.mem_map.1 he
 rfl
theorem QmH (l : List Tk) (hl : l.length ≤ 1000000) : FO Tryz.prog 172 [tks l] 153 2 (l.map tkC) := by
 refine Qfn 2 Tryz.func172 rfl rfl 8 Tryz.ntmps172 (Nat.le_of_ble_eq_true rfl) ?_
 intro E hN
 refine XJ ?_
 refine Qm5 hN rfl rfl rfl rfl rfl rfl rfl (fun b hbb => ?_)
 refine zN ?_
 refine zq ?_ ?_ <;> intro h2
 ·
  have hnil : l = [] := by
   rcases l with _ | ⟨x, r⟩
   ·rfl
   have := hbb (by simp); rw [this] at h2; cases h2
  subst hnil
  refine QJ ?_; refine Qu (Yu rfl 2 153 2 rfl) ?_; refine QG ?_
  exact ⟨0, 0, rfl, rfl, rfl, Qo2 []⟩
 refine QC ?_; refine Wm hN rfl rfl rfl rfl rfl rfl ?_; refine zM ?_
 refine Xb hN rfl rfl rfl rfl rfl rfl (Xa Qed _) (by simp; omega) rfl rfl rfl rfl ?_
 refine zT ?_; refine QG ?_
 exact ⟨0, _, rfl, by simp, rfl, Qo2 l⟩
theorem QmZ (l : List Tk) (hl : l.length ≤ 1000000) : FC Tryz.prog 172 [tks l] (tks l) := QkE (QmH l hl) (Xa Qed _)
end Go.Proofs.YtaecccdkjmipeaaGreat
