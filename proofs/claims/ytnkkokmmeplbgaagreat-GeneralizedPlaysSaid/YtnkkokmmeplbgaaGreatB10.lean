/-
  Contracts: names.Of at sorted names, Union, Intersect.
-/
import Derived.Test.YtnkkokmmeplbgaaGreatB8
import Derived.Test.YtnkkokmmeplbgaaGreatA4
import Derived.Test.YtnkkokmmeplbgaaGreatB1
import Derived.Test.YtnkkokmmeplbgaaGreatB4
namespace Go.Proofs.YtnkkokmmeplbgaaGreat
set_option maxRecDepth 100000
set_option maxHeartbeats 1000000
open Go.RowKit
def Qn5 (q : En) (x : En) : Bool := QeB q.1 x.1 == 1
def QaR (b : List En) (x : En) : Bool := !J1 b x
def QbT (a : List En) (q : En) : Bool := !a.any (Qn5 q)
def Qd3 (x y : En) : Bool := decide (Jh x y ≤ 0)
def JE (a b : List En) : List En := (a.filter (QaR b) ++ b.filter (QbT a)).mergeSort Qd3
theorem Ql0 {l l2 : List En} (hp : l2.Perm l) (hs : l2.Pairwise (fun x y => 0 ≤ Jh y x)) : l2 = l.mergeSort Qd3 := by
 have hle : ∀ x y, Qd3 x y = true ↔ 0 ≤ Jh y x := fun x y => by simp [Qd3, Jo.anti x y]
 have h1 : l2.Pairwise (fun x y => Qd3 x y = true) := hs.imp (fun h => (hle _ _).2 h)
 have h2 : (l.mergeSort Qd3).Pairwise (fun x y => Qd3 x y = true) := List.pairwise_mergeSort (fun x y z h1 h2 => by
   simp only [Qd3, decide_eq_true_eq] at *
   exact Jo.trans _ _ _ h1 h2) (fun x y => by
   have := Jo.anti x y
   simp only [Qd3, Bool.or_eq_true, decide_eq_true_eq]
   omega) l
 refine List.Perm.eq_of_pairwise (le := fun x y => Qd3 x y = true) (fun x y _ _ h3 h4 => ?_) h1 h2 (hp.trans (List.mergeSort_perm l Qd3).symm)
 simp only [Qd3, decide_eq_true_eq] at h3 h4
 have := Jo.anti y x
 exact Jo.eq _ _ (by omega)
theorem Qef (e : En) : okE 2 (K3 e) = true := rfl
theorem QpU (e : En) : fzs (K3 e) = some (K3 e) := rfl
theorem Q4 {α : Type} {f : α → List AV} {L : Nat} {te : TypeId} {k : Nat} (h : ∀ x, (f x).all (okId L) = true) (l : List α) : JO L (.arr te k (l.map f)) = true := by
 show ((l.map f).flatten).all (okId L) = true
 induction l with
 | nil => rfl
 | cons x l ih => rw [List.map_cons, List.flatten_cons, List.all_append, h, ih]; rfl
theorem Qii (L : Nat) (e : En) : (K3 e).all (okId L) = true := rfl
theorem Qqm (e : En) : JI 2 1 (K3 e) = [K3 e] := rfl
theorem cgO {q n n' : Nat} (h : n = n') : some (AV.own q n) = some (AV.own q n') := by rw [h]
theorem cgA {te : TypeId} {k : Nat} {es es' : List (List AV)} (h : es = es') : some (Qs.arr te k es) = some (Qs.arr te k es') := by rw [h]
theorem Qc0 {q : En → Bool} {l : List En} {k : Nat} {x : En} (hx : l[k]? = some x) (h : q x = true) : (l.take (k + 1)).filter q = (l.take k).filter q ++ [x] := by
 rw [List.take_add_one, hx, List.filter_append]; simp [h]
theorem QfK {q : En → Bool} {l : List En} {k : Nat} {x : En} (hx : l[k]? = some x) (h : q x = false) : (l.take (k + 1)).filter q = (l.take k).filter q := by
 rw [List.take_add_one, hx, List.filter_append]; simp [h]
theorem Qfi {q : En → Bool} {l : List En} {k : Nat} : ((l.take k).filter q).length ≤ l.length := Nat.le_trans (List.length_filter_le _ _) (by simp; omega)
theorem Qo8 (x y : En) : JF (.mk 0 [] [] [x]) (.mk 0 [] [] [y]) = Jh x y := by
 rw [KP]
 simp only [Qp.N, Qp.nm, Qp.ps, Qp.es, Xt, Lib.compareInt]
 by_cases h : Jh x y = 0 <;> simp [orE, h]
theorem QmT (q x : En) : FC Tryz.prog 219 [.agg (K3 x), .el (K3 q)] (bl (Qn5 q x)) := by
 refine Qh [3] Tryz.func219 rfl rfl 10 Tryz.ntmps219 (Nat.le_of_ble_eq_true rfl) ?_
 intro E hN;refine Xn ?_;refine zP (Qd (Qge _ _) rfl rfl rfl) ?_;refine QH ?_;refine zQ ?_
 rfl
theorem QmF (x y : En) : FC Tryz.prog 221 [.agg (K3 x), .agg (K3 y)] (i64 (Jh x y)) := by
 refine Qh [4] Tryz.func221 rfl rfl 12 Tryz.ntmps221 (Nat.le_of_ble_eq_true rfl) ?_
 intro E hN;refine X3 ?_;refine zP (QG rfl rfl rfl rfl (by exact rfl) (by decide) (by decide)) ?_;refine QH ?_;refine zP (QG rfl rfl rfl rfl (by exact rfl) (by decide) (by decide)) ?_;refine JB ?_;refine zP (Qd (Qfx (.mk 0 [] [] [x]) (.mk 0 [] [] [y])) rfl rfl rfl) ?_;refine zS ?_;refine zQ ?_;exact QZ (Qo8 x y)
theorem QoA (a b : List En) (hab : a.length + b.length ≤ 1000000) : FC Tryz.prog 196 [WA a, WA b] (WA (JE a b)) := by
 refine Qh [4] Tryz.func196 rfl rfl 43 Tryz.ntmps196 (Nat.le_of_ble_eq_true rfl) ?_
 intro E hN;refine QaL ?_;refine Qx (Wd rfl 5 149 2 rfl) ?_;refine Qm (fun x : {k : Nat // k ≤ (a).length ∧ True} => ⟨[(0, WA a), (1, WA b), (10, WA a), (11, i64 a.length), (12, i64 (x.1 : Nat)), (5, .own 0 ((a.take x.1).filter (QaR b)).length)], [(0, .arr 149 2 (((a.take x.1).filter (QaR b)).map K3))], 1⟩) (fun x => (a).length - x.1) (⟨0, Nat.zero_le _, by simp⟩) ?_ ?_
 ·exact Qa rfl (JZ ⟨(Y6 (by simp)), rfl, (Yf trivial)⟩) ⟨rfl, rfl, (Q4 (Qii _) _), trivial⟩
 rintro ⟨k, hk, hg⟩;dsimp only;refine Jq 10 rfl (fun hl8 => ?_);refine Qy ?_
 refine zq ?_ ?_ <;> intro h10
 ·have hlt : k < (a).length := by simpa using h10
  obtain ⟨x, hx⟩ := Qq hlt;refine Qy ?_;refine zP (Qf rfl rfl rfl k rfl _ (Qi hx) rfl) ?_;refine Xo ?_;refine zP (Qd (Qg4 _ _) rfl rfl rfl) ?_;refine QH ?_
  refine zq ?_ ?_ <;> intro h16
  ·have hkb : QaR b x = true := h16
   refine QD ?_;refine zP (QG rfl rfl rfl rfl (by exact rfl) (by decide) (by decide)) ?_;refine QS hN rfl rfl rfl (by simp) rfl rfl rfl (by simp only [List.length_map, List.length_append, Xe, List.length_singleton]; have := Qfi (q := QaR b) (l := a) (k := k); have := Qfi (q := QbT a) (l := b) (k := k);  omega) rfl rfl rfl rfl ?_;refine Qy ?_;refine Qb ?_
   exact ⟨⟨k + 1, hlt, trivial⟩, Qa rfl (YO ⟨X5, rfl, (cgO (by first | (rw [Qc0 hx hkb]; simp [Xe, K3] <;> omega) | rw [QfK hx hkb])), rfl, trivial⟩) ⟨(cgA (by first | (rw [Qc0 hx hkb]; simp [Xe, K3] <;> omega) | rw [QfK hx hkb])), rfl, (Q4 (Qii _) _), trivial⟩, by dsimp only; omega⟩
  have hkb : QaR b x = false := h16
  refine QC ?_;refine Qb ?_;exact ⟨⟨k + 1, hlt, trivial⟩, Qa rfl (YO ⟨X5, rfl, (cgO (by first | (rw [Qc0 hx hkb]; simp [Xe, K3] <;> omega) | rw [QfK hx hkb])), rfl, trivial⟩) ⟨(cgA (by first | (rw [Qc0 hx hkb]; simp [Xe, K3] <;> omega) | rw [QfK hx hkb])), rfl, (Q4 (Qii _) _), trivial⟩, by dsimp only; omega⟩
 have hge : (a).length ≤ k := by simpa using h10
 refine X3 ?_;refine Qm (fun x : {k : Nat // k ≤ (b).length ∧ True} => ⟨[(0, WA a), (25, WA b), (26, i64 b.length), (27, i64 (x.1 : Nat)), (5, .own 0 (a.filter (QaR b) ++ (b.take x.1).filter (QbT a)).length)], [(0, .arr 149 2 ((a.filter (QaR b) ++ (b.take x.1).filter (QbT a)).map K3))], 1⟩) (fun x => (b).length - x.1) (⟨0, Nat.zero_le _, by simp⟩) ?_ ?_
 ·exact Qa rfl (Yf ⟨(Y6 (by simp)), rfl, rfl, rfl, (cgO (by rw [List.take_of_length_le hge]; simp)), rfl, trivial⟩) ⟨(cgA (by rw [List.take_of_length_le hge]; simp)), rfl, (Q4 (Qii _) _), trivial⟩
 rintro ⟨k, hk, hg⟩
 clear hge
 dsimp only;refine Jq 25 rfl (fun hl8 => ?_);refine Qy ?_
 refine zq ?_ ?_ <;> intro h28
 rotate_left
 ·have hge : (b).length ≤ k := by simpa using h28
  refine QH ?_
  have hacc : (a.filter (QaR b) ++ (b.take k).filter (QbT a)) = a.filter (QaR b) ++ b.filter (QbT a) := by rw [List.take_of_length_le hge]
  refine QH ?_;refine QuU (sf := 220) hN QmN rfl (by decide) K3 (a.filter (QaR b) ++ (b.take k).filter (QbT a)) Jh (fun g => Jo.swo g) Qef QpU Tryz.isAgg149 Tryz.sizeOf149 (fun x _ y _ => QmF x y) rfl rfl rfl rfl (by have := Qfi (q := QaR b) (l := a) (k := a.length); have := Qfi (q := QbT a) (l := b) (k := k); rw [List.take_length] at *; simp only [List.length_append]; omega) rfl rfl rfl rfl (fun l2 hp hs2 => ?_);refine QH ?_
  refine Qx (Xl 5 0 rfl rfl (by simp [hp.length_eq]) (QP Qef _) (fun e he => by obtain ⟨y, -, rfl⟩ := List.mem_map.1 he; exact QpU y) rfl) ?_;refine QD ?_;refine zQ ?_;exact Qd9 (by rw [Ql0 hp hs2, hacc]; rfl)
 have hlt : k < (b).length := by simpa using h28
 obtain ⟨x, hx⟩ := Qq hlt;refine Qy ?_;refine zP (Qf rfl rfl rfl k rfl _ (Qi hx) rfl) ?_;refine Qy ?_;refine Qx (Qau 9 1 rfl rfl rfl rfl) ?_;refine QH ?_;refine zP (Qmp rfl rfl) ?_;refine zP (Qd (QkL a (fun y _ => QmT x y)) rfl rfl rfl) ?_;refine QH ?_
 refine zq ?_ ?_ <;> intro h34
 ·have hka : QbT a x = true := h34
  refine QD ?_;refine zP (QG rfl rfl rfl rfl (by exact rfl) (by decide) (by decide)) ?_;refine QS hN rfl rfl rfl (by simp) rfl rfl rfl (by simp only [List.length_map, List.length_append, Xe, List.length_singleton]; have := Qfi (q := QaR b) (l := a) (k := a.length); have := Qfi (q := QbT a) (l := b) (k := k); rw [List.take_length] at *; omega) rfl rfl rfl rfl ?_;refine Qy ?_;refine Qb ?_
  exact ⟨⟨k + 1, hlt, trivial⟩, Qa rfl (JZ ⟨X5, rfl, (cgO (by first | (rw [Qc0 hx hka]; simp [Xe, K3] <;> omega) | rw [QfK hx hka])), rfl, trivial⟩) ⟨(cgA (by first | (rw [Qc0 hx hka]; simp [Xe, K3] <;> omega) | rw [QfK hx hka])), rfl, (Q4 (Qii _) _), trivial⟩, by dsimp only; omega⟩
 have hka : QbT a x = false := h34
 refine QC ?_;refine Qb ?_;exact ⟨⟨k + 1, hlt, trivial⟩, Qa rfl (JZ ⟨X5, rfl, (cgO (by first | (rw [Qc0 hx hka]; simp [Xe, K3] <;> omega) | rw [QfK hx hka])), rfl, trivial⟩) ⟨(cgA (by first | (rw [Qc0 hx hka]; simp [Xe, K3] <;> omega) | rw [QfK hx hka])), rfl, (Q4 (Qii _) _), trivial⟩, by dsimp only; omega⟩
def Qa8 (b : Bool) (x : Nm) (l : List Nm) : List Nm := if b then x :: l else l
def QcF (lf bo ri : Bool) : Nat → List Nm → List Nm → List Nm
 | 0, _, _ => []
 | _ + 1, [], [] => []
 | f + 1, x :: r, [] => Qa8 lf x (QcF lf bo ri f r [])
 | f + 1, [], y :: s => Qa8 ri y (QcF lf bo ri f [] s)
 | f + 1, x :: r, y :: s => if Op.bytesLess x y then Qa8 lf x (QcF lf bo ri f r (y :: s)) else if Op.bytesLess y x then Qa8 ri y (QcF lf bo ri f (x :: r) s) else Qa8 bo x (QcF lf bo ri f r s)
section
variable (lf bo ri : Bool)
theorem YZ : ∀ (f g : Nat) (a b : List Nm), a.length + b.length ≤ f → a.length + b.length ≤ g → QcF lf bo ri f a b = QcF lf bo ri g a b
 | 0, 0, _, _, _, _ => rfl
 | 0, g + 1, a, b, h1, _ => by
  have ha : a = [] := List.eq_nil_of_length_eq_zero (by omega)
  have hb : b = [] := List.eq_nil_of_length_eq_zero (by omega)
  subst ha hb; rfl
 | f + 1, 0, a, b, _, h2 => by
  have ha : a = [] := List.eq_nil_of_length_eq_zero (by omega)
  have hb : b = [] := List.eq_nil_of_length_eq_zero (by omega)
  subst ha hb; rfl
 | f + 1, g + 1, [], [], _, _ => rfl
 | f + 1, g + 1, x :: r, [], h1, h2 => by simp only [List.length_cons, List.length_nil] at h1 h2; simp only [QcF]; rw [YZ f g r [] (by simp; omega) (by simp; omega)]
 | f + 1, g + 1, [], y :: s, h1, h2 => by simp only [List.length_cons, List.length_nil] at h1 h2; simp only [QcF]; rw [YZ f g [] s (by simp; omega) (by simp; omega)]
 | f + 1, g + 1, x :: r, y :: s, h1, h2 => by
  simp only [List.length_cons] at h1 h2
  simp only [QcF]
  rw [YZ f g r (y :: s) (by simp; omega) (by simp; omega), YZ f g (x :: r) s (by simp; omega) (by simp; omega), YZ f g r s (by omega) (by omega)]
def W2 (a b : List Nm) : List Nm := QcF lf bo ri (a.length + b.length) a b
end
section
variable {lf bo ri : Bool} {x y : Nm} {r s : List Nm}
theorem QuO : W2 lf bo ri (x :: r) [] = Qa8 lf x (W2 lf bo ri r []) := by
 show QcF lf bo ri (r.length + 1 + 0) (x :: r) [] = _
 rfl
theorem QuG : W2 lf bo ri [] (y :: s) = Qa8 ri y (W2 lf bo ri [] s) := by
 unfold W2
 rw [YZ lf bo ri _ (s.length + 1) [] (y :: s) (by simp) (by simp), YZ lf bo ri _ s.length [] s (by simp) (by simp)]
 rfl
theorem Qrj (h : Op.bytesLess x y = true) : W2 lf bo ri (x :: r) (y :: s) = Qa8 lf x (W2 lf bo ri r (y :: s)) := by
 unfold W2
 rw [YZ lf bo ri _ (r.length + (s.length + 1) + 1) (x :: r) (y :: s) (Nat.le_refl _) (by simp only [List.length_cons]; omega), QcF, if_pos h]
 rfl
theorem Qru (h : Op.bytesLess x y = false) (h2 : Op.bytesLess y x = true) : W2 lf bo ri (x :: r) (y :: s) = Qa8 ri y (W2 lf bo ri (x :: r) s) := by
 unfold W2
 rw [YZ lf bo ri _ (r.length + 1 + s.length + 1) (x :: r) (y :: s) (Nat.le_refl _) (by simp only [List.length_cons]; omega), QcF, if_neg (by simp [h]), if_pos h2]
 rfl
theorem Qr5 (h : Op.bytesLess x y = false) (h2 : Op.bytesLess y x = false) : W2 lf bo ri (x :: r) (y :: s) = Qa8 bo x (W2 lf bo ri r s) := by
 unfold W2
 rw [YZ lf bo ri _ (r.length + s.length + 1 + 1) (x :: r) (y :: s) (Nat.le_refl _) (by simp only [List.length_cons]; omega), QcF, if_neg (by simp [h]), if_neg (by simp [h2]), YZ lf bo ri _ (r.length + s.length) r s (by omega) (by omega)]
theorem QhA {b : Bool} {x : Nm} {l acc u : List Nm} (h : b = true) (hg : acc ++ Qa8 b x l = u) : (acc ++ [x]) ++ l = u := by
 rw [← hg, Qa8, if_pos h]; simp
theorem Qks {b : Bool} {x : Nm} {l acc u : List Nm} (h : b = false) (hg : acc ++ Qa8 b x l = u) : acc ++ l = u := by
 rw [← hg, Qa8, if_neg (by simp [h])]
theorem J4 (s : Nm) : okE 1 (Wz s) = true := rfl
theorem Qz (x : AV) : JI 1 1 [x] = [[x]] := rfl
end
theorem Qt6 (hof : ∀ l : List Nm, Qt l = true → l.length ≤ 1000000 → FC Tryz.prog 229 [XS l] (XS l)) (a b : List Nm) (ha : Qt a = true) (hb0 : Qt b = true) (hab : a.length + b.length ≤ 1000000) (lf bo ri : Bool) : FC Tryz.prog 214 [XS a, XS b, bl lf, bl bo, bl ri] (XS (W2 lf bo ri a b)) := by
 refine Qh [10] Tryz.func214 rfl rfl 87 Tryz.ntmps214 (Nat.le_of_ble_eq_true rfl) ?_
 intro E hN;refine Xg ?_;refine zP (Qd (hof a ha (by omega)) rfl rfl rfl) ?_;refine zM ?_;refine zP (Qd (hof b hb0 (by omega)) rfl rfl rfl) ?_;refine X3 ?_;refine Qx (Qk4 rfl 13 9 1 rfl) ?_
 refine Qm (fun x : {q : List Nm × List Nm × List Nm // q.2.2 ++ W2 lf bo ri q.1 q.2.1 = W2 lf bo ri a b ∧ q.2.2.length + q.1.length + q.2.1.length ≤ a.length + b.length} => ⟨[(2, bl lf), (3, bl bo), (4, bl ri), (11, XS x.1.1), (12, XS x.1.2.1), (13, .sl (x.1.2.2.map Wz) (some 0))], [(0, .tok 9 1 x.1.2.2.length)], 1⟩) (fun x => x.1.1.length + x.1.2.1.length) (⟨(a, b, []), rfl, by simp⟩) ?_ ?_
 ·exact Qa rfl (YO (Yf trivial)) ⟨rfl, rfl, rfl, trivial⟩
 rintro ⟨⟨u, v, acc⟩, hg, hlen⟩;dsimp only at hg hlen ⊢
 rcases u with _ | ⟨x, r⟩ <;> rcases v with _ | ⟨y, s⟩
 ·skip
  refine Qy ?_;refine zP (Ql (b := false) rfl rfl rfl (by simp <;> omega)) ?_;refine QD ?_;refine zP (Ql (b := false) rfl rfl rfl (by simp <;> omega)) ?_;refine Xo ?_;refine zQ ?_;exact Qd9 (by rw [← hg]; simp [W2, QcF])
 ·skip
  refine Qy ?_;refine zP (Ql (b := false) rfl rfl rfl (by simp <;> omega)) ?_;refine QD ?_;refine zP (Ql (b := true) rfl rfl rfl (by simp <;> omega)) ?_;refine Xg ?_;refine zD 17 ?_;refine QH ?_;refine zp (Ql (b := false) rfl rfl rfl (by simp <;> omega)) ?_;refine QD ?_;refine zp (Ql (b := false) rfl rfl rfl (by simp <;> omega)) ?_;refine YI ?_;refine zD 12 ?_;refine QH ?_;refine zp (Ql (b := true) rfl rfl rfl (by simp <;> omega)) ?_;refine Qd8 ?_
  refine zq ?_ ?_ <;> intro h10
  ·have hb := h10
   refine QD ?_;refine zP (Qf rfl rfl rfl 0 rfl _ rfl rfl) ?_;refine zL ?_;refine zP (QG rfl rfl rfl rfl (by exact rfl) (by decide) (by decide)) ?_;refine QM hN rfl rfl rfl (by simp) rfl rfl (QP J4 _) rfl (by simp [Qz] at hlen ⊢ <;> omega) rfl rfl rfl rfl ?_;refine QC ?_;refine zP (Kt rfl rfl rfl 1 rfl (by simp) (by exact fun _ => rfl)) ?_;refine zS ?_;refine Qb ?_
   exact ⟨⟨([], s, acc ++ [y]), QhA hb (by rw [← hg, QuG]), by simp at hlen ⊢ <;> omega⟩, Qa rfl (YO (XE ⟨(cgL (by simp [Wz, Qz])), rfl, trivial⟩)) ⟨(cgT (by simp [Qz])), rfl, rfl, trivial⟩, by simp <;> omega⟩
  have hb := h10
  refine QD ?_;refine zP (Kt rfl rfl rfl 1 rfl (by simp) (by exact fun _ => rfl)) ?_;refine zS ?_;refine Qb ?_;exact ⟨⟨([], s, acc), Qks hb (by rw [← hg, QuG]), by simp at hlen ⊢ <;> omega⟩, Qa rfl (YO (XE ⟨(cgL (by simp [Wz, Qz])), rfl, trivial⟩)) ⟨(cgT (by simp [Qz])), rfl, rfl, trivial⟩, by simp <;> omega⟩
 ·skip
  refine Qy ?_;refine zP (Ql (b := true) rfl rfl rfl (by simp <;> omega)) ?_;refine Xn ?_;refine zD 17 ?_;refine QH ?_;refine zp (Ql (b := true) rfl rfl rfl (by simp <;> omega)) ?_;refine Qof ?_
  refine zq ?_ ?_ <;> intro h8
  ·have hb := h8
   refine QD ?_;refine zP (Qf rfl rfl rfl 0 rfl _ rfl rfl) ?_;refine zL ?_;refine zP (QG rfl rfl rfl rfl (by exact rfl) (by decide) (by decide)) ?_;refine QM hN rfl rfl rfl (by simp) rfl rfl (QP J4 _) rfl (by simp [Qz] at hlen ⊢ <;> omega) rfl rfl rfl rfl ?_;refine QC ?_;refine zP (Kt rfl rfl rfl 1 rfl (by simp) (by exact fun _ => rfl)) ?_;refine zS ?_;refine Qb ?_
   exact ⟨⟨(r, [], acc ++ [x]), QhA hb (by rw [← hg, QuO]), by simp at hlen ⊢ <;> omega⟩, Qa rfl (YO (XE ⟨(cgL (by simp [Wz, Qz])), rfl, trivial⟩)) ⟨(cgT (by simp [Qz])), rfl, rfl, trivial⟩, by simp <;> omega⟩
  have hb := h8
  refine QD ?_;refine zP (Kt rfl rfl rfl 1 rfl (by simp) (by exact fun _ => rfl)) ?_;refine zS ?_;refine Qb ?_;exact ⟨⟨(r, [], acc), Qks hb (by rw [← hg, QuO]), by simp at hlen ⊢ <;> omega⟩, Qa rfl (YO (XE ⟨(cgL (by simp [Wz, Qz])), rfl, trivial⟩)) ⟨(cgT (by simp [Qz])), rfl, rfl, trivial⟩, by simp <;> omega⟩
 skip
 refine Qy ?_;refine zP (Ql (b := true) rfl rfl rfl (by simp <;> omega)) ?_;refine Xn ?_;refine zD 17 ?_;refine QH ?_;refine zp (Ql (b := false) rfl rfl rfl (by simp <;> omega)) ?_;refine QD ?_;refine zp (Ql (b := true) rfl rfl rfl (by simp <;> omega)) ?_;refine QH ?_;refine zp (Qf rfl rfl rfl 0 rfl _ rfl rfl) ?_;refine QH ?_;refine zp (Qf rfl rfl rfl 0 rfl _ rfl rfl) ?_;refine Xk ?_
 refine zq ?_ ?_ <;> intro h42
 ·have hLt := h42
  refine Qy ?_
  refine zq ?_ ?_ <;> intro h8
  ·have hb := h8
   refine QD ?_;refine zP (Qf rfl rfl rfl 0 rfl _ rfl rfl) ?_;refine zL ?_;refine zP (QG rfl rfl rfl rfl (by exact rfl) (by decide) (by decide)) ?_;refine QM hN rfl rfl rfl (by simp) rfl rfl (QP J4 _) rfl (by simp [Qz] at hlen ⊢ <;> omega) rfl rfl rfl rfl ?_;refine QC ?_;refine zP (Kt rfl rfl rfl 1 rfl (by simp) (by exact fun _ => rfl)) ?_;refine zS ?_;refine Qb ?_
   exact ⟨⟨(r, y :: s, acc ++ [x]), QhA hb (by rw [← hg, Qrj hLt]), by simp at hlen ⊢ <;> omega⟩, Qa rfl (YO (XE ⟨(cgL (by simp [Wz, Qz])), rfl, trivial⟩)) ⟨(cgT (by simp [Qz])), rfl, rfl, trivial⟩, by simp <;> omega⟩
  have hb := h8
  refine QD ?_;refine zP (Kt rfl rfl rfl 1 rfl (by simp) (by exact fun _ => rfl)) ?_;refine zS ?_;refine Qb ?_;exact ⟨⟨(r, y :: s, acc), Qks hb (by rw [← hg, Qrj hLt]), by simp at hlen ⊢ <;> omega⟩, Qa rfl (YO (XE ⟨(cgL (by simp [Wz, Qz])), rfl, trivial⟩)) ⟨(cgT (by simp [Qz])), rfl, rfl, trivial⟩, by simp <;> omega⟩
 have hLt := h42
 refine JB ?_;refine zD 12 ?_;refine QH ?_;refine zp (Ql (b := false) rfl rfl rfl (by simp <;> omega)) ?_;refine QH ?_;refine zp (Qf rfl rfl rfl 0 rfl _ rfl rfl) ?_;refine QH ?_;refine zp (Qf rfl rfl rfl 0 rfl _ rfl rfl) ?_;refine Qy ?_
 refine zq ?_ ?_ <;> intro h54
 ·have hGt := h54
  refine Qy ?_
  refine zq ?_ ?_ <;> intro h10
  ·have hb := h10
   refine QD ?_;refine zP (Qf rfl rfl rfl 0 rfl _ rfl rfl) ?_;refine zL ?_;refine zP (QG rfl rfl rfl rfl (by exact rfl) (by decide) (by decide)) ?_;refine QM hN rfl rfl rfl (by simp) rfl rfl (QP J4 _) rfl (by simp [Qz] at hlen ⊢ <;> omega) rfl rfl rfl rfl ?_;refine QC ?_;refine zP (Kt rfl rfl rfl 1 rfl (by simp) (by exact fun _ => rfl)) ?_;refine zS ?_;refine Qb ?_
   exact ⟨⟨(x :: r, s, acc ++ [y]), QhA hb (by rw [← hg, Qru hLt hGt]), by simp at hlen ⊢ <;> omega⟩, Qa rfl (YO (XE ⟨(cgL (by simp [Wz, Qz])), rfl, trivial⟩)) ⟨(cgT (by simp [Qz])), rfl, rfl, trivial⟩, by simp <;> omega⟩
  have hb := h10
  refine QD ?_;refine zP (Kt rfl rfl rfl 1 rfl (by simp) (by exact fun _ => rfl)) ?_;refine zS ?_;refine Qb ?_;exact ⟨⟨(x :: r, s, acc), Qks hb (by rw [← hg, Qru hLt hGt]), by simp at hlen ⊢ <;> omega⟩, Qa rfl (YO (XE ⟨(cgL (by simp [Wz, Qz])), rfl, trivial⟩)) ⟨(cgT (by simp [Qz])), rfl, rfl, trivial⟩, by simp <;> omega⟩
 have hGt := h54
 refine Qy ?_
 refine zq ?_ ?_ <;> intro h9
 ·have hb := h9
  refine QD ?_;refine zP (Qf rfl rfl rfl 0 rfl _ rfl rfl) ?_;refine zL ?_;refine zP (QG rfl rfl rfl rfl (by exact rfl) (by decide) (by decide)) ?_;refine QM hN rfl rfl rfl (by simp) rfl rfl (QP J4 _) rfl (by simp [Qz] at hlen ⊢ <;> omega) rfl rfl rfl rfl ?_;refine zT ?_;refine zD 5 ?_;refine zm ?_;refine zp (Kt rfl rfl rfl 1 rfl (by simp) (by exact fun _ => rfl)) ?_;refine zm ?_;refine zp (Kt rfl rfl rfl 1 rfl (by simp) (by exact fun _ => rfl)) ?_;refine zp (JC rfl rfl) ?_;refine zS ?_;refine Qb ?_
  exact ⟨⟨(r, s, acc ++ [x]), QhA hb (by rw [← hg, Qr5 hLt hGt]), by simp at hlen ⊢ <;> omega⟩, Qa rfl (YO (XE ⟨(cgL (by simp [Wz, Qz])), rfl, trivial⟩)) ⟨(cgT (by simp [Qz])), rfl, rfl, trivial⟩, by simp <;> omega⟩
 have hb := h9
 refine zW ?_;refine zD 5 ?_;refine zm ?_;refine zp (Kt rfl rfl rfl 1 rfl (by simp) (by exact fun _ => rfl)) ?_;refine zm ?_;refine zp (Kt rfl rfl rfl 1 rfl (by simp) (by exact fun _ => rfl)) ?_;refine zp (JC rfl rfl) ?_;refine zS ?_;refine Qb ?_;exact ⟨⟨(r, s, acc), Qks hb (by rw [← hg, Qr5 hLt hGt]), by simp at hlen ⊢ <;> omega⟩, Qa rfl (YO (XE ⟨(cgL (by simp [Wz, Qz])), rfl, trivial⟩)) ⟨(cgT (by simp [Qz])), rfl, rfl, trivial⟩, by simp <;> omega⟩
theorem Kw (l : List Nm) : ∀ e ∈ l.map Wz, fzs e = some e := fun e he => by
 obtain ⟨x, -, rfl⟩ := List.mem_map.1 he
 rfl
theorem Qkc (l : List Nm) (hl : l.length ≤ 1000000) : FO Tryz.prog 197 [XS l] 9 1 (l.map Wz) := by
 refine Qig 2 Tryz.func197 rfl rfl 8 Tryz.ntmps197 (Nat.le_of_ble_eq_true rfl) ?_
 intro E hN;refine Xo ?_;refine Qq7 hN rfl rfl rfl rfl rfl rfl rfl (fun b hbb => ?_);refine zN ?_
 refine zq ?_ ?_ <;> intro h2
 ·have hnil : l = [] := by
   rcases l with _ | ⟨x, r⟩
   ·rfl
   have := hbb (by simp); rw [this] at h2; cases h2
  subst hnil
  refine QC ?_;refine Qx (Wd rfl 2 9 1 rfl) ?_;refine Qg ?_;exact ⟨0, 0, rfl, rfl, rfl, Kw []⟩
 refine QD ?_;refine Kp hN rfl rfl rfl rfl rfl rfl ?_;refine zM ?_;refine QS hN rfl rfl rfl rfl rfl rfl (QP J4 _) (by simp; omega) rfl rfl rfl rfl ?_;refine zT ?_;refine Qg ?_;exact ⟨0, _, rfl, by simp, rfl, Kw l⟩
theorem Qcc : ∀ a : Nm, Op.bytesLess a a = false
 | [] => rfl
 | x :: a => by
  unfold Op.bytesLess
  simp [Qcc a, UInt8.lt_irrefl]
theorem Qv8 {a b : Nm} (h : Op.bytesLess a b = true) : (b == a) = false := by
 cases hb : (b == a) with
 | false => rfl
 | true =>
  have : b = a := by simpa using hb
  subst this
  rw [Qcc] at h; cases h
theorem Qmy (l : List Nm) (hs0 : Qt l = true) : FC Tryz.prog 240 [XS l] (XS l) := by
 refine Qh [2] Tryz.func240 rfl rfl 61 Tryz.ntmps240 (Nat.le_of_ble_eq_true rfl) ?_
 intro E hN;refine Jq 0 rfl (fun hl0 => ?_);refine Xn ?_
 refine zq ?_ ?_ <;> intro h3
 ·refine QC ?_;refine zQ ?_
  rfl
 refine Xg ?_;refine Qm (fun x : {k : Nat // 1 ≤ k ∧ Qt (l.drop (k - 1)) = Qt l ∧ k ≤ l.length + 1} => ⟨[(0, XS l), (3, i64 (x.1 : Nat))], [], 0⟩) (fun x => l.length + 1 - x.1) (⟨1, Nat.le_refl _, rfl, by omega⟩) ?_ ?_
 ·exact Qa rfl (Yf trivial) trivial
 rintro ⟨k, hk, hg, hk2⟩;dsimp only;refine Xo ?_
 refine zq ?_ ?_ <;> intro h7
 rotate_left
 ·refine Qy ?_;refine zQ ?_
  rfl
 have hlt : k < l.length := by simpa using h7
 obtain ⟨x, hx⟩ := Qq hlt;obtain ⟨y, hy⟩ := Qq (show k - 1 < l.length by omega)
 have hs := Qdu hk hg hy hx
 rw [hs0] at hs
 have hs1 : (Op.bytesLess y x && Qt (l.drop k)) = true := hs.symm
 rw [Bool.and_eq_true] at hs1
 have hn : Qt (l.drop (k + 1 - 1)) = Qt l := by rw [Nat.add_sub_cancel, hs0]; exact hs1.2
 refine QC ?_;refine zD 9 ?_;refine QH ?_;refine zp (Qf rfl rfl rfl k rfl _ (Qi hx) rfl) ?_;refine QD ?_;refine zp (Kb rfl rfl rfl (by omega)) ?_;refine zp (Qf rfl rfl rfl (k - 1) (by omega) _ (Qi hy) rfl) ?_;refine zl ?_;refine zP (Ql (b := false) rfl rfl rfl (congrArg Value.bool (Qv8 hs1.1))) ?_;refine Xg ?_;refine Qb ?_;exact ⟨⟨k + 1, by omega, hn, by omega⟩, Qa rfl (XE ⟨X5, rfl, trivial⟩) trivial, by dsimp only; omega⟩
end Go.Proofs.YtnkkokmmeplbgaaGreat
namespace Go.Proofs.YtnkkokmmeplbgaaGreat
set_option maxRecDepth 100000
set_option maxHeartbeats 1000000
open Go.RowKit
theorem Qbc : ∀ {a b d : Nm}, Op.bytesLess a b = true → Op.bytesLess b d = true → Op.bytesLess a d = true
 | _, [], _, h, _ => by rename_i a _; cases a <;> simp [Op.bytesLess] at h
 | [], _ :: _, [], _, h => by simp [Op.bytesLess] at h
 | [], _ :: _, _ :: _, _, _ => rfl
 | _ :: _, _ :: _, [], _, h => by simp [Op.bytesLess] at h
 | x :: a, y :: b, z :: d, h1, h2 => by
  unfold Op.bytesLess at h1 h2 ⊢
  simp only [Bool.or_eq_true, Bool.and_eq_true, decide_eq_true_eq, beq_iff_eq] at h1 h2 ⊢
  rcases h1 with h1 | ⟨rfl, h1⟩ <;> rcases h2 with h2 | ⟨rfl, h2⟩
  ·exact .inl (UInt8.lt_trans h1 h2)
  ·exact .inl h1
  ·exact .inl h2
  exact .inr ⟨rfl, Qbc h1 h2⟩
theorem Qt7 : ∀ {a b : Nm}, Op.bytesLess a b = true → a ≤ b
 | [], _, _ => List.nil_le _
 | _ :: _, [], h => by simp [Op.bytesLess] at h
 | x :: a, y :: b, h => by
  rw [List.cons_le_cons_iff]
  unfold Op.bytesLess at h
  simp only [Bool.or_eq_true, Bool.and_eq_true, decide_eq_true_eq, beq_iff_eq] at h
  rcases h with h | ⟨h1, h2⟩
  ·exact .inl h
  exact .inr ⟨h1, Qt7 h2⟩
theorem XU : ∀ {l : List Nm}, Qt l = true → l.Pairwise (fun a b => Op.bytesLess a b = true)
 | [], _ => List.Pairwise.nil
 | [_], _ => List.pairwise_singleton _ _
 | a :: b :: l, h => by
  have h : (Op.bytesLess a b && Qt (b :: l)) = true := h
  rw [Bool.and_eq_true] at h
  have ih := XU h.2
  refine List.Pairwise.cons (fun d hd => ?_) ih
  rcases List.mem_cons.1 hd with rfl | hd
  ·exact h.1
  exact Qbc h.1 ((List.pairwise_cons.1 ih).1 d hd)
theorem QoR {l : List Nm} (h : Qt l = true) : (l.mergeSort fun x y => decide (x ≤ y)) = l :=
 List.mergeSort_of_pairwise ((XU h).imp (fun h => by simpa using Qt7 h))
theorem QvJ (l : List Nm) (hs0 : Qt l = true) (hl : l.length ≤ 1000000) : FC Tryz.prog 229 [XS l] (XS l) := by
 refine Qh [2] Tryz.func229 rfl rfl 10 Tryz.ntmps229 (Nat.le_of_ble_eq_true rfl) ?_
 intro E hN;refine Xg ?_;refine QtZ hN rfl (Qkc l hl) (.fn _ _ _ _ rfl rfl) rfl rfl rfl rfl rfl ?_;refine Qy ?_;refine Qsk hN Qr8 QoT l rfl rfl (by simp) rfl (by omega) rfl rfl rfl rfl ?_;rw [QoR hs0];refine QH ?_;refine Qx (Xl 3 0 rfl rfl (by simp) (QP J4 _) (Kw l) rfl) ?_;refine QH ?_;refine zP (Qd (Qmy l hs0) rfl rfl rfl) ?_;refine zS ?_;refine zQ ?_
 rfl
theorem QrK (a b : List Nm) (ha : Qt a = true) (hb : Qt b = true) (hab : a.length + b.length ≤ 1000000) (lf bo ri : Bool) : FC Tryz.prog 214 [XS a, XS b, bl lf, bl bo, bl ri] (XS (W2 lf bo ri a b)) := Qt6 (fun l h1 h2 => QvJ l h1 h2) a b ha hb hab lf bo ri
theorem QhD (a b : List Nm) (ha : Qt a = true) (hb : Qt b = true) (hab : a.length + b.length ≤ 1000000) : FC Tryz.prog 194 [XS a, XS b] (XS (W2 true true true a b)) := by
 refine Qh [4] Tryz.func194 rfl rfl 8 Tryz.ntmps194 (Nat.le_of_ble_eq_true rfl) ?_
 intro E hN;refine Xo ?_;refine zP (Qd (QrK a b ha hb hab true true true) rfl rfl rfl) ?_;refine zS ?_;refine zQ ?_
 rfl
theorem Qmw (l : List Nm) (hl : l.length ≤ 1000000) : FC Tryz.prog 197 [XS l] (XS l) := Qkb (Qkc l hl) (QP J4 _)
theorem Qnc (l : List Tk) : ∀ e ∈ l.map tkC, fzs e = some e := fun e he => by
 obtain ⟨x, -, rfl⟩ := List.mem_map.1 he
 rfl
theorem Qmq (l : List Tk) (hl : l.length ≤ 1000000) : FO Tryz.prog 198 [tks l] 192 2 (l.map tkC) := by
 refine Qig 2 Tryz.func198 rfl rfl 8 Tryz.ntmps198 (Nat.le_of_ble_eq_true rfl) ?_
 intro E hN;refine Xo ?_;refine Qq7 hN rfl rfl rfl rfl rfl rfl rfl (fun b hbb => ?_);refine zN ?_
 refine zq ?_ ?_ <;> intro h2
 ·have hnil : l = [] := by
   rcases l with _ | ⟨x, r⟩
   ·rfl
   have := hbb (by simp); rw [this] at h2; cases h2
  subst hnil
  refine QC ?_;refine Qx (Wd rfl 2 192 2 rfl) ?_;refine Qg ?_;exact ⟨0, 0, rfl, rfl, rfl, Qnc []⟩
 refine QD ?_;refine Kp hN rfl rfl rfl rfl rfl rfl ?_;refine zM ?_;refine QS hN rfl rfl rfl rfl rfl rfl (QP Qed _) (by simp; omega) rfl rfl rfl rfl ?_;refine zT ?_;refine Qg ?_;exact ⟨0, _, rfl, by simp, rfl, Qnc l⟩
theorem QmI (l : List Tk) (hl : l.length ≤ 1000000) : FC Tryz.prog 198 [tks l] (tks l) := Qkb (Qmq l hl) (QP Qed _)
end Go.Proofs.YtnkkokmmeplbgaaGreat
