/-
  Contracts of the reference: unions, closures.
-/
import Derived.Test.YtnkkokmmeplbgaaGreatC8
import Derived.Test.YtnkkokmmeplbgaaGreatC2
import Derived.Test.YtnkkokmmeplbgaaGreatC7
namespace Go.Proofs.YtnkkokmmeplbgaaGreat
set_option maxRecDepth 100000
set_option maxHeartbeats 1000000
open Go.RowKit
theorem QoU {P : Program} {E : Jp} {ops : Array Oper} {l : List Oper} {Q : Exit → St → Prop} {st st' : St} (hw : KE E st st') (h : Q3 P E ops l Q st') : Q3 P E ops l Q st := fun c a hr => by
 obtain ⟨c', e, h'⟩ := hw c a hr
 have := h c' a h'
 rwa [e] at this
theorem Qvv {a b : List Nm} (ha : Qt a = true) (hb : Qt b = true) : ofN (a ++ b) = K6 a b := (Qgf (XU (Qag ha hb)) (fun z => by rw [WZ ha hb, List.mem_append])).symm
theorem Qva {a b : List Nm} (ha : Qt a = true) (hb : Qt b = true) : ofN (a.filter (X6 b)) = itr a b := (Qgf (XU (Qm3 ha hb)) (fun z => by rw [QsM ha hb, List.mem_filter, Yn])).symm
theorem Qmf {f : FuncId} {a b : List Nm} {r : AV} (h : FC Tryz.prog f [XS (a ++ b)] r) : FC Tryz.prog f [.sl ([] ++ a.map Wz ++ b.map Wz) none] r := by
 have e : XS (a ++ b) = .sl ([] ++ a.map Wz ++ b.map Wz) none := by simp
 rwa [e] at h
theorem Qj2 {A B L k : Nat} (h : A < B) (_ : k < L) : A * (L + 1) + L < B * (L + 1) + (L - k) := by
 have h1 := Nat.mul_le_mul_right (L + 1) h
 rw [Nat.succ_mul] at h1
 omega
theorem Qpq (a b : List Nm) (hl : a.length + b.length ≤ 1000000) : FC Tryz.prog 123 [XS a, XS b] (XS (ofN (a ++ b))) := by
 refine Qh [4] Tryz.func123 rfl rfl 11 Tryz.ntmps123 (Nat.le_of_ble_eq_true rfl) ?_
 intro E hN;refine Xk ?_;refine Kp hN rfl rfl rfl rfl rfl rfl ?_;refine zM ?_;refine QS hN rfl rfl rfl rfl rfl rfl (QP J4 _) (by simp; omega) rfl rfl rfl rfl ?_;refine zM ?_;refine QS hN rfl rfl rfl (by simp) rfl rfl (QP J4 _) (by simp; omega) rfl rfl rfl rfl ?_
 refine QoU (Xl 9 0 rfl rfl (by simp) (by rw [List.all_append]; simp only [List.all_append, QP J4, List.all_nil, Bool.and_self]) (fun e he => by
  simp only [List.nil_append, List.mem_append] at he
  exact he.elim (Kw _ e) (Kw _ e)) rfl) ?_
 refine zP (Qd (Qmf (QjJ (a ++ b) (by rw [List.length_append]; exact hl))) rfl rfl rfl) ?_;refine zS ?_;refine zQ ?_
 rfl
theorem Qo0 (a b : List Nm) (ha : a.length ≤ 1000000) : FC Tryz.prog 122 [XS a, XS b] (XS (ofN (a.filter (X6 b)))) := by
 refine Qh [4] Tryz.func122 rfl rfl 29 Tryz.ntmps122 (Nat.le_of_ble_eq_true rfl) ?_
 intro E hN;refine Xk ?_;refine Kp hN rfl rfl rfl rfl rfl rfl ?_;refine Xo ?_;refine Qm (fun x : {k : Nat // k ≤ (a).length ∧ True} => ⟨[(0, XS a), (1, XS b), (5, .own 0 ((a.take x.1).filter (X6 b)).length), (6, i64 (x.1 : Nat))], [(0, .arr 9 1 (((a.take x.1).filter (X6 b)).map Wz))], 1⟩) (fun x => (a).length - x.1) (⟨0, Nat.zero_le _, by simp⟩) ?_ ?_
 ·exact Qa rfl (YO trivial) ⟨rfl, rfl, (Q4 (fun _ => rfl) _), trivial⟩
 rintro ⟨k, hk, hg⟩;dsimp only;refine Xo ?_
 refine zq ?_ ?_ <;> intro h9
 rotate_left
 ·have hge : a.length ≤ k := by simpa using h9
  rw [List.take_of_length_le hge];refine QH ?_;refine Qx (Xl 5 0 rfl rfl (by simp) (QP J4 _) (Kw _) rfl) ?_;refine QH ?_;refine zP (Qd (QjJ (a.filter (X6 b)) (Nat.le_trans (List.length_filter_le _ _) ha)) rfl rfl rfl) ?_;refine zS ?_;refine zQ ?_
  rfl
 have hlt : k < (a).length := by simpa using h9
 obtain ⟨x, hx⟩ := Qq hlt;refine Xo ?_;refine zP (Qf rfl rfl rfl k rfl _ (Qi hx) rfl) ?_;refine zL ?_;refine zP (Qd (Qe8 b x) rfl rfl rfl) ?_;refine zN ?_
 refine zq ?_ ?_ <;> intro h12
 ·have hq : X6 b x = true := h12
  refine QC ?_;refine zP (Qf rfl rfl rfl k rfl _ (Qi hx) rfl) ?_;refine zL ?_;refine zP (QG rfl rfl rfl rfl (by exact rfl) (by decide) (by decide)) ?_;refine QS hN rfl rfl rfl (by simp) rfl rfl rfl (by have := Qje (q := X6 b) (l := a) (k := k); simp [Qz] at this ⊢; omega) rfl rfl rfl rfl ?_;refine Xk ?_;refine Qb ?_
  exact ⟨⟨k + 1, hlt, trivial⟩, Qa rfl (Yf ⟨(cgO (by first | (rw [Qal hx hq]; simp [Qz]; done) | rw [QbU hx hq])), rfl, X5, rfl, trivial⟩) ⟨(cgA (by first | (rw [Qal hx hq]; simp [Qz, Wz]; done) | rw [QbU hx hq])), rfl, (Q4 (fun _ => rfl) _), trivial⟩, by dsimp only; omega⟩
 have hq : X6 b x = false := h12
 refine Qy ?_;refine Qb ?_;exact ⟨⟨k + 1, hlt, trivial⟩, Qa rfl (Yf ⟨(cgO (by first | (rw [Qal hx hq]; simp [Qz]; done) | rw [QbU hx hq])), rfl, X5, rfl, trivial⟩) ⟨(cgA (by first | (rw [Qal hx hq]; simp [Qz, Wz]; done) | rw [QbU hx hq])), rfl, (Q4 (fun _ => rfl) _), trivial⟩, by dsimp only; omega⟩
theorem Qhl (l : List Nm) (s : Nm) : FC Tryz.prog 190 [XS l, sv s] (bl (X6 l s)) := by
 refine Qh [4] Tryz.func190 rfl rfl 18 Tryz.ntmps190 (Nat.le_of_ble_eq_true rfl) ?_
 intro E hN;refine Jq 0 rfl (fun hl0 => ?_);refine Xs ?_;refine Qm (fun x : {k : Nat // k ≤ (l).length ∧ (l.drop k).any (s == ·) = l.any (s == ·)} => ⟨[(0, XS l), (1, sv s), (5, i64 (x.1 : Nat))], [], 0⟩) (fun x => (l).length - x.1) (⟨0, Nat.zero_le _, by simp⟩) ?_ ?_
 ·exact Qa rfl (JZ trivial) trivial
 rintro ⟨k, hk, hg⟩;dsimp only;refine Xo ?_
 refine zq ?_ ?_ <;> intro h7
 rotate_left
 ·have hge : (l).length ≤ k := by simpa using h7
  refine QC ?_;refine zQ ?_;exact Qo (Qgd hg hge).symm
 have hlt : k < (l).length := by simpa using h7
 obtain ⟨x, hx⟩ := Qq hlt;refine Xg ?_;refine zP (Qf rfl rfl rfl k rfl _ (Qi hx) rfl) ?_;refine QC ?_
 refine zq ?_ ?_ <;> intro h10
 ·have hxs : x = s := by simpa using h10
  refine QD ?_;refine zQ ?_;exact Qo (Qgn hg hx (by rw [hxs]; simp)).symm
 have hxs : x ≠ s := by simpa using h10
 refine Qy ?_;refine Qb ?_;exact ⟨⟨k + 1, hlt, QjB hg hx (beq_eq_false_iff_ne.2 fun e => hxs e.symm)⟩, Qa rfl (Yf ⟨X5, rfl, trivial⟩) trivial, by dsimp only; omega⟩
theorem Qlm (a b : List Nm) : FC Tryz.prog 189 [XS a, XS b] (bl (J6 a b)) := by
 refine Qh [4] Tryz.func189 rfl rfl 19 Tryz.ntmps189 (Nat.le_of_ble_eq_true rfl) ?_
 intro E hN;refine Jq 0 rfl (fun hl0 => ?_)
 have hE : a.all (X6 b) = J6 a b := by rw [Bool.eq_iff_iff, Ka, List.all_eq_true]; simp only [Yn]
 rw [← hE];refine Xs ?_;refine Qm (fun x : {k : Nat // k ≤ (a).length ∧ (a.drop k).all (X6 b) = a.all (X6 b)} => ⟨[(0, XS a), (1, XS b), (5, i64 (x.1 : Nat))], [], 0⟩) (fun x => (a).length - x.1) (⟨0, Nat.zero_le _, by simp⟩) ?_ ?_
 ·exact Qa rfl (JZ trivial) trivial
 rintro ⟨k, hk, hg⟩;dsimp only;refine Xo ?_
 refine zq ?_ ?_ <;> intro h7
 rotate_left
 ·have hge : (a).length ≤ k := by simpa using h7
  refine QC ?_;refine zQ ?_;exact Qo (X4 hg hge).symm
 have hlt : k < (a).length := by simpa using h7
 obtain ⟨x, hx⟩ := Qq hlt;refine Xo ?_;refine zP (Qf rfl rfl rfl k rfl _ (Qi hx) rfl) ?_;refine zL ?_;refine zP (Qd (Qhl b x) rfl rfl rfl) ?_;refine QH ?_
 refine zq ?_ ?_ <;> intro h10
 ·refine QD ?_;refine zQ ?_;exact Qo (Q6 hg hx (by simp_all)).symm
 refine Qy ?_;refine Qb ?_;exact ⟨⟨k + 1, hlt, XG hg hx (by simp_all)⟩, Qa rfl (Yf ⟨X5, rfl, trivial⟩) trivial, by dsimp only; omega⟩
theorem Qkt (a b : List Nm) (ha : a.length ≤ 1000000) : FC Tryz.prog 151 [XS a, XS b] (XS (a.filter (X6 b))) := by
 refine Qh [4] Tryz.func151 rfl rfl 28 Tryz.ntmps151 (Nat.le_of_ble_eq_true rfl) ?_
 intro E hN;refine Xk ?_;refine Kp hN rfl rfl rfl rfl rfl rfl ?_;refine Xo ?_;refine Qm (fun x : {k : Nat // k ≤ (a).length ∧ True} => ⟨[(0, XS a), (1, XS b), (5, .own 0 ((a.take x.1).filter (X6 b)).length), (6, i64 (x.1 : Nat))], [(0, .arr 9 1 (((a.take x.1).filter (X6 b)).map Wz))], 1⟩) (fun x => (a).length - x.1) (⟨0, Nat.zero_le _, by simp⟩) ?_ ?_
 ·exact Qa rfl (YO trivial) ⟨rfl, rfl, (Q4 (fun _ => rfl) _), trivial⟩
 rintro ⟨k, hk, hg⟩;dsimp only;refine Xo ?_
 refine zq ?_ ?_ <;> intro h9
 rotate_left
 ·have hge : a.length ≤ k := by simpa using h9
  rw [List.take_of_length_le hge];refine Xk ?_;refine Qx (Xl 4 0 rfl rfl (by simp) (QP J4 _) (Kw _) rfl) ?_;refine zR ?_
  rfl
 have hlt : k < (a).length := by simpa using h9
 obtain ⟨x, hx⟩ := Qq hlt;refine Xo ?_;refine zP (Qf rfl rfl rfl k rfl _ (Qi hx) rfl) ?_;refine zL ?_;refine zP (Qd (Qhl b x) rfl rfl rfl) ?_;refine zN ?_
 refine zq ?_ ?_ <;> intro h12
 ·have hq : X6 b x = true := h12
  refine QC ?_;refine zP (Qf rfl rfl rfl k rfl _ (Qi hx) rfl) ?_;refine zL ?_;refine zP (QG rfl rfl rfl rfl (by exact rfl) (by decide) (by decide)) ?_;refine QS hN rfl rfl rfl (by simp) rfl rfl rfl (by have := Qje (q := X6 b) (l := a) (k := k); simp [Qz] at this ⊢; omega) rfl rfl rfl rfl ?_;refine Xk ?_;refine Qb ?_
  exact ⟨⟨k + 1, hlt, trivial⟩, Qa rfl (Yf ⟨(cgO (by first | (rw [Qal hx hq]; simp [Qz]; done) | rw [QbU hx hq])), rfl, X5, rfl, trivial⟩) ⟨(cgA (by first | (rw [Qal hx hq]; simp [Qz, Wz]; done) | rw [QbU hx hq])), rfl, (Q4 (fun _ => rfl) _), trivial⟩, by dsimp only; omega⟩
 have hq : X6 b x = false := h12
 refine Qy ?_;refine Qb ?_;exact ⟨⟨k + 1, hlt, trivial⟩, Qa rfl (Yf ⟨(cgO (by first | (rw [Qal hx hq]; simp [Qz]; done) | rw [QbU hx hq])), rfl, X5, rfl, trivial⟩) ⟨(cgA (by first | (rw [Qal hx hq]; simp [Qz, Wz]; done) | rw [QbU hx hq])), rfl, (Q4 (fun _ => rfl) _), trivial⟩, by dsimp only; omega⟩
theorem Qmo (rs : List Ru) (s : List Nm) (hr : rs.length ≤ 1000000) (hs : s.length ≤ 1000000) : FC Tryz.prog 150 [rus rs, XS s] (.tup [XS (WU rs s []).1, ivs (WU rs s []).2]) := by
 refine Qh [4, 5] Tryz.func150 rfl rfl 50 Tryz.ntmps150 (Nat.le_of_ble_eq_true rfl) ?_
 intro E hN;refine Xg ?_;refine Kp hN rfl rfl rfl rfl rfl rfl ?_;refine zM ?_;refine QS hN rfl rfl rfl rfl rfl rfl (QP J4 _) (by simp; omega) rfl rfl rfl rfl ?_;refine QC ?_;refine Kp hN rfl rfl rfl rfl rfl rfl ?_;refine Xo ?_
 refine Qm (fun z : {q : Nat × List Nm × List Int // q.1 ≤ rs.length ∧ Kl (X2 q.2.1) (rs.drop q.1) q.1 = Kl (X2 q.2.1) rs 0 ∧ WU rs q.2.1 q.2.2 = WU rs s [] ∧ q.2.1.length + QbM rs q.2.1 ≤ s.length + rs.length ∧ q.2.2.length + QbM rs q.2.1 ≤ rs.length} => ⟨[(0, rus rs), (6, .own 0 z.1.2.1.length), (7, .own 1 z.1.2.2.length), (8, i64 (z.1.1 : Nat))], [(0, .arr 9 1 (z.1.2.1.map Wz)), (1, .arr 3 1 (z.1.2.2.map iv1))], 2⟩) (fun z => QbM rs z.1.2.1 * (rs.length + 1) + (rs.length - z.1.1)) (⟨(0, s, []), Nat.zero_le _, rfl, rfl, by have := Qe0 (rs := rs) (t := s); dsimp only; omega, by have := Qe0 (rs := rs) (t := s); simpa using this⟩) ?_ ?_
 ·exact Qa rfl (XE ⟨(cgO (by simp)), rfl, (cgO rfl), rfl, (XE trivial)⟩) ⟨(cgA (by simp)), rfl, (Q4 (fun _ => rfl) _), (cgA rfl), rfl, (Q4 (fun _ => rfl) _), trivial⟩
 rintro ⟨⟨k, t, u⟩, hk, hg, hc, ht, hu⟩;dsimp only at hk hg hc ht hu ⊢;refine Xo ?_
 refine zq ?_ ?_ <;> intro h11
 rotate_left
 ·have hge : rs.length ≤ k := by simpa using h11
  have hn : Kl (X2 t) rs 0 = none := by rw [← hg, List.drop_of_length_le hge]; rfl
  rw [Qg9 hn] at hc;refine Xo ?_;refine Qx (Xl 4 0 rfl rfl (by simp) (QP J4 _) (Kw _) rfl) ?_;refine Qx (Xl 5 1 rfl rfl (by simp) (QP (fun _ => rfl) _) (QnM _) rfl) ?_;refine zR ?_;rw [← hc]
 have hlt : k < (rs).length := by simpa using h11
 obtain ⟨x, hx⟩ := Qq hlt;refine Xg ?_;refine zP (Qf rfl rfl rfl k rfl _ (Qi hx) rfl) ?_;refine QD ?_;refine zP (QfA (Qlm x.i t) rfl rfl rfl (.cons (.fz rfl) (.cons (.own rfl (by simp) (QP J4 _) (Kw _)) .nil))) ?_;refine zM ?_
 refine zc 26 ?_ ?_ <;> intro h15
 rotate_left
 ·have hnf : X2 t x = false := by unfold X2; simp_all
  refine QaL ?_;refine Qb ?_;exact ⟨⟨(k + 1, t, u), hlt, Qmi hg hx hnf, hc, ht, hu⟩, Qa rfl (XE ⟨(cgO (by simp [Qz])), rfl, (cgO (by simp [Qz])), rfl, X5, rfl, trivial⟩) ⟨(cgA (by simp [Qz, Wz])), rfl, (Q4 (fun _ => rfl) _), (cgA (by simp [Qz, iv1])), rfl, (Q4 (fun _ => rfl) _), trivial⟩, by first | exact Qj2 htd hlt | (dsimp only; omega)⟩
 refine QD ?_;refine uP (XO h15) (Qf rfl rfl rfl k rfl _ (Qi hx) rfl) ?_;refine QH ?_;refine uP (XO h15) (QfA (Qhl t x.t) rfl rfl rfl (.cons (.own rfl (by simp) (QP J4 _) (Kw _)) (.cons (.fz rfl) .nil))) ?_;refine QD ?_
 refine zq ?_ ?_ <;> intro h19
 rotate_left
 ·have hnf : X2 t x = false := by unfold X2; simp_all
  refine Qy ?_;refine Qb ?_;exact ⟨⟨(k + 1, t, u), hlt, Qmi hg hx hnf, hc, ht, hu⟩, Qa rfl (XE ⟨(cgO (by simp [Qz])), rfl, (cgO (by simp [Qz])), rfl, X5, rfl, trivial⟩) ⟨(cgA (by simp [Qz, Wz])), rfl, (Q4 (fun _ => rfl) _), (cgA (by simp [Qz, iv1])), rfl, (Q4 (fun _ => rfl) _), trivial⟩, by first | exact Qj2 htd hlt | (dsimp only; omega)⟩
 have hf : X2 t x = true := by unfold X2; simp_all
 have hhit := Qjr hg hx hf
 have htd := Kv (List.mem_of_getElem? hx) hf
 have hch : WU rs (t ++ [x.t]) (u ++ [(k : Int)]) = WU rs s [] := by rw [← hc, Qkq hhit]
 refine Qy ?_;refine zP (Qf rfl rfl rfl k rfl _ (Qi hx) rfl) ?_;refine QH ?_;refine zP (QG rfl rfl rfl rfl (by exact rfl) (by decide) (by decide)) ?_;refine QS hN rfl rfl rfl (by simp) rfl rfl rfl (by simp [Qz]; omega) rfl rfl rfl rfl ?_;refine Xk ?_;refine zP (QG rfl rfl rfl rfl (by exact rfl) (by decide) (by decide)) ?_;refine QS hN rfl rfl rfl (by simp) rfl rfl rfl (by simp [Qz]; omega) rfl rfl rfl rfl ?_;refine X3 ?_;refine Qb ?_
 exact ⟨⟨(0, t ++ [x.t], u ++ [(k : Int)]), Nat.zero_le _, rfl, hch, by simp only [List.length_append, List.length_singleton]; omega, by simp only [List.length_append, List.length_singleton]; omega⟩, Qa rfl (XE ⟨(cgO (by simp [Qz])), rfl, (cgO (by simp [Qz])), rfl, X5, rfl, trivial⟩) ⟨(cgA (by simp [Qz, Wz])), rfl, (Q4 (fun _ => rfl) _), (cgA (by simp [Qz, iv1])), rfl, (Q4 (fun _ => rfl) _), trivial⟩, by first | exact Qj2 htd hlt | (dsimp only; omega)⟩
theorem Qmb (us : List Nm) (rs : List Ru) (s : List Nm) (hu : us.length ≤ 1000000) (hr : rs.length ≤ 1000000) (hs : s.length ≤ 1000000) : FC Tryz.prog 124 [XS us, rus rs, XS s] (XS (KG us rs s)) := by
 refine Qh [6] Tryz.func124 rfl rfl 18 Tryz.ntmps124 (Nat.le_of_ble_eq_true rfl) ?_
 intro E hN;refine Xo ?_;refine zP (Qd (Qmo rs s hr hs) rfl rfl rfl) ?_;refine Xs ?_;refine zP (Qd (Qkt us (WU rs s []).1 hu) rfl rfl rfl) ?_;refine zS ?_;refine zQ ?_
 rw [Qtw]; rfl
theorem Qjf (l : List En) : ∀ e ∈ l.map K3, fzs e = some e := fun e he => by
 obtain ⟨y, -, rfl⟩ := List.mem_map.1 he
 rfl
theorem QhS (l : List En) : ∀ e ∈ l.map K3, e.length = 2 := Qgq (f := K3) (fun _ => rfl)
theorem QbZ (a b : AV) : JI 2 1 [a, b] = [[a, b]] := rfl
theorem QdC (y : En) (z : List AV) : Wl true 2 (K3 y ++ z) = some (.agg (K3 y)) := by
 have h : Nat.ble 2 (K3 y ++ z).length = true := Nat.ble_eq_true_of_le (by simp [K3])
 show (bif Nat.ble 2 (K3 y ++ z).length then some (AV.agg ((K3 y ++ z).take 2)) else none) = _
 rw [h]; rfl
theorem QcL {l : List En} {i : Nat} {x : En} : (l.map K3).set i (K3 x) = (l.set i x).map K3 := by rw [List.map_set]
def Qd2 (l : List En) (k : Nat) : List En := ((l.zipIdx.take k).filter (Qf1 l)).map Prod.fst
theorem Qiq {l : List En} {k : Nat} {x : En} (h : l[k]? = some x) : Qd2 l (k + 1) = Qd2 l k ++ (if Qf1 l (x, k) then [x] else []) := by
 unfold Qd2
 rw [List.take_add_one, XI h, List.filter_append, List.map_append]
 cases hk : Qf1 l (x, k) <;> simp [hk]
theorem Qe4 {l : List En} {k : Nat} {x : En} (h : l[k]? = some x) (hk : Qf1 l (x, k) = true) : Qd2 l (k + 1) = Qd2 l k ++ [x] := by rw [Qiq h, if_pos hk]
theorem Qgk {l : List En} {k : Nat} {x : En} (h : l[k]? = some x) (hk : Qf1 l (x, k) = false) : Qd2 l (k + 1) = Qd2 l k := by rw [Qiq h, if_neg (by rw [hk]; decide), List.append_nil]
theorem QkE (l : List En) (k : Nat) : (Qd2 l k).length ≤ k := by
 unfold Qd2
 rw [List.length_map];exact Nat.le_trans (List.length_filter_le _ _) (by simp; omega)
theorem QlE {l : List En} {k : Nat} (h : l.length ≤ k) : Qd2 l k = QfG l := by
 unfold Qd2 QfG
 rw [List.take_of_length_le (by rw [Qba]; exact h)]
theorem Qd4 (a b : Qp) (g : Bool) : FC Tryz.prog 118 [.agg (QF a), .agg (QF b), bl g] (.agg (QF (QhC a b g))) := by
 refine Ju [.c 6 30 4 true] ⟨⟨inferInstance, rfl⟩, trivial⟩ Tryz.func118 rfl rfl 16 Tryz.ntmps118 (Nat.le_of_ble_eq_true rfl) ?_
 intro E hN;refine Qd8 ?_
 refine zq ?_ ?_ <;> intro h12
 ·have h1 := h12
  refine Qy ?_;refine Qg ?_;change (resY _ _).bind AV.fzt = some _;refine Xm rfl ?_;rw [QhC, if_pos h1]
 have h1 := h12
 refine Xk ?_;refine Qg ?_;change (resY _ _).bind AV.fzt = some _;refine Xm rfl ?_;rw [QhC, if_neg (by rw [h1]; decide)]
theorem QqO (a b : Qp) (g : Bool) : FC Tryz.prog 120 [.agg (QF a), .agg (QF b), bl g] (.agg (QF (KJ a b g))) := by
 refine Ju [.c 6 30 4 true] ⟨⟨inferInstance, rfl⟩, trivial⟩ Tryz.func120 rfl rfl 28 Tryz.ntmps120 (Nat.le_of_ble_eq_true rfl) ?_
 intro E hN;refine Qd8 ?_
 refine zq ?_ ?_ <;> intro h3
 ·have h2 : g = false := by simpa using h3
  refine Jx ?_
  refine zc 15 ?_ ?_ <;> intro h9
  ·refine Xn ?_;refine Qg ?_;change (resY _ _).bind AV.fzt = some _;refine Xm rfl ?_;rw [show KJ a b g = a from by unfold KJ; simp_all]
  refine QH ?_;refine uP (X0 h9) (Qd (Jr a b) rfl rfl rfl) ?_;refine QH ?_
  refine zq ?_ ?_ <;> intro h14
  ·refine Qy ?_;refine Qg ?_;change (resY _ _).bind AV.fzt = some _;refine Xm rfl ?_;rw [show KJ a b g = a from by unfold KJ; simp_all]
  refine X3 ?_
  refine zq ?_ ?_ <;> intro h19
  ·refine Qy ?_;refine Qg ?_;change (resY _ _).bind AV.fzt = some _;refine Xm rfl ?_;rw [show KJ a b g = b from by unfold KJ; simp_all]
  refine Xg ?_;refine Qg ?_;change (resY _ _).bind AV.fzt = some _;refine Xm rfl ?_
  first | (rw [show KJ a b g = .mk 2 [] [] [] from by unfold KJ; simp_all]; rfl) | (rw [show KJ a b g = .mk 0 [] [] [] from by unfold KJ; simp_all]; rfl)
 have h2 : g = true := by simpa using h3
 refine X3 ?_
 refine zc 15 ?_ ?_ <;> intro h26
 ·refine Xn ?_;refine Qg ?_;change (resY _ _).bind AV.fzt = some _;refine Xm rfl ?_;rw [show KJ a b g = a from by unfold KJ; simp_all]
 refine QH ?_;refine uP (X0 h26) (Qd (Jr a b) rfl rfl rfl) ?_;refine QH ?_
 refine zq ?_ ?_ <;> intro h31
 ·refine Qy ?_;refine Qg ?_;change (resY _ _).bind AV.fzt = some _;refine Xm rfl ?_;rw [show KJ a b g = a from by unfold KJ; simp_all]
 refine X3 ?_
 refine zq ?_ ?_ <;> intro h36
 ·refine Qy ?_;refine Qg ?_;change (resY _ _).bind AV.fzt = some _;refine Xm rfl ?_;rw [show KJ a b g = b from by unfold KJ; simp_all]
 refine Xg ?_;refine Qg ?_;change (resY _ _).bind AV.fzt = some _;refine Xm rfl ?_
 first | (rw [show KJ a b g = .mk 2 [] [] [] from by unfold KJ; simp_all]; rfl) | (rw [show KJ a b g = .mk 0 [] [] [] from by unfold KJ; simp_all]; rfl)
theorem QkN (a b : List En) (ha : J0 a) (hb : J0 b) (hl : a.length + b.length ≤ 1000000) : FC Tryz.prog 121 [WA a, WA b] (WA (JE a b)) := by
 refine Qh [4] Tryz.func121 rfl rfl 108 Tryz.ntmps121 (Nat.le_of_ble_eq_true rfl) ?_
 intro E hN;refine Xs ?_;refine Qx (Wd rfl 5 149 2 rfl) ?_;refine QD ?_;refine QS hN rfl rfl rfl rfl rfl rfl (QP Qef _) (by simp; omega) rfl rfl rfl rfl ?_;refine zM ?_;refine QS hN rfl rfl rfl (by simp) rfl rfl (QP Qef _) (by simp; omega) rfl rfl rfl rfl ?_;refine Xo ?_
 refine Qx (Xl 5 0 rfl rfl (by simp) (by rw [List.all_append]; simp only [List.all_append, QP Qef, List.all_nil, Bool.and_self]) (fun e he => by
  simp only [List.nil_append, List.mem_append] at he
  exact he.elim (Qjf _ e) (Qjf _ e)) rfl) ?_
 refine Qx (Wd rfl 6 149 2 rfl) ?_;refine Qm (fun x : {k : Nat // k ≤ ((a ++ b)).length ∧ True} => ⟨[(5, WA (a ++ b)), (6, .own 1 (Qd2 (a ++ b) x.1).length), (7, i64 (x.1 : Nat))], [(1, .arr 149 2 ((Qd2 (a ++ b) x.1).map K3))], 2⟩) (fun x => ((a ++ b)).length - x.1) (⟨0, Nat.zero_le _, by simp⟩) ?_ ?_
 ·exact Qa rfl ⟨(cgL (by simp)), rfl, (cgO rfl), rfl, (XE trivial)⟩ ⟨(cgA rfl), rfl, (Q4 (fun _ => rfl) _), trivial⟩
 rintro ⟨k, hk, hg⟩;dsimp only;refine Xo ?_
 refine zq ?_ ?_ <;> intro h9
 ·refine Jq 5 rfl (fun hl8 => ?_)
  have hlt : k < (a ++ b).length := by have := of_decide_eq_true h9; rw [List.length_map] at this; omega
  obtain ⟨x, hx⟩ := Qq hlt
  have hml := QkE (a ++ b) k
  have hap : (a ++ b).length = a.length + b.length := List.length_append
  refine WV ?_;refine Qm (fun z : {j : Nat // j ≤ (a ++ b).length} => ⟨[(5, WA (a ++ b)), (6, .own 1 (Qd2 (a ++ b) k).length), (7, i64 (k : Nat)), (8, bl (((a ++ b).zipIdx.take z.1).all (Qep (x, k)))), (9, i64 (z.1 : Nat))], [(1, .arr 149 2 ((Qd2 (a ++ b) k).map K3))], 2⟩) (fun z => (a ++ b).length - z.1) (⟨0, Nat.zero_le _⟩) ?_ ?_
  ·exact Qa rfl (JZ ⟨(Kk (by simp)), rfl, (XE trivial)⟩) ⟨rfl, rfl, (Q4 (fun _ => rfl) _), trivial⟩
  rintro ⟨j, hj⟩;dsimp only;refine Xo ?_
  refine zq ?_ ?_ <;> intro h16
  rotate_left
  ·have hgej : (a ++ b).length ≤ j := by have := of_decide_eq_false h16; rw [List.length_map] at this; omega
   rw [List.take_of_length_le (show (a ++ b).zipIdx.length ≤ j by rw [Qba]; exact hgej)];refine Qy ?_
   refine zq ?_ ?_ <;> intro h13
   ·have hK : Qf1 (a ++ b) (x, k) = true := h13
    refine QC ?_;refine zP (Qf rfl rfl rfl k rfl _ (Qi hx) rfl) ?_;refine zL ?_;refine zP (QG rfl rfl rfl rfl (by exact rfl) (by decide) (by decide)) ?_;refine QS hN rfl rfl rfl (by simp) rfl rfl rfl (by simp [QbZ]; omega) rfl rfl rfl rfl ?_;refine Xk ?_;refine Qb ?_
    exact ⟨⟨k + 1, hlt, trivial⟩, Qa rfl (XE ⟨(cgO (by first | (rw [Qe4 hx hK]; simp [QbZ]; done) | rw [Qgk hx hK])), rfl, X5, rfl, trivial⟩) ⟨(cgA (by first | (rw [Qe4 hx hK]; simp [QbZ, K3]; done) | rw [Qgk hx hK])), rfl, (Q4 (fun _ => rfl) _), trivial⟩, by dsimp only; omega⟩
   have hK : Qf1 (a ++ b) (x, k) = false := h13
   refine Qy ?_;refine Qb ?_;exact ⟨⟨k + 1, hlt, trivial⟩, Qa rfl (XE ⟨(cgO (by first | (rw [Qe4 hx hK]; simp [QbZ]; done) | rw [Qgk hx hK])), rfl, X5, rfl, trivial⟩) ⟨(cgA (by first | (rw [Qe4 hx hK]; simp [QbZ, K3]; done) | rw [Qgk hx hK])), rfl, (Q4 (fun _ => rfl) _), trivial⟩, by dsimp only; omega⟩
  have hjl : j < (a ++ b).length := by have := of_decide_eq_true h16; rw [List.length_map] at this; omega
  obtain ⟨y, hy⟩ := Qq hjl;refine QC ?_;refine zD 10 ?_;refine QH ?_;refine zp (Qf rfl rfl rfl k rfl _ (Qi hx) rfl) ?_;refine QD ?_;refine zp (Qf rfl rfl rfl j rfl _ (Qi hy) rfl) ?_;refine zl ?_;refine zp (Qd (QdG x y) rfl rfl rfl) ?_;refine QC ?_;refine zD 20 ?_;refine QH ?_
  refine zd 41 ?_ ?_ <;> intro h22
  ·refine Qy ?_
   refine zd 46 ?_ ?_ <;> intro h23
   ·refine QrA ?_;refine Qb ?_;exact ⟨⟨j + 1, hjl⟩, Qa rfl (JZ ⟨(Kk (by rw [QeN (XI hy)]; simp_all [Qep])), rfl, X5, rfl, trivial⟩) ⟨rfl, rfl, (Q4 (fun _ => rfl) _), trivial⟩, by dsimp only; omega⟩
   refine Jx ?_;refine vP (X0 h23) (Xx rfl rfl (m1 h22) rfl) ?_;refine Xo ?_;refine Qb ?_;exact ⟨⟨j + 1, hjl⟩, Qa rfl (JZ ⟨(Kk (by rw [QeN (XI hy)]; simp_all [Qep])), rfl, X5, rfl, trivial⟩) ⟨rfl, rfl, (Q4 (fun _ => rfl) _), trivial⟩, by dsimp only; omega⟩
  refine Xs ?_;refine vP (XO (m0 h22)) (Qf rfl rfl rfl k rfl _ (Qi hx) rfl) ?_;refine QD ?_;refine vP (XO (m0 h22)) (Qf rfl rfl rfl j rfl _ (Qi hy) rfl) ?_;refine JB ?_;refine vP (XO (m0 h22)) (Qd (Qif x y) rfl rfl rfl) ?_;refine QD ?_
  refine zq ?_ ?_ <;> intro h30
  ·refine Xg ?_;refine Qb ?_;exact ⟨⟨j + 1, hjl⟩, Qa rfl (JZ ⟨(Kk (by rw [QeN (XI hy)]; simp_all [Qep])), rfl, X5, rfl, trivial⟩) ⟨rfl, rfl, (Q4 (fun _ => rfl) _), trivial⟩, by dsimp only; omega⟩
  refine Qy ?_;refine Qb ?_;exact ⟨⟨j + 1, hjl⟩, Qa rfl (JZ ⟨(Kk (by rw [QeN (XI hy)]; simp_all [Qep])), rfl, X5, rfl, trivial⟩) ⟨rfl, rfl, (Q4 (fun _ => rfl) _), trivial⟩, by dsimp only; omega⟩
 have hge : (a ++ b).length ≤ k := by have := of_decide_eq_false h9; rw [List.length_map] at this; omega
 rw [QlE hge];refine Xg ?_;refine Qm (fun z : {q : Nat × List En // q.1 ≤ q.2.length ∧ q.2.Perm (QfG (a ++ b)) ∧ Qjo q.2 q.1} => ⟨[(6, .own 1 z.1.2.length), (11, i64 (z.1.1 : Nat))], [(1, .arr 149 2 (z.1.2.map K3))], 2⟩) (fun z => (QfG (a ++ b)).length - z.1.1) (⟨(0, QfG (a ++ b)), Nat.zero_le _, List.Perm.refl _, Qo1 _⟩) ?_ ?_
 ·exact Qa rfl (Yf trivial) ⟨rfl, rfl, (Q4 (fun _ => rfl) _), trivial⟩
 rintro ⟨⟨k, o⟩, hk, hpm, hP⟩;dsimp only at hk hpm hP ⊢
 have hol := hpm.length_eq
 have hml := QkE (a ++ b) (a ++ b).length
 rw [QlE (Nat.le_refl _), List.length_append] at hml;refine Qy ?_;refine zP ((Qfo rfl rfl rfl (by simp))) ?_;refine QH ?_
 refine zq ?_ ?_ <;> intro h42
 rotate_left
 ·have hge : o.length ≤ k := by simpa using h42
  obtain rfl : k = o.length := by omega
  have hE := Qvf ha hb hpm hP
  refine Xk ?_;refine Qx (Xl 4 1 rfl rfl (by simp) (QP Qef _) (Qjf _) rfl) ?_;refine zR ?_;rw [hE]
 have hlt : k < o.length := by simpa using h42
 refine Xs ?_;refine Qm (fun z : {q : Nat × List En // k + 1 ≤ q.1 ∧ q.1 ≤ q.2.length ∧ q.2.Perm (QfG (a ++ b)) ∧ Qjo q.2 k ∧ Qmn q.2 k q.1} => ⟨[(6, .own 1 z.1.2.length), (11, i64 (k : Nat)), (12, i64 (z.1.1 : Nat))], [(1, .arr 149 2 (z.1.2.map K3))], 2⟩) (fun z => (QfG (a ++ b)).length - z.1.1) (⟨(k + 1, o), Nat.le_refl _, hlt, hpm, hP, Qow _ _⟩) ?_ ?_
 ·exact Qa rfl (Yf ⟨X5, rfl, trivial⟩) ⟨rfl, rfl, (Q4 (fun _ => rfl) _), trivial⟩
 rintro ⟨⟨j, o2⟩, hkj, hjo, hpm2, hP2, hQ2⟩;dsimp only at hkj hjo hpm2 hP2 hQ2 ⊢
 have hol2 := hpm2.length_eq
 refine Qy ?_;refine zP ((Qfo rfl rfl rfl (by simp))) ?_;refine QH ?_
 refine zq ?_ ?_ <;> intro h48
 rotate_left
 ·have hgej : o2.length ≤ j := by simpa using h48
  refine Qy ?_;refine Qb ?_
  exact ⟨⟨(k + 1, o2), by dsimp only; omega, hpm2, Qti hP2 (by
   have e : j = o2.length := by omega
   rw [← e]; exact hQ2)⟩, Qa rfl (XE ⟨X5, rfl, trivial⟩) ⟨rfl, rfl, (Q4 (fun _ => rfl) _), trivial⟩, by dsimp only; omega⟩
 have hjl : j < o2.length := by simpa using h48
 obtain ⟨y, hy⟩ := Qq hjl;obtain ⟨x, hx⟩ := Qq (show k < o2.length by omega);refine QC ?_;refine zD 9 ?_;refine QH ?_;refine zp (YD rfl rfl rfl rfl (by simp) j rfl (by omega)) ?_;refine zp (Wg rfl rfl rfl (by simp) (QhS _) j rfl (Qi hy) (QdC _) rfl) ?_;refine QH ?_;refine zp (YD rfl rfl rfl rfl (by simp) k rfl (by omega)) ?_;refine zp (Wg rfl rfl rfl (by simp) (QhS _) k rfl (Qi hx) (QdC _) rfl) ?_;refine zp (Qd (QdG y x) rfl rfl rfl) ?_;refine QH ?_
 refine zq ?_ ?_ <;> intro h54
 rotate_left
 ·have hge2 : 0 ≤ Jh y x := by simpa using h54
  refine Qy ?_;refine Qb ?_;exact ⟨⟨(j + 1, o2), by omega, hjl, hpm2, hP2, Qr2 hQ2 hx hy hge2⟩, Qa rfl ⟨(cgO (by first | rfl | exact QeS.symm)), rfl, rfl, rfl, X5, rfl, trivial⟩ ⟨(cgA (by first | rfl | (rw [QcL, QcL]; rfl))), rfl, (Q4 (fun _ => rfl) _), trivial⟩, by dsimp only; omega⟩
 have hlt2 : Jh y x < 0 := by simpa using h54
 refine Qhk 16 rfl (by kernel_rfl) (by kernel_rfl) (fun _ _ h => h) ?_;refine Xf 0 rfl (by kernel_rfl) (by kernel_rfl) rfl (JJ hN rfl rfl rfl rfl rfl rfl) ?_;refine Xf 1 rfl (by kernel_rfl) (by kernel_rfl) rfl (JJ hN rfl rfl rfl rfl rfl rfl) ?_;refine Xf 2 rfl (by kernel_rfl) (by kernel_rfl) rfl (JJ hN rfl rfl rfl rfl rfl rfl) ?_;refine Xf 3 rfl (by kernel_rfl) (by kernel_rfl) rfl (JJ hN rfl rfl rfl rfl rfl rfl) ?_;refine Xf 4 rfl (by kernel_rfl) (by kernel_rfl) rfl (JJ hN rfl rfl rfl rfl rfl rfl) ?_
 refine Xf 5 rfl (by kernel_rfl) (by kernel_rfl) rfl (JJ hN rfl rfl rfl rfl rfl rfl) ?_;refine Xf 6 rfl (by kernel_rfl) (by kernel_rfl) rfl (Qgl hN rfl rfl rfl rfl (by simp) j rfl (by omega) rfl rfl rfl rfl) ?_;refine Xf 8 rfl (by kernel_rfl) (by kernel_rfl) rfl (JJ hN rfl rfl rfl rfl rfl rfl) ?_;refine Xf 9 rfl (by kernel_rfl) (by kernel_rfl) rfl (JJ hN rfl rfl rfl rfl rfl rfl) ?_;refine Xf 10 rfl (by kernel_rfl) (by kernel_rfl) rfl (Qgl hN rfl rfl rfl rfl (by simp) k rfl (by omega) rfl rfl rfl rfl) ?_
 refine Jf [7, 11] (by kernel_rfl) rfl ⟨.inl (JA rfl ?_), .inl (JA rfl ?_), trivial⟩
 ·refine zp (Wg rfl rfl rfl (by simp) (QhS _) j rfl (Qi hy) (QdC _) rfl) ?_;change AT _ _ _ _ _ _ _ _;refine Jf [11] (by kernel_rfl) rfl ⟨.inl (JA rfl ?_), trivial⟩;refine zp (Wg rfl rfl rfl (by simp) (QhS _) k rfl (Qi hx) (QdC _) rfl) ?_;change AT _ _ _ _ _ _ _ _;refine Jf [12] (by kernel_rfl) rfl ⟨.inl (JA rfl ?_), trivial⟩;refine zp (YD rfl rfl rfl rfl (by simp) k rfl (by omega)) ?_;change AT _ _ _ _ _ _ _ _
  refine Jf [13] (by kernel_rfl) rfl ⟨.inr (Wq rfl rfl rfl rfl (by simp) k rfl (by simp; omega) rfl rfl rfl rfl (QhS _) rfl rfl rfl rfl ?_), trivial⟩;change AT _ _ _ _ _ _ _ _;refine Jf [14] (by kernel_rfl) rfl ⟨.inl (JA rfl ?_), trivial⟩;refine zp (YD rfl rfl rfl rfl (by simp) j rfl (by omega)) ?_;change AT _ _ _ _ _ _ _ _;refine Jf [15] (by kernel_rfl) rfl ⟨.inr (Wq rfl rfl rfl rfl (by simp) j rfl (by simp; omega) rfl rfl rfl rfl (by rw [QcL]; exact QhS _) rfl rfl rfl rfl ?_), trivial⟩;change AT _ _ _ _ _ _ _ _;refine QaT (by kernel_rfl) ?_
  change Ym _ _ _ _  _;refine QC ?_;refine Qb ?_;exact ⟨⟨(j + 1, swp o2 k j x y), by omega, by dsimp only; rw [QeS]; exact hjl, (Qk6 hx hy).trans hpm2, (Qe7 (by omega) hP2 hQ2 hx hy hlt2).1, (Qe7 (by omega) hP2 hQ2 hx hy hlt2).2⟩, Qa rfl ⟨(cgO (by first | rfl | exact QeS.symm)), rfl, rfl, rfl, X5, rfl, trivial⟩ ⟨(cgA (by first | rfl | (rw [QcL, QcL]; rfl))), rfl, (Q4 (fun _ => rfl) _), trivial⟩, by dsimp only; omega⟩
 refine zp (Wg rfl rfl rfl (by simp) (QhS _) k rfl (Qi hx) (QdC _) rfl) ?_;change AT _ _ _ _ _ _ _ _;refine Jf [7] (by kernel_rfl) rfl ⟨.inl (JA rfl ?_), trivial⟩;refine zp (Wg rfl rfl rfl (by simp) (QhS _) j rfl (Qi hy) (QdC _) rfl) ?_;change AT _ _ _ _ _ _ _ _;refine Jf [12] (by kernel_rfl) rfl ⟨.inl (JA rfl ?_), trivial⟩;refine zp (YD rfl rfl rfl rfl (by simp) k rfl (by omega)) ?_;change AT _ _ _ _ _ _ _ _
 refine Jf [13] (by kernel_rfl) rfl ⟨.inr (Wq rfl rfl rfl rfl (by simp) k rfl (by simp; omega) rfl rfl rfl rfl (QhS _) rfl rfl rfl rfl ?_), trivial⟩;change AT _ _ _ _ _ _ _ _;refine Jf [14] (by kernel_rfl) rfl ⟨.inl (JA rfl ?_), trivial⟩;refine zp (YD rfl rfl rfl rfl (by simp) j rfl (by omega)) ?_;change AT _ _ _ _ _ _ _ _;refine Jf [15] (by kernel_rfl) rfl ⟨.inr (Wq rfl rfl rfl rfl (by simp) j rfl (by simp; omega) rfl rfl rfl rfl (by rw [QcL]; exact QhS _) rfl rfl rfl rfl ?_), trivial⟩;change AT _ _ _ _ _ _ _ _;refine QaT (by kernel_rfl) ?_
 change Ym _ _ _ _  _;refine QC ?_;refine Qb ?_;exact ⟨⟨(j + 1, swp o2 k j x y), by omega, by dsimp only; rw [QeS]; exact hjl, (Qk6 hx hy).trans hpm2, (Qe7 (by omega) hP2 hQ2 hx hy hlt2).1, (Qe7 (by omega) hP2 hQ2 hx hy hlt2).2⟩, Qa rfl ⟨(cgO (by first | rfl | exact QeS.symm)), rfl, rfl, rfl, X5, rfl, trivial⟩ ⟨(cgA (by first | rfl | (rw [QcL, QcL]; rfl))), rfl, (Q4 (fun _ => rfl) _), trivial⟩, by dsimp only; omega⟩
end Go.Proofs.YtnkkokmmeplbgaaGreat
