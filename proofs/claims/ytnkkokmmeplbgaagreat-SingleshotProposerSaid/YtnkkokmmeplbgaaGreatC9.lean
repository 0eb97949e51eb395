/-
  Contracts of the reference: unions, closures.
-/
import Derived.Test.YtnkkokmmeplbgaaGreatC8
import Derived.Test.YtnkkokmmeplbgaaGreatC2
import Derived.Test.YtnkkokmmeplbgaaGreatC7
namespace Go.Proofs.YtnkkokmmeplbgaaGreat
set_option maxRecDepth 100000
set_option maxHeartbeats 1000000
open Go.RowKit
theorem Qnc {P : Program} {E : Jn} {ops : Array Oper} {l : List Oper} {Q : Exit → St → Prop} {st st' : St} (hw : Kx E st st') (h : Qj P E ops l Q st') : Qj P E ops l Q st := fun c a hr => by
 obtain ⟨c', e, h'⟩ := hw c a hr
 have := h c' a h'
 rwa [e] at this
theorem Qsp {a b : List Nm} (ha : Qq a = true) (hb : Qq b = true) : ofN (a ++ b) = Ku a b := (QfT (XP (WB ha hb)) (fun z => by rw [K9 ha hb, List.mem_append])).symm
theorem Qsl {a b : List Nm} (ha : Qq a = true) (hb : Qq b = true) : ofN (a.filter (X2 b)) = itr a b := (QfT (XP (Qlx ha hb)) (fun z => by rw [QqB ha hb, List.mem_filter, Yb])).symm
theorem Qlj {f : FuncId} {a b : List Nm} {r : AV} (h : FC Tryz.prog f [X1 (a ++ b)] r) : FC Tryz.prog f [.sl ([] ++ a.map K2 ++ b.map K2) none] r := by
 have e : X1 (a ++ b) = .sl ([] ++ a.map K2 ++ b.map K2) none := by simp
 rwa [e] at h
theorem Qiy {A B L k : Nat} (h : A < B) (_ : k < L) : A * (L + 1) + L < B * (L + 1) + (L - k) := by
 have h1 := Nat.mul_le_mul_right (L + 1) h
 rw [Nat.succ_mul] at h1
 omega
theorem Qng (a b : List Nm) (hl : a.length + b.length ≤ 1000000) : FC Tryz.prog 123 [X1 a, X1 b] (X1 (ofN (a ++ b))) := by
 refine Qg [4] Tryz.func123 rfl rfl 11 Tryz.ntmps123 (Nat.le_of_ble_eq_true rfl) ?_
 intro E hN
 refine Q8 ?_; refine Yw hN rfl rfl rfl rfl rfl rfl ?_; refine zM ?_
 refine Xm hN rfl rfl rfl rfl rfl rfl (QN JN _) (by simp; omega) rfl rfl rfl rfl ?_
 refine zM ?_
 refine Xm hN rfl rfl rfl (by simp) rfl rfl (QN JN _) (by simp; omega) rfl rfl rfl rfl ?_
 refine Qnc (Ju 9 0 rfl rfl (by simp) (by rw [List.all_append]; simp only [List.all_append, QN JN, List.all_nil, Bool.and_self]) (fun e he => by
  simp only [List.nil_append, List.mem_append] at he
  exact he.elim (Y5 _ e) (Y5 _ e)) rfl) ?_
 refine zP (Qc (Qlj (Qi4 (a ++ b) (by rw [List.length_append]; exact hl))) rfl rfl rfl) ?_
 refine zS ?_; refine zQ ?_
 rfl
theorem QnC (a b : List Nm) (ha : a.length ≤ 1000000) : FC Tryz.prog 122 [X1 a, X1 b] (X1 (ofN (a.filter (X2 b)))) := by
 refine Qg [4] Tryz.func122 rfl rfl 29 Tryz.ntmps122 (Nat.le_of_ble_eq_true rfl) ?_
 intro E hN
 refine Q8 ?_; refine Yw hN rfl rfl rfl rfl rfl rfl ?_; refine XN ?_
 refine Ql (fun x : {k : Nat // k ≤ (a).length ∧ True} => ⟨[(0, X1 a), (1, X1 b), (5, .own 0 ((a.take x.1).filter (X2 b)).length), (6, i64 (x.1 : Nat))], [(0, .arr 9 1 (((a.take x.1).filter (X2 b)).map K2))], 1⟩) (fun x => (a).length - x.1) (⟨0, Nat.zero_le _, by simp⟩) ?_ ?_
 ·
  exact Qa rfl (JH trivial) ⟨rfl, rfl, (QT (fun _ => rfl) _), trivial⟩
 rintro ⟨k, hk, hg⟩
 dsimp only
 refine XN ?_
 refine zq ?_ ?_ <;> intro h9
 rotate_left
 ·
  have hge : a.length ≤ k := by simpa using h9
  rw [List.take_of_length_le hge]
  refine Qu ?_; refine QI (Ju 5 0 rfl rfl (by simp) (QN JN _) (Y5 _) rfl) ?_; refine Qu ?_
  refine zP (Qc (Qi4 (a.filter (X2 b)) (Nat.le_trans (List.length_filter_le _ _) ha)) rfl rfl rfl) ?_; refine zS ?_; refine zQ ?_
  rfl
 have hlt : k < (a).length := by simpa using h9
 obtain ⟨x, hx⟩ := Qn hlt
 refine XN ?_; refine zP (Qf rfl rfl rfl k rfl _ (Qk hx) rfl) ?_; refine zL ?_; refine zP (Qc (Qej b x) rfl rfl rfl) ?_; refine zN ?_
 refine zq ?_ ?_ <;> intro h12
 ·
  have hq : X2 b x = true := h12
  refine Qv ?_; refine zP (Qf rfl rfl rfl k rfl _ (Qk hx) rfl) ?_; refine zL ?_
  refine zP (QE rfl rfl rfl rfl (by exact rfl) (by decide) (by decide)) ?_
  refine Xm hN rfl rfl rfl (by simp) rfl rfl rfl (by have := QiV (q := X2 b) (l := a) (k := k); simp [QA] at this ⊢; omega) rfl rfl rfl rfl ?_
  refine Q8 ?_; refine Qb ?_
  exact ⟨⟨k + 1, hlt, trivial⟩, Qa rfl (JI ⟨(cgO (by first | (rw [Wy hx hq]; simp [QA]; done) | rw [Qbc hx hq])), rfl, (Q0 (by dsimp only; omega)), rfl, trivial⟩) ⟨(cgA (by first | (rw [Wy hx hq]; simp [QA, K2]; done) | rw [Qbc hx hq])), rfl, (QT (fun _ => rfl) _), trivial⟩, by dsimp only; omega⟩
 have hq : X2 b x = false := h12
 refine QF ?_; refine Qb ?_
 exact ⟨⟨k + 1, hlt, trivial⟩, Qa rfl (JI ⟨(cgO (by first | (rw [Wy hx hq]; simp [QA]; done) | rw [Qbc hx hq])), rfl, (Q0 (by dsimp only; omega)), rfl, trivial⟩) ⟨(cgA (by first | (rw [Wy hx hq]; simp [QA, K2]; done) | rw [Qbc hx hq])), rfl, (QT (fun _ => rfl) _), trivial⟩, by dsimp only; omega⟩
theorem QgH (l : List Nm) (s : Nm) : FC Tryz.prog 190 [X1 l, sv s] (bl (X2 l s)) := by
 refine Qg [4] Tryz.func190 rfl rfl 18 Tryz.ntmps190 (Nat.le_of_ble_eq_true rfl) ?_
 intro E hN
 refine Jj 0 rfl (fun hl0 => ?_)
 refine XB ?_
 refine Ql (fun x : {k : Nat // k ≤ (l).length ∧ (l.drop k).any (s == ·) = l.any (s == ·)} => ⟨[(0, X1 l), (1, sv s), (5, i64 (x.1 : Nat))], [], 0⟩) (fun x => (l).length - x.1) (⟨0, Nat.zero_le _, by simp⟩) ?_ ?_
 ·
  exact Qa rfl (JO trivial) trivial
 rintro ⟨k, hk, hg⟩
 dsimp only
 refine XN ?_
 refine zq ?_ ?_ <;> intro h7
 rotate_left
 ·
  have hge : (l).length ≤ k := by simpa using h7
  refine Qv ?_; refine zQ ?_
  exact Qm (QfB hg hge).symm
 have hlt : k < (l).length := by simpa using h7
 obtain ⟨x, hx⟩ := Qn hlt
 refine Q4 ?_; refine zP (Qf rfl rfl rfl k rfl _ (Qk hx) rfl) ?_; refine Qv ?_
 refine zq ?_ ?_ <;> intro h10
 ·
  have hxs : x = s := by simpa using h10
  refine Qs ?_; refine zQ ?_
  exact Qm (Qf0 hg hx (by rw [hxs]; simp)).symm
 have hxs : x ≠ s := by simpa using h10
 refine QF ?_; refine Qb ?_
 exact ⟨⟨k + 1, hlt, Qin hg hx (beq_eq_false_iff_ne.2 fun e => hxs e.symm)⟩, Qa rfl (JI ⟨(Q0 (by dsimp only; omega)), rfl, trivial⟩) trivial, by dsimp only; omega⟩
theorem Qjk (a b : List Nm) : FC Tryz.prog 189 [X1 a, X1 b] (bl (JT a b)) := by
 refine Qg [4] Tryz.func189 rfl rfl 19 Tryz.ntmps189 (Nat.le_of_ble_eq_true rfl) ?_
 intro E hN
 refine Jj 0 rfl (fun hl0 => ?_)
 have hE : a.all (X2 b) = JT a b := by rw [Bool.eq_iff_iff, YL, List.all_eq_true]; simp only [Yb]
 rw [← hE]
 refine XB ?_
 refine Ql (fun x : {k : Nat // k ≤ (a).length ∧ (a.drop k).all (X2 b) = a.all (X2 b)} => ⟨[(0, X1 a), (1, X1 b), (5, i64 (x.1 : Nat))], [], 0⟩) (fun x => (a).length - x.1) (⟨0, Nat.zero_le _, by simp⟩) ?_ ?_
 ·
  exact Qa rfl (JO trivial) trivial
 rintro ⟨k, hk, hg⟩
 dsimp only
 refine XN ?_
 refine zq ?_ ?_ <;> intro h7
 rotate_left
 ·
  have hge : (a).length ≤ k := by simpa using h7
  refine Qv ?_; refine zQ ?_
  exact Qm (XU hg hge).symm
 have hlt : k < (a).length := by simpa using h7
 obtain ⟨x, hx⟩ := Qn hlt
 refine XN ?_; refine zP (Qf rfl rfl rfl k rfl _ (Qk hx) rfl) ?_; refine zL ?_; refine zP (Qc (QgH b x) rfl rfl rfl) ?_
 refine Qu ?_
 refine zq ?_ ?_ <;> intro h10
 ·
  refine Qs ?_; refine zQ ?_
  exact Qm (Q3 hg hx (by simp_all)).symm
 refine QF ?_; refine Qb ?_
 exact ⟨⟨k + 1, hlt, Xx hg hx (by simp_all)⟩, Qa rfl (JI ⟨(Q0 (by dsimp only; omega)), rfl, trivial⟩) trivial, by dsimp only; omega⟩
theorem Qj7 (a b : List Nm) (ha : a.length ≤ 1000000) : FC Tryz.prog 151 [X1 a, X1 b] (X1 (a.filter (X2 b))) := by
 refine Qg [4] Tryz.func151 rfl rfl 28 Tryz.ntmps151 (Nat.le_of_ble_eq_true rfl) ?_
 intro E hN
 refine Q8 ?_; refine Yw hN rfl rfl rfl rfl rfl rfl ?_; refine XN ?_
 refine Ql (fun x : {k : Nat // k ≤ (a).length ∧ True} => ⟨[(0, X1 a), (1, X1 b), (5, .own 0 ((a.take x.1).filter (X2 b)).length), (6, i64 (x.1 : Nat))], [(0, .arr 9 1 (((a.take x.1).filter (X2 b)).map K2))], 1⟩) (fun x => (a).length - x.1) (⟨0, Nat.zero_le _, by simp⟩) ?_ ?_
 ·
  exact Qa rfl (JH trivial) ⟨rfl, rfl, (QT (fun _ => rfl) _), trivial⟩
 rintro ⟨k, hk, hg⟩
 dsimp only
 refine XN ?_
 refine zq ?_ ?_ <;> intro h9
 rotate_left
 ·
  have hge : a.length ≤ k := by simpa using h9
  rw [List.take_of_length_le hge]
  refine Q8 ?_; refine QI (Ju 4 0 rfl rfl (by simp) (QN JN _) (Y5 _) rfl) ?_; refine zR ?_
  rfl
 have hlt : k < (a).length := by simpa using h9
 obtain ⟨x, hx⟩ := Qn hlt
 refine XN ?_; refine zP (Qf rfl rfl rfl k rfl _ (Qk hx) rfl) ?_; refine zL ?_; refine zP (Qc (QgH b x) rfl rfl rfl) ?_
 refine zN ?_
 refine zq ?_ ?_ <;> intro h12
 ·
  have hq : X2 b x = true := h12
  refine Qv ?_; refine zP (Qf rfl rfl rfl k rfl _ (Qk hx) rfl) ?_; refine zL ?_
  refine zP (QE rfl rfl rfl rfl (by exact rfl) (by decide) (by decide)) ?_
  refine Xm hN rfl rfl rfl (by simp) rfl rfl rfl (by have := QiV (q := X2 b) (l := a) (k := k); simp [QA] at this ⊢; omega) rfl rfl rfl rfl ?_
  refine Q8 ?_; refine Qb ?_
  exact ⟨⟨k + 1, hlt, trivial⟩, Qa rfl (JI ⟨(cgO (by first | (rw [Wy hx hq]; simp [QA]; done) | rw [Qbc hx hq])), rfl, (Q0 (by dsimp only; omega)), rfl, trivial⟩) ⟨(cgA (by first | (rw [Wy hx hq]; simp [QA, K2]; done) | rw [Qbc hx hq])), rfl, (QT (fun _ => rfl) _), trivial⟩, by dsimp only; omega⟩
 have hq : X2 b x = false := h12
 refine QF ?_; refine Qb ?_
 exact ⟨⟨k + 1, hlt, trivial⟩, Qa rfl (JI ⟨(cgO (by first | (rw [Wy hx hq]; simp [QA]; done) | rw [Qbc hx hq])), rfl, (Q0 (by dsimp only; omega)), rfl, trivial⟩) ⟨(cgA (by first | (rw [Wy hx hq]; simp [QA, K2]; done) | rw [Qbc hx hq])), rfl, (QT (fun _ => rfl) _), trivial⟩, by dsimp only; omega⟩
theorem QlK (rs : List Ru) (s : List Nm) (hr : rs.length ≤ 1000000) (hs : s.length ≤ 1000000) : FC Tryz.prog 150 [rus rs, X1 s] (.tup [X1 (Wf rs s []).1, ivs (Wf rs s []).2]) := by
 refine Qg [4, 5] Tryz.func150 rfl rfl 50 Tryz.ntmps150 (Nat.le_of_ble_eq_true rfl) ?_
 intro E hN
 refine Q4 ?_; refine Yw hN rfl rfl rfl rfl rfl rfl ?_; refine zM ?_
 refine Xm hN rfl rfl rfl rfl rfl rfl (QN JN _) (by simp; omega) rfl rfl rfl rfl ?_
 refine Qv ?_; refine Yw hN rfl rfl rfl rfl rfl rfl ?_; refine XN ?_
 refine Ql (fun z : {q : Nat × List Nm × List Int // q.1 ≤ rs.length ∧ YP (XV q.2.1) (rs.drop q.1) q.1 = YP (XV q.2.1) rs 0 ∧ Wf rs q.2.1 q.2.2 = Wf rs s [] ∧ q.2.1.length + Qbu rs q.2.1 ≤ s.length + rs.length ∧ q.2.2.length + Qbu rs q.2.1 ≤ rs.length} => ⟨[(0, rus rs), (6, .own 0 z.1.2.1.length), (7, .own 1 z.1.2.2.length), (8, i64 (z.1.1 : Nat))], [(0, .arr 9 1 (z.1.2.1.map K2)), (1, .arr 3 1 (z.1.2.2.map iv1))], 2⟩) (fun z => Qbu rs z.1.2.1 * (rs.length + 1) + (rs.length - z.1.1)) (⟨(0, s, []), Nat.zero_le _, rfl, rfl, by have := Qeo (rs := rs) (t := s); dsimp only; omega, by have := Qeo (rs := rs) (t := s); simpa using this⟩) ?_ ?_
 ·
  exact Qa rfl (Xv ⟨(cgO (by simp)), rfl, (cgO rfl), rfl, (Xv trivial)⟩) ⟨(cgA (by simp)), rfl, (QT (fun _ => rfl) _), (cgA rfl), rfl, (QT (fun _ => rfl) _), trivial⟩
 rintro ⟨⟨k, t, u⟩, hk, hg, hc, ht, hu⟩
 dsimp only at hk hg hc ht hu ⊢
 refine XN ?_
 refine zq ?_ ?_ <;> intro h11
 rotate_left
 ·
  have hge : rs.length ≤ k := by simpa using h11
  have hn : YP (XV t) rs 0 = none := by rw [← hg, List.drop_of_length_le hge]; rfl
  rw [Qg0 hn] at hc
  refine XN ?_; refine QI (Ju 4 0 rfl rfl (by simp) (QN JN _) (Y5 _) rfl) ?_
  refine QI (Ju 5 1 rfl rfl (by simp) (QN (fun _ => rfl) _) (Qmc _) rfl) ?_; refine zR ?_
  rw [← hc]
 have hlt : k < (rs).length := by simpa using h11
 obtain ⟨x, hx⟩ := Qn hlt
 refine Q4 ?_; refine zP (Qf rfl rfl rfl k rfl _ (Qk hx) rfl) ?_; refine Qs ?_
 refine zP (QeR (Qjk x.i t) rfl rfl rfl (.cons (.fz rfl) (.cons (.own rfl (by simp) (QN JN _) (Y5 _)) .nil))) ?_; refine zM ?_
 refine zc 26 ?_ ?_ <;> intro h15
 rotate_left
 ·
  have hnf : XV t x = false := by unfold XV; simp_all
  refine Qcb ?_; refine Qb ?_
  exact ⟨⟨(k + 1, t, u), hlt, Qlq hg hx hnf, hc, ht, hu⟩, Qa rfl (Xv ⟨(cgO (by simp [QA])), rfl, (cgO (by simp [QA])), rfl, (Q0 (by dsimp only; omega)), rfl, trivial⟩) ⟨(cgA (by simp [QA, K2])), rfl, (QT (fun _ => rfl) _), (cgA (by simp [QA, iv1])), rfl, (QT (fun _ => rfl) _), trivial⟩, by first | exact Qiy htd hlt | (dsimp only; omega)⟩
 refine Qs ?_; refine uP (XG h15) (Qf rfl rfl rfl k rfl _ (Qk hx) rfl) ?_; refine Qu ?_
 refine uP (XG h15) (QeR (QgH t x.t) rfl rfl rfl (.cons (.own rfl (by simp) (QN JN _) (Y5 _)) (.cons (.fz rfl) .nil))) ?_
 refine Qs ?_
 refine zq ?_ ?_ <;> intro h19
 rotate_left
 ·
  have hnf : XV t x = false := by unfold XV; simp_all
  refine QF ?_; refine Qb ?_
  exact ⟨⟨(k + 1, t, u), hlt, Qlq hg hx hnf, hc, ht, hu⟩, Qa rfl (Xv ⟨(cgO (by simp [QA])), rfl, (cgO (by simp [QA])), rfl, (Q0 (by dsimp only; omega)), rfl, trivial⟩) ⟨(cgA (by simp [QA, K2])), rfl, (QT (fun _ => rfl) _), (cgA (by simp [QA, iv1])), rfl, (QT (fun _ => rfl) _), trivial⟩, by first | exact Qiy htd hlt | (dsimp only; omega)⟩
 have hf : XV t x = true := by unfold XV; simp_all
 have hhit := Qi3 hg hx hf
 have htd := Y4 (List.mem_of_getElem? hx) hf
 have hch : Wf rs (t ++ [x.t]) (u ++ [(k : Int)]) = Wf rs s [] := by rw [← hc, Qjw hhit]
 refine QF ?_; refine zP (Qf rfl rfl rfl k rfl _ (Qk hx) rfl) ?_; refine Qu ?_
 refine zP (QE rfl rfl rfl rfl (by exact rfl) (by decide) (by decide)) ?_
 refine Xm hN rfl rfl rfl (by simp) rfl rfl rfl (by simp [QA]; omega) rfl rfl rfl rfl ?_
 refine Q8 ?_; refine zP (QE rfl rfl rfl rfl (by exact rfl) (by decide) (by decide)) ?_
 refine Xm hN rfl rfl rfl (by simp) rfl rfl rfl (by simp [QA]; omega) rfl rfl rfl rfl ?_
 refine JA ?_; refine Qb ?_
 exact ⟨⟨(0, t ++ [x.t], u ++ [(k : Int)]), Nat.zero_le _, rfl, hch, by simp only [List.length_append, List.length_singleton]; omega, by simp only [List.length_append, List.length_singleton]; omega⟩, Qa rfl (Xv ⟨(cgO (by simp [QA])), rfl, (cgO (by simp [QA])), rfl, (Q0 (by dsimp only; omega)), rfl, trivial⟩) ⟨(cgA (by simp [QA, K2])), rfl, (QT (fun _ => rfl) _), (cgA (by simp [QA, iv1])), rfl, (QT (fun _ => rfl) _), trivial⟩, by first | exact Qiy htd hlt | (dsimp only; omega)⟩
theorem Ql1 (us : List Nm) (rs : List Ru) (s : List Nm) (hu : us.length ≤ 1000000) (hr : rs.length ≤ 1000000) (hs : s.length ≤ 1000000) : FC Tryz.prog 124 [X1 us, rus rs, X1 s] (X1 (Ka us rs s)) := by
 refine Qg [6] Tryz.func124 rfl rfl 18 Tryz.ntmps124 (Nat.le_of_ble_eq_true rfl) ?_
 intro E hN
 refine XN ?_; refine zP (Qc (QlK rs s hr hs) rfl rfl rfl) ?_; refine XB ?_
 refine zP (Qc (Qj7 us (Wf rs s []).1 hu) rfl rfl rfl) ?_; refine zS ?_; refine zQ ?_
 rw [Qqt]; rfl
theorem Qjf (l : List En) : ∀ e ∈ l.map Kv, fzs e = some e := fun e he => by
 obtain ⟨y, -, rfl⟩ := List.mem_map.1 he
 rfl
theorem Qhb (l : List En) : ∀ e ∈ l.map Kv, e.length = 2 := QfF (f := Kv) (fun _ => rfl)
theorem Qbj (a b : AV) : Qo 2 1 [a, b] = [[a, b]] := rfl
theorem QcP (y : En) (z : List AV) : K4 true 2 (Kv y ++ z) = some (.agg (Kv y)) := by
 have h : Nat.ble 2 (Kv y ++ z).length = true := Nat.ble_eq_true_of_le (by simp [Kv])
 show (bif Nat.ble 2 (Kv y ++ z).length then some (AV.agg ((Kv y ++ z).take 2)) else none) = _
 rw [h]; rfl
theorem QcE {l : List En} {i : Nat} {x : En} : (l.map Kv).set i (Kv x) = (l.set i x).map Kv := by rw [List.map_set]
def Qdr (l : List En) (k : Nat) : List En := ((l.zipIdx.take k).filter (Qfg l)).map Prod.fst
theorem QhT {l : List En} {k : Nat} {x : En} (h : l[k]? = some x) : Qdr l (k + 1) = Qdr l k ++ (if Qfg l (x, k) then [x] else []) := by
 unfold Qdr
 rw [List.take_add_one, XF h, List.filter_append, List.map_append]
 cases hk : Qfg l (x, k) <;> simp [hk]
theorem QdR {l : List En} {k : Nat} {x : En} (h : l[k]? = some x) (hk : Qfg l (x, k) = true) : Qdr l (k + 1) = Qdr l k ++ [x] := by rw [QhT h, if_pos hk]
theorem QfK {l : List En} {k : Nat} {x : En} (h : l[k]? = some x) (hk : Qfg l (x, k) = false) : Qdr l (k + 1) = Qdr l k := by rw [QhT h, if_neg (by rw [hk]; decide), List.append_nil]
theorem QjG (l : List En) (k : Nat) : (Qdr l k).length ≤ k := by
 unfold Qdr
 rw [List.length_map]
 exact Nat.le_trans (List.length_filter_le _ _) (by simp; omega)
theorem Qkp {l : List En} {k : Nat} (h : l.length ≤ k) : Qdr l k = QeC l := by
 unfold Qdr QeC
 rw [List.take_of_length_le (by rw [Qaz]; exact h)]
theorem QdB (a b : Qw) (g : Bool) : FC Tryz.prog 118 [.agg (Qz a), .agg (Qz b), bl g] (.agg (Qz (QgB a b g))) := by
 refine Jf [.c 6 30 4 true] ⟨⟨inferInstance, rfl⟩, trivial⟩ Tryz.func118 rfl rfl 16 Tryz.ntmps118 (Nat.le_of_ble_eq_true rfl) ?_
 intro E hN
 refine QeT ?_
 refine zq ?_ ?_ <;> intro h12
 ·
  have h1 := h12
  refine QF ?_; refine Qh ?_
  change (resY _ _).bind AV.fzt = some _
  refine XD rfl ?_
  rw [QgB, if_pos h1]
 have h1 := h12
 refine Q8 ?_; refine Qh ?_
 change (resY _ _).bind AV.fzt = some _
 refine XD rfl ?_
 rw [QgB, if_neg (by rw [h1]; decide)]
theorem Qol (a b : Qw) (g : Bool) : FC Tryz.prog 120 [.agg (Qz a), .agg (Qz b), bl g] (.agg (Qz (Kf a b g))) := by
 refine Jf [.c 6 30 4 true] ⟨⟨inferInstance, rfl⟩, trivial⟩ Tryz.func120 rfl rfl 28 Tryz.ntmps120 (Nat.le_of_ble_eq_true rfl) ?_
 intro E hN
 refine QeT ?_
 refine zq ?_ ?_ <;> intro h3
 ·
  have h2 : g = false := by simpa using h3
  refine X6 ?_
  refine zc 15 ?_ ?_ <;> intro h9
  ·
   refine Jv ?_; refine Qh ?_
   change (resY _ _).bind AV.fzt = some _
   refine XD rfl ?_
   rw [show Kf a b g = a from by unfold Kf; simp_all]
  refine Qu ?_; refine uP (Xj h9) (Qc (Je a b) rfl rfl rfl) ?_; refine Qu ?_
  refine zq ?_ ?_ <;> intro h14
  ·
   refine QF ?_; refine Qh ?_
   change (resY _ _).bind AV.fzt = some _
   refine XD rfl ?_
   rw [show Kf a b g = a from by unfold Kf; simp_all]
  refine JA ?_
  refine zq ?_ ?_ <;> intro h19
  ·
   refine QF ?_; refine Qh ?_
   change (resY _ _).bind AV.fzt = some _
   refine XD rfl ?_
   rw [show Kf a b g = b from by unfold Kf; simp_all]
  refine Q4 ?_; refine Qh ?_
  change (resY _ _).bind AV.fzt = some _
  refine XD rfl ?_
  first | (rw [show Kf a b g = .mk 2 [] [] [] from by unfold Kf; simp_all]; rfl) | (rw [show Kf a b g = .mk 0 [] [] [] from by unfold Kf; simp_all]; rfl)
 have h2 : g = true := by simpa using h3
 refine JA ?_
 refine zc 15 ?_ ?_ <;> intro h26
 ·
  refine Jv ?_; refine Qh ?_
  change (resY _ _).bind AV.fzt = some _
  refine XD rfl ?_
  rw [show Kf a b g = a from by unfold Kf; simp_all]
 refine Qu ?_; refine uP (Xj h26) (Qc (Je a b) rfl rfl rfl) ?_; refine Qu ?_
 refine zq ?_ ?_ <;> intro h31
 ·
  refine QF ?_; refine Qh ?_
  change (resY _ _).bind AV.fzt = some _
  refine XD rfl ?_
  rw [show Kf a b g = a from by unfold Kf; simp_all]
 refine JA ?_
 refine zq ?_ ?_ <;> intro h36
 ·
  refine QF ?_; refine Qh ?_
  change (resY _ _).bind AV.fzt = some _
  refine XD rfl ?_
  rw [show Kf a b g = b from by unfold Kf; simp_all]
 refine Q4 ?_; refine Qh ?_
 change (resY _ _).bind AV.fzt = some _
 refine XD rfl ?_
 first | (rw [show Kf a b g = .mk 2 [] [] [] from by unfold Kf; simp_all]; rfl) | (rw [show Kf a b g = .mk 0 [] [] [] from by unfold Kf; simp_all]; rfl)
theorem Qkm (a b : List En) (ha : JP a) (hb : JP b) (hl : a.length + b.length ≤ 1000000) : FC Tryz.prog 121 [W7 a, W7 b] (W7 (Jw a b)) := by
 refine Qg [4] Tryz.func121 rfl rfl 108 Tryz.ntmps121 (Nat.le_of_ble_eq_true rfl) ?_
 intro E hN
 refine XB ?_; refine QI (WT rfl 5 149 2 rfl) ?_; refine Qs ?_
 refine Xm hN rfl rfl rfl rfl rfl rfl (QN Qdt _) (by simp; omega) rfl rfl rfl rfl ?_
 refine zM ?_
 refine Xm hN rfl rfl rfl (by simp) rfl rfl (QN Qdt _) (by simp; omega) rfl rfl rfl rfl ?_
 refine XN ?_
 refine QI (Ju 5 0 rfl rfl (by simp) (by rw [List.all_append]; simp only [List.all_append, QN Qdt, List.all_nil, Bool.and_self]) (fun e he => by
  simp only [List.nil_append, List.mem_append] at he
  exact he.elim (Qjf _ e) (Qjf _ e)) rfl) ?_
 refine QI (WT rfl 6 149 2 rfl) ?_
 refine Ql (fun x : {k : Nat // k ≤ ((a ++ b)).length ∧ True} => ⟨[(5, W7 (a ++ b)), (6, .own 1 (Qdr (a ++ b) x.1).length), (7, i64 (x.1 : Nat))], [(1, .arr 149 2 ((Qdr (a ++ b) x.1).map Kv))], 2⟩) (fun x => ((a ++ b)).length - x.1) (⟨0, Nat.zero_le _, by simp⟩) ?_ ?_
 ·
  exact Qa rfl ⟨(cgL (by simp)), rfl, (cgO rfl), rfl, (Xv trivial)⟩ ⟨(cgA rfl), rfl, (QT (fun _ => rfl) _), trivial⟩
 rintro ⟨k, hk, hg⟩
 dsimp only
 refine XN ?_
 refine zq ?_ ?_ <;> intro h9
 ·
  refine Jj 5 rfl (fun hl8 => ?_)
  have hlt : k < (a ++ b).length := by have := of_decide_eq_true h9; rw [List.length_map] at this; omega
  obtain ⟨x, hx⟩ := Qn hlt
  have hml := QjG (a ++ b) k
  have hap : (a ++ b).length = a.length + b.length := List.length_append
  refine YR ?_
  refine Ql (fun z : {j : Nat // j ≤ (a ++ b).length} => ⟨[(5, W7 (a ++ b)), (6, .own 1 (Qdr (a ++ b) k).length), (7, i64 (k : Nat)), (8, bl (((a ++ b).zipIdx.take z.1).all (Qey (x, k)))), (9, i64 (z.1 : Nat))], [(1, .arr 149 2 ((Qdr (a ++ b) k).map Kv))], 2⟩) (fun z => (a ++ b).length - z.1) (⟨0, Nat.zero_le _⟩) ?_ ?_
  ·
   exact Qa rfl (JO ⟨(YT (by simp)), rfl, (Xv trivial)⟩) ⟨rfl, rfl, (QT (fun _ => rfl) _), trivial⟩
  rintro ⟨j, hj⟩
  dsimp only
  refine XN ?_
  refine zq ?_ ?_ <;> intro h16
  rotate_left
  ·
   have hgej : (a ++ b).length ≤ j := by have := of_decide_eq_false h16; rw [List.length_map] at this; omega
   rw [List.take_of_length_le (show (a ++ b).zipIdx.length ≤ j by rw [Qaz]; exact hgej)]
   refine QF ?_
   refine zq ?_ ?_ <;> intro h13
   ·
    have hK : Qfg (a ++ b) (x, k) = true := h13
    refine Qv ?_; refine zP (Qf rfl rfl rfl k rfl _ (Qk hx) rfl) ?_; refine zL ?_
    refine zP (QE rfl rfl rfl rfl (by exact rfl) (by decide) (by decide)) ?_
    refine Xm hN rfl rfl rfl (by simp) rfl rfl rfl (by simp [Qbj]; omega) rfl rfl rfl rfl ?_
    refine Q8 ?_; refine Qb ?_
    exact ⟨⟨k + 1, hlt, trivial⟩, Qa rfl (Xv ⟨(cgO (by first | (rw [QdR hx hK]; simp [Qbj]; done) | rw [QfK hx hK])), rfl, (Q0 (by dsimp only; omega)), rfl, trivial⟩) ⟨(cgA (by first | (rw [QdR hx hK]; simp [Qbj, Kv]; done) | rw [QfK hx hK])), rfl, (QT (fun _ => rfl) _), trivial⟩, by dsimp only; omega⟩
   have hK : Qfg (a ++ b) (x, k) = false := h13
   refine QF ?_; refine Qb ?_
   exact ⟨⟨k + 1, hlt, trivial⟩, Qa rfl (Xv ⟨(cgO (by first | (rw [QdR hx hK]; simp [Qbj]; done) | rw [QfK hx hK])), rfl, (Q0 (by dsimp only; omega)), rfl, trivial⟩) ⟨(cgA (by first | (rw [QdR hx hK]; simp [Qbj, Kv]; done) | rw [QfK hx hK])), rfl, (QT (fun _ => rfl) _), trivial⟩, by dsimp only; omega⟩
  have hjl : j < (a ++ b).length := by have := of_decide_eq_true h16; rw [List.length_map] at this; omega
  obtain ⟨y, hy⟩ := Qn hjl
  refine Qv ?_; refine Qd 10 (by kernel_rfl) (by kernel_rfl) ?_; refine Qu ?_; refine zp (Qf rfl rfl rfl k rfl _ (Qk hx) rfl) ?_
  refine Qs ?_; refine zp (Qf rfl rfl rfl j rfl _ (Qk hy) rfl) ?_; refine zl ?_; refine zp (Qc (QcH x y) rfl rfl rfl) ?_
  refine Jk ?_; change Qj _ _ _ _ _ _; refine Qs ?_; refine Qd 20 (by kernel_rfl) (by kernel_rfl) ?_; refine Qu ?_
  refine zd 41 ?_ ?_ <;> intro h22
  ·
   refine QF ?_
   refine zd 46 ?_ ?_ <;> intro h23
   ·
    refine YR ?_; change Qj _ _ _ _ _ _; refine XB ?_; refine Qb ?_
    exact ⟨⟨j + 1, hjl⟩, Qa rfl (JO ⟨(YT (by rw [QdU (XF hy)]; simp_all [Qey])), rfl, (Q0 (by dsimp only; omega)), rfl, trivial⟩) ⟨rfl, rfl, (QT (fun _ => rfl) _), trivial⟩, by dsimp only; omega⟩
   refine X6 ?_; refine vP (Xj h23) (Xw rfl rfl (m1 h22) rfl) ?_; change Qj _ _ _ _ _ _; refine XN ?_; refine Qb ?_
   exact ⟨⟨j + 1, hjl⟩, Qa rfl (JO ⟨(YT (by rw [QdU (XF hy)]; simp_all [Qey])), rfl, (Q0 (by dsimp only; omega)), rfl, trivial⟩) ⟨rfl, rfl, (QT (fun _ => rfl) _), trivial⟩, by dsimp only; omega⟩
  refine XB ?_; refine vP (XG (m0 h22)) (Qf rfl rfl rfl k rfl _ (Qk hx) rfl) ?_; refine Qs ?_
  refine vP (XG (m0 h22)) (Qf rfl rfl rfl j rfl _ (Qk hy) rfl) ?_; refine Jk ?_
  refine vP (XG (m0 h22)) (Qc (QhK x y) rfl rfl rfl) ?_; refine Jk ?_; change Qj _ _ _ _ _ _; refine Qu ?_
  refine zq ?_ ?_ <;> intro h30
  ·
   refine Q4 ?_; refine Qb ?_
   exact ⟨⟨j + 1, hjl⟩, Qa rfl (JO ⟨(YT (by rw [QdU (XF hy)]; simp_all [Qey])), rfl, (Q0 (by dsimp only; omega)), rfl, trivial⟩) ⟨rfl, rfl, (QT (fun _ => rfl) _), trivial⟩, by dsimp only; omega⟩
  refine QF ?_; refine Qb ?_
  exact ⟨⟨j + 1, hjl⟩, Qa rfl (JO ⟨(YT (by rw [QdU (XF hy)]; simp_all [Qey])), rfl, (Q0 (by dsimp only; omega)), rfl, trivial⟩) ⟨rfl, rfl, (QT (fun _ => rfl) _), trivial⟩, by dsimp only; omega⟩
 have hge : (a ++ b).length ≤ k := by have := of_decide_eq_false h9; rw [List.length_map] at this; omega
 rw [Qkp hge]
 refine Q4 ?_
 refine Ql (fun z : {q : Nat × List En // q.1 ≤ q.2.length ∧ q.2.Perm (QeC (a ++ b)) ∧ Qif q.2 q.1} => ⟨[(6, .own 1 z.1.2.length), (11, i64 (z.1.1 : Nat))], [(1, .arr 149 2 (z.1.2.map Kv))], 2⟩) (fun z => (QeC (a ++ b)).length - z.1.1) (⟨(0, QeC (a ++ b)), Nat.zero_le _, List.Perm.refl _, QnG _⟩) ?_ ?_
 ·
  exact Qa rfl (JI trivial) ⟨rfl, rfl, (QT (fun _ => rfl) _), trivial⟩
 rintro ⟨⟨k, o⟩, hk, hpm, hP⟩
 dsimp only at hk hpm hP ⊢
 have hol := hpm.length_eq
 have hml := QjG (a ++ b) (a ++ b).length
 rw [Qkp (Nat.le_refl _), List.length_append] at hml
 refine QF ?_; refine zP ((X9 rfl rfl rfl (by simp))) ?_; refine Qu ?_
 refine zq ?_ ?_ <;> intro h42
 rotate_left
 ·
  have hge : o.length ≤ k := by simpa using h42
  obtain rfl : k = o.length := by omega
  have hE := QsS ha hb hpm hP
  refine Q8 ?_; refine QI (Ju 4 1 rfl rfl (by simp) (QN Qdt _) (Qjf _) rfl) ?_; refine zR ?_
  rw [hE]
 have hlt : k < o.length := by simpa using h42
 refine XB ?_
 refine Ql (fun z : {q : Nat × List En // k + 1 ≤ q.1 ∧ q.1 ≤ q.2.length ∧ q.2.Perm (QeC (a ++ b)) ∧ Qif q.2 k ∧ Qk7 q.2 k q.1} => ⟨[(6, .own 1 z.1.2.length), (11, i64 (k : Nat)), (12, i64 (z.1.1 : Nat))], [(1, .arr 149 2 (z.1.2.map Kv))], 2⟩) (fun z => (QeC (a ++ b)).length - z.1.1) (⟨(k + 1, o), Nat.le_refl _, hlt, hpm, hP, QnF _ _⟩) ?_ ?_
 ·
  exact Qa rfl (JI ⟨(Q0 (by dsimp only; omega)), rfl, trivial⟩) ⟨rfl, rfl, (QT (fun _ => rfl) _), trivial⟩
 rintro ⟨⟨j, o2⟩, hkj, hjo, hpm2, hP2, hQ2⟩
 dsimp only at hkj hjo hpm2 hP2 hQ2 ⊢
 have hol2 := hpm2.length_eq
 refine QF ?_; refine zP ((X9 rfl rfl rfl (by simp))) ?_; refine Qu ?_
 refine zq ?_ ?_ <;> intro h48
 rotate_left
 ·
  have hgej : o2.length ≤ j := by simpa using h48
  refine QF ?_; refine Qb ?_
  exact ⟨⟨(k + 1, o2), by dsimp only; omega, hpm2, QqS hP2 (by
   have e : j = o2.length := by omega
   rw [← e]; exact hQ2)⟩, Qa rfl (Xv ⟨(Q0 (by dsimp only; omega)), rfl, trivial⟩) ⟨rfl, rfl, (QT (fun _ => rfl) _), trivial⟩, by dsimp only; omega⟩
 have hjl : j < o2.length := by simpa using h48
 obtain ⟨y, hy⟩ := Qn hjl
 obtain ⟨x, hx⟩ := Qn (show k < o2.length by omega)
 refine Qv ?_; refine Qd 9 (by kernel_rfl) (by kernel_rfl) ?_; refine Qu ?_; refine zp (Xg rfl rfl rfl rfl (by simp) j rfl (by omega)) ?_
 refine zp (Kp rfl rfl rfl (by simp) (Qhb _) j rfl (Qk hy) (QcP _) rfl) ?_; refine Qu ?_
 refine zp (Xg rfl rfl rfl rfl (by simp) k rfl (by omega)) ?_
 refine zp (Kp rfl rfl rfl (by simp) (Qhb _) k rfl (Qk hx) (QcP _) rfl) ?_; refine zp (Qc (QcH y x) rfl rfl rfl) ?_
 change Qj _ _ _ _ _ _; refine Qu ?_
 refine zq ?_ ?_ <;> intro h54
 rotate_left
 ·
  have hge2 : 0 ≤ Jb y x := by simpa using h54
  refine QF ?_; refine Qb ?_
  exact ⟨⟨(j + 1, o2), by omega, hjl, hpm2, hP2, QoE hQ2 hx hy hge2⟩, Qa rfl ⟨(cgO (by first | rfl | exact Qew.symm)), rfl, rfl, rfl, (Q0 (by dsimp only; omega)), rfl, trivial⟩ ⟨(cgA (by first | rfl | (rw [QcE, QcE]; rfl))), rfl, (QT (fun _ => rfl) _), trivial⟩, by dsimp only; omega⟩
 have hlt2 : Jb y x < 0 := by simpa using h54
 refine QjC 16 rfl (by kernel_rfl) (by kernel_rfl) (fun _ _ h => h) ?_
 refine JF 0 rfl (by kernel_rfl) (by kernel_rfl) rfl (Q9 hN rfl rfl rfl rfl rfl rfl) ?_
 refine JF 1 rfl (by kernel_rfl) (by kernel_rfl) rfl (Q9 hN rfl rfl rfl rfl rfl rfl) ?_
 refine JF 2 rfl (by kernel_rfl) (by kernel_rfl) rfl (Q9 hN rfl rfl rfl rfl rfl rfl) ?_
 refine JF 3 rfl (by kernel_rfl) (by kernel_rfl) rfl (Q9 hN rfl rfl rfl rfl rfl rfl) ?_
 refine JF 4 rfl (by kernel_rfl) (by kernel_rfl) rfl (Q9 hN rfl rfl rfl rfl rfl rfl) ?_
 refine JF 5 rfl (by kernel_rfl) (by kernel_rfl) rfl (Q9 hN rfl rfl rfl rfl rfl rfl) ?_
 refine JF 6 rfl (by kernel_rfl) (by kernel_rfl) rfl (QfD hN rfl rfl rfl rfl (by simp) j rfl (by omega) rfl rfl rfl rfl) ?_
 refine JF 8 rfl (by kernel_rfl) (by kernel_rfl) rfl (Q9 hN rfl rfl rfl rfl rfl rfl) ?_
 refine JF 9 rfl (by kernel_rfl) (by kernel_rfl) rfl (Q9 hN rfl rfl rfl rfl rfl rfl) ?_
 refine JF 10 rfl (by kernel_rfl) (by kernel_rfl) rfl (QfD hN rfl rfl rfl rfl (by simp) k rfl (by omega) rfl rfl rfl rfl) ?_
 refine Yf [7, 11] (by kernel_rfl) rfl ⟨.inl (QK rfl ?_), .inl (QK rfl ?_), trivial⟩
 ·
  refine zp (Kp rfl rfl rfl (by simp) (Qhb _) j rfl (Qk hy) (QcP _) rfl) ?_
  change AT _ _ _ _ _ _ _ _
  refine Yf [11] (by kernel_rfl) rfl ⟨.inl (QK rfl ?_), trivial⟩
  refine zp (Kp rfl rfl rfl (by simp) (Qhb _) k rfl (Qk hx) (QcP _) rfl) ?_
  change AT _ _ _ _ _ _ _ _
  refine Yf [12] (by kernel_rfl) rfl ⟨.inl (QK rfl ?_), trivial⟩
  refine zp (Xg rfl rfl rfl rfl (by simp) k rfl (by omega)) ?_
  change AT _ _ _ _ _ _ _ _
  refine Yf [13] (by kernel_rfl) rfl ⟨.inr (QV rfl rfl rfl rfl (by simp) k rfl (by simp; omega) rfl rfl rfl rfl (Qhb _) rfl rfl rfl rfl ?_), trivial⟩
  change AT _ _ _ _ _ _ _ _
  refine Yf [14] (by kernel_rfl) rfl ⟨.inl (QK rfl ?_), trivial⟩
  refine zp (Xg rfl rfl rfl rfl (by simp) j rfl (by omega)) ?_
  change AT _ _ _ _ _ _ _ _
  refine Yf [15] (by kernel_rfl) rfl ⟨.inr (QV rfl rfl rfl rfl (by simp) j rfl (by simp; omega) rfl rfl rfl rfl (by rw [QcE]; exact Qhb _) rfl rfl rfl rfl ?_), trivial⟩
  change AT _ _ _ _ _ _ _ _
  refine QfU (by kernel_rfl) ?_; change Ya _ _ _ _  _; refine Qv ?_; refine Qb ?_
  exact ⟨⟨(j + 1, swp o2 k j x y), by omega, by dsimp only; rw [Qew]; exact hjl, (Qjm hx hy).trans hpm2, (QdT (by omega) hP2 hQ2 hx hy hlt2).1, (QdT (by omega) hP2 hQ2 hx hy hlt2).2⟩, Qa rfl ⟨(cgO (by first | rfl | exact Qew.symm)), rfl, rfl, rfl, (Q0 (by dsimp only; omega)), rfl, trivial⟩ ⟨(cgA (by first | rfl | (rw [QcE, QcE]; rfl))), rfl, (QT (fun _ => rfl) _), trivial⟩, by dsimp only; omega⟩
 refine zp (Kp rfl rfl rfl (by simp) (Qhb _) k rfl (Qk hx) (QcP _) rfl) ?_
 change AT _ _ _ _ _ _ _ _
 refine Yf [7] (by kernel_rfl) rfl ⟨.inl (QK rfl ?_), trivial⟩
 refine zp (Kp rfl rfl rfl (by simp) (Qhb _) j rfl (Qk hy) (QcP _) rfl) ?_
 change AT _ _ _ _ _ _ _ _
 refine Yf [12] (by kernel_rfl) rfl ⟨.inl (QK rfl ?_), trivial⟩
 refine zp (Xg rfl rfl rfl rfl (by simp) k rfl (by omega)) ?_
 change AT _ _ _ _ _ _ _ _
 refine Yf [13] (by kernel_rfl) rfl ⟨.inr (QV rfl rfl rfl rfl (by simp) k rfl (by simp; omega) rfl rfl rfl rfl (Qhb _) rfl rfl rfl rfl ?_), trivial⟩
 change AT _ _ _ _ _ _ _ _
 refine Yf [14] (by kernel_rfl) rfl ⟨.inl (QK rfl ?_), trivial⟩
 refine zp (Xg rfl rfl rfl rfl (by simp) j rfl (by omega)) ?_
 change AT _ _ _ _ _ _ _ _
 refine Yf [15] (by kernel_rfl) rfl ⟨.inr (QV rfl rfl rfl rfl (by simp) j rfl (by simp; omega) rfl rfl rfl rfl (by rw [QcE]; exact Qhb _) rfl rfl rfl rfl ?_), trivial⟩
 change AT _ _ _ _ _ _ _ _
 refine QfU (by kernel_rfl) ?_; change Ya _ _ _ _  _; refine Qv ?_; refine Qb ?_
 exact ⟨⟨(j + 1, swp o2 k j x y), by omega, by dsimp only; rw [Qew]; exact hjl, (Qjm hx hy).trans hpm2, (QdT (by omega) hP2 hQ2 hx hy hlt2).1, (QdT (by omega) hP2 hQ2 hx hy hlt2).2⟩, Qa rfl ⟨(cgO (by first | rfl | exact Qew.symm)), rfl, rfl, rfl, (Q0 (by dsimp only; omega)), rfl, trivial⟩ ⟨(cgA (by first | rfl | (rw [QcE, QcE]; rfl))), rfl, (QT (fun _ => rfl) _), trivial⟩, by dsimp only; omega⟩
end Go.Proofs.YtnkkokmmeplbgaaGreat
