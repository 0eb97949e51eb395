/-
  Contracts: closing names under rules: the system, its chain,
-/
import Derived.Test.YtaecccdkjmipeaaGreatB19
import Derived.Test.YtaecccdkjmipeaaGreatA4
namespace Go.Proofs.YtaecccdkjmipeaaGreat
set_option maxRecDepth 100000
set_option maxHeartbeats 1000000
open Go.RowKit
structure Qd2 (u : List Nm) (rs : List Ru) : Prop where
 s : Qo u = true
 v : ∀ x ∈ u, XV x = true
 n : u.length ≤ 1000
 m : rs.length ≤ 1000
 r : ∀ r ∈ rs, Qo r.i = true ∧ (∀ x ∈ r.i, x ∈ u) ∧ r.t ∈ u
theorem Qfz : ∀ (u l : List Nm), l.Nodup → (∀ x ∈ l, x ∈ u) → l.length ≤ u.length
 | [], l, _, h => by
  cases l with
  | nil => simp
  | cons x l => exact absurd (h x (List.mem_cons_self ..)) (by simp)
 | y :: u, l, hn, h => by
  by_cases hy : y ∈ l
  ·have h1 := Qfz u (l.erase y) (hn.erase y) (fun x hx => by
    have h2 := (List.Nodup.mem_erase_iff hn).1 hx
    rcases List.mem_cons.1 (h x h2.2) with e | e
    ·exact absurd e h2.1
    exact e)
   rw [List.length_erase_of_mem hy] at h1
   simp only [List.length_cons]; omega
  have h1 := Qfz u l hn (fun x hx => by
   rcases List.mem_cons.1 (h x hx) with e | e
   ·subst e; exact absurd hx hy
   exact e)
  simp only [List.length_cons]; omega
section
variable {u : List Nm} {rs : List Ru} {r : Ru}
theorem Qd2.w (h : Qd2 u rs) : pw u := Jm h.s
theorem Qd2.len (h : Qd2 u rs) (hr : r ∈ rs) : r.i.length ≤ 1000 := by
 obtain ⟨h1, h2, -⟩ := h.r r hr
 have := Qfz u r.i ((Jm h1).imp (fun h => Qda h)) h2
 have := h.n
 omega
end
theorem Qia (l : List Bool) : ∀ e ∈ l.map bv1, fzs e = some e := fun e he => by
 obtain ⟨x, -, rfl⟩ := List.mem_map.1 he
 rfl
theorem QjM (b : Bool) : okE 1 (bv1 b) = true := rfl
theorem QvE (n : Nat) : okE 1 (nv1 n) = true := rfl
theorem Qvc (h : List Nat × Nat) : okE 2 (hrC h) = true := rfl
theorem Qlz (x : AV) : Qg 1 1 [x] = [[x]] := rfl
theorem QcP (x y : AV) : Qg 2 1 [x, y] = [[x, y]] := rfl
theorem Qre (u : List Nm) : List.replicate u.length false = Y8 u [] := by
 apply List.ext_getElem (by simp [Y8])
 intro i h1 h2
 simp [Y8, Jn]
theorem QqV {u s : List Nm} {k : Nat} {x : Nm} (hs : pw u) (hx : s[k]? = some x) (hu : x ∈ u) : (Y8 u (s.take k)).set (Qbu u x) true = Y8 u (s.take (k + 1)) := by
 rw [Qk2 hs hu, List.take_add_one, hx]; rfl
theorem cgS {tt : TypeId} {a : AV} {es es' : List (List AV)} {tk : Option Nat} (h : es = es') : some (QH.var tt [a, .sl es tk]) = some (QH.var tt [a, .sl es' tk]) := by rw [h]
theorem cgF {tt : TypeId} {b : AV} {es es' : List (List AV)} {tk : Option Nat} (h : es = es') : some (QH.var tt [.sl es tk, b]) = some (QH.var tt [.sl es' tk, b]) := by rw [h]
theorem cgP {tt : TypeId} {a b : Int} {p : Int × Int} (h : (a, b) = p) : some (QH.var tt [i64 a, i64 b]) = some (QH.var tt [i64 p.1, i64 p.2]) := by rw [← h]
theorem Qna {α β : Type} (f : α → β) {l : List α} {k : Nat} {x : α} (hx : l[k]? = some x) : (l.map f)[k]? = some (f x) := by rw [List.getElem?_map, hx]; rfl
theorem Qlu {α β : Type} (f : α → β) {l : List α} {k : Nat} {x : α} (hx : l[k]? = some x) : (l.take k).map f ++ [f x] = (l.take (k + 1)).map f := by rw [List.take_add_one, hx]; simp
theorem QvD {u : List Nm} {o : Option (Nat × Ru)} (h : ((QlD u o).1 == -1 && (QlD u o).2 == 0) = true) : o = none := by
 cases o with
 | none => rfl
 | some q =>
  obtain ⟨k, r⟩ := q
  simp only [QlD, Bool.and_eq_true, beq_iff_eq] at h
  omega
theorem Quw {u : List Nm} {o : Option (Nat × Ru)} (h : ((QlD u o).1 == -1 && (QlD u o).2 == 0) = false) : ∃ k r, o = some (k, r) := by
 cases o with
 | none => cases h
 | some q => exact ⟨q.1, q.2, rfl⟩
theorem Qwb {q : Ru → Bool} {l : List Ru} {k : Nat} {x : Ru} {v : Option (Nat × Ru)} (hg : Wu q (l.drop k) k = v) (hx : l[k]? = some x) (h : q x = false) : Wu q (l.drop (k + 1)) (k + 1) = v := by
 rw [← hg, XL hx]
 conv => rhs; unfold Wu
 rw [h]; rfl
theorem Qog {q : Ru → Bool} {l : List Ru} {k : Nat} {x : Ru} {v : Option (Nat × Ru)} (hg : Wu q (l.drop k) k = v) (hx : l[k]? = some x) (h : q x = true) : v = some (k, x) := by
 rw [← hg, XL hx]
 unfold Wu
 rw [h]; rfl
theorem Qow {q : Ru → Bool} {l : List Ru} {k : Nat} {v : Option (Nat × Ru)} (hg : Wu q (l.drop k) k = v) (hge : l.length ≤ k) : v = none := by
 rw [← hg, List.drop_of_length_le hge]; rfl
instance : QqO Tryz.prog 216 := ⟨by kernel_rfl, by kernel_rfl, by kernel_rfl, by kernel_rfl⟩
theorem Qvd (u : List Nm) (hu : u.length ≤ 1000) (hs : pw u) (R : AV) (s : List Nm) (h1 : Qo s = true) (h2 : ∀ x ∈ s, x ∈ u) : FC Tryz.prog 181 [.el [XU u, R], XU s] (.tup [.sl ((Y8 u s).map bv1) none, i64 0]) := by
 refine Qd [4, 5] Tryz.func181 rfl rfl 35 Tryz.ntmps181 (Nat.le_of_ble_eq_true rfl) ?_
 intro E hN
 refine JK 1 rfl (fun hl1 => ?_)
 refine JU ?_; refine zP (Qc (QaC s) rfl rfl rfl) ?_; refine QO ?_
 refine zq ?_ ?_ <;> intro h3
 ·
  have e := n1 h3
  rw [h1] at e; cases e
 refine QJ ?_; refine zP (Qeu rfl rfl rfl) ?_; refine QC ?_
 refine Qo5 hN rfl rfl rfl rfl rfl (by simp; omega) rfl rfl rfl rfl ?_
 rw [List.length_map, Qre]
 refine XN ?_
 refine Qi (fun x : {k : Nat // k ≤ (s).length ∧ True} => ⟨[(0, .el [XU u, R]), (6, .own 0 u.length), (19, XU s), (20, i64 s.length), (21, i64 (x.1 : Nat))], [(0, .arr 4 1 ((Y8 u (s.take x.1)).map bv1))], 1⟩) (fun x => (s).length - x.1) (⟨0, Nat.zero_le _, by simp⟩) ?_ ?_
 ·
  exact Qa rfl (Xl ⟨(QE (by simp)), rfl, (Xu trivial)⟩) ⟨rfl, rfl, (QN (fun _ => rfl) _), trivial⟩
 rintro ⟨k, hk, hg⟩
 dsimp only
 refine QA ?_
 refine zq ?_ ?_ <;> intro h14
 rotate_left
 ·
  have hge : s.length ≤ k := by simpa using h14
  rw [List.take_of_length_le hge]
  refine Xz ?_; refine Qu (QB 4 0 rfl rfl (by simp [Y8]) (Xa QjM _) (Qia _) rfl) ?_; refine zR ?_
  rfl
 have hlt : k < (s).length := by simpa using h14
 obtain ⟨x, hx⟩ := Qk hlt
 refine QA ?_; refine zP (Qh rfl rfl rfl k rfl _ (Qq hx) rfl) ?_; refine Xz ?_
 refine zP (Qc (QrT u (by omega) hs R x (h2 x (List.mem_of_getElem? hx))) rfl rfl rfl) ?_; refine XJ ?_
 refine zq ?_ ?_ <;> intro h18
 ·
  have e := of_decide_eq_true h18
  omega
 refine QJ ?_; refine zP (JL rfl rfl rfl rfl (by simp [Y8]) (Qbu u x) rfl (Qcl (h2 x (List.mem_of_getElem? hx)))) ?_
 refine Qmf hN rfl rfl (Y8 u (s.take k)) rfl (by simp [Y8]) (Qbu u x) rfl (by rw [Qc7]; exact Qcl (h2 x (List.mem_of_getElem? hx))) rfl rfl rfl rfl ?_
 refine QJ ?_; refine Qb ?_
 exact ⟨⟨k + 1, hlt, trivial⟩, Qa rfl (QR ⟨(QE (by dsimp only; omega)), rfl, trivial⟩) ⟨(Yl (by rw [QqV hs hx (h2 x (List.mem_of_getElem? hx))])), rfl, (QN (fun _ => rfl) _), trivial⟩, by dsimp only; omega⟩
theorem Qt5 (u : List Nm) (hu : u.length ≤ 1000) (R : AV) (bits : List Bool) (hb : bits.length = u.length) : FC Tryz.prog 182 [.el [XU u, R], .sl (bits.map bv1) none] (XU (Qcw u bits)) := by
 refine Qd [4] Tryz.func182 rfl rfl 29 Tryz.ntmps182 (Nat.le_of_ble_eq_true rfl) ?_
 intro E hN
 refine Je ?_; refine Wm hN rfl rfl rfl rfl rfl rfl ?_; refine XN ?_
 refine Qi (fun x : {k : Nat // k ≤ (bits).length ∧ True} => ⟨[(0, .el [XU u, R]), (5, .own 0 (Qcw (u.take x.1) (bits.take x.1)).length), (9, .sl (bits.map bv1) none), (10, i64 bits.length), (11, i64 (x.1 : Nat))], [(0, .arr 9 1 ((Qcw (u.take x.1) (bits.take x.1)).map WS))], 1⟩) (fun x => (bits).length - x.1) (⟨0, Nat.zero_le _, by simp⟩) ?_ ?_
 ·
  exact Qa rfl (Xl ⟨(QE (by simp)), rfl, (Xu trivial)⟩) ⟨rfl, rfl, (QN (fun _ => rfl) _), trivial⟩
 rintro ⟨k, hk, hg⟩
 dsimp only
 refine QA ?_
 refine zq ?_ ?_ <;> intro h10
 rotate_left
 ·
  have hge : bits.length ≤ k := by simpa using h10
  rw [QsR (by omega) hb]
  refine Je ?_; refine Qu (QB 4 0 rfl rfl (by simp) (Xa Yv _) (Qay _) rfl) ?_; refine zR ?_
  rfl
 have hlt : k < (bits).length := by simpa using h10
 obtain ⟨x, hx⟩ := Qk hlt
 obtain ⟨z, hz⟩ := Qk (show k < u.length by omega)
 refine Je ?_; refine zP (Qh rfl rfl rfl k rfl _ (Qq hx) rfl) ?_; refine XJ ?_
 refine zq ?_ ?_ <;> intro h12
 rotate_left
 ·
  have hbz : x = false := h12
  subst hbz
  have hst := Qhv hz hx
  refine QJ ?_; refine Qb ?_
  exact ⟨⟨k + 1, hlt, trivial⟩, Qa rfl (Xu ⟨(Kq (by rw [hst]; first | (simp; done) | (simp [Xs]; done))), rfl, (Jg ⟨(QE (by dsimp only; omega)), rfl, trivial⟩)⟩) ⟨(Yl (by rw [hst]; first | (simp; done) | (simp [Xs, WS]; done))), rfl, (QN (fun _ => rfl) _), trivial⟩, by dsimp only; omega⟩
 have hbz : x = true := h12
 subst hbz
 have hst := Qhv hz hx
 refine QC ?_; refine zP (Qeu rfl rfl rfl) ?_; refine QC ?_; refine zP (Qh rfl rfl rfl k rfl _ (Qq hz) rfl) ?_; refine zL ?_
 refine zP (Qj rfl rfl rfl rfl (by exact rfl) (by decide) (by decide)) ?_
 refine Xb hN rfl rfl rfl (by simp) rfl rfl rfl (by have := Qn4 (u.take k) (bits.take k); simp [Xs] at this ⊢; omega) rfl rfl rfl rfl ?_
 refine QA ?_; refine Qb ?_
 exact ⟨⟨k + 1, hlt, trivial⟩, Qa rfl (Xu ⟨(Kq (by rw [hst]; first | (simp; done) | (simp [Xs]; done))), rfl, (Jg ⟨(QE (by dsimp only; omega)), rfl, trivial⟩)⟩) ⟨(Yl (by rw [hst]; first | (simp; done) | (simp [Xs, WS]; done))), rfl, (QN (fun _ => rfl) _), trivial⟩, by dsimp only; omega⟩
theorem Qv1 (u : List Nm) (rs : List Ru) (h : Qd2 u rs) : GC Tryz.prog 193 [.ptr Ju 0, rus rs] [(Ju, .var 200 [XU u, .p (.slice none 0 0)])] (i64 0) [(Ju, .var 200 [XU u, hrs (rs.map (WZ u))])] := by
 refine Qfo [4] Tryz.func193 rfl rfl 59 Tryz.ntmps193 (Nat.le_of_ble_eq_true rfl) ?_
 intro E hN
 refine JK 1 rfl (fun hl1 => ?_)
 refine JA ?_; refine Qu (Wn rfl Ju 1 213 2 rfl rfl rfl) ?_
 refine Qi (fun x : {k : Nat // k ≤ (rs).length ∧ True} => ⟨[(0, .ptr Ju 0), (11, rus rs), (12, i64 rs.length), (13, i64 (x.1 : Nat))], [(Ju, .var 200 [XU u, .sl (((rs.map (WZ u)).take x.1).map hrC) (some 0)]), (0, .tok 213 2 ((rs.map (WZ u)).take x.1).length)], 1⟩) (fun x => (rs).length - x.1) (⟨0, Nat.zero_le _, by simp⟩) ?_ ?_
 ·
  exact Qa rfl (Jg ⟨(QE (by simp)), rfl, (Xu trivial)⟩) ⟨rfl, rfl, rfl, rfl, rfl, rfl, trivial⟩
 rintro ⟨k, hk, hg⟩
 dsimp only
 refine QA ?_
 refine zq ?_ ?_ <;> intro h8
 rotate_left
 ·
  have hge : rs.length ≤ k := by simpa using h8
  rw [List.take_of_length_le (show (rs.map (WZ u)).length ≤ k by simpa using hge)]
  refine QO ?_; refine Qu (QkV Ju 1 rfl rfl) ?_; refine QC ?_; refine QG ?_
  change (YK _ _).fzt = some _ ∧ _
  refine Qd6 rfl ?_ rfl ?_ rfl
  all_goals rfl
 have hlt : k < (rs).length := by simpa using h8
 obtain ⟨x, hx⟩ := Qk hlt
 have hr := h.r x (List.mem_of_getElem? hx)
 have hxx := Qna (WZ u) hx
 refine QA ?_; refine zP (Qh rfl rfl rfl k rfl _ (Qq hx) rfl) ?_; refine JU ?_; refine zP (Qc (QaC x.i) rfl rfl rfl) ?_
 refine QO ?_
 refine zq ?_ ?_ <;> intro h15
 ·
  have e := n1 h15
  rw [hr.1] at e; cases e
 refine Je ?_
 refine zP (Qg9 (QrT u (by have := h.n; omega) h.w _ x.t hr.2.2) rfl rfl rfl (.cons (.ptr rfl rfl rfl) (.cons (.fz rfl) .nil))) ?_
 refine Wi ?_; refine Qu (Wn rfl 2 0 3 1 rfl rfl rfl) ?_
 refine Qi (fun z : {k : Nat // k ≤ (x.i).length ∧ True} => ⟨[(0, .ptr Ju 0), (6, .ptr 1 0), (7, .ptr 2 0), (27, XU x.i), (28, i64 x.i.length), (29, i64 (z.1 : Nat)), (11, rus rs), (12, i64 rs.length), (13, i64 (k : Nat))], [(Ju, .var 200 [XU u, .sl (((rs.map (WZ u)).take k).map hrC) (some 0)]), (0, .tok 213 2 ((rs.map (WZ u)).take k).length), (1, .var 133 (ruC x)), (2, .var 213 [.sl (((x.i.map (Qbu u)).take z.1).map nv1) (some 3), i64 (Qbu u x.t : Nat)]), (3, .tok 3 1 ((x.i.map (Qbu u)).take z.1).length)], 4⟩) (fun z => x.i.length - z.1) (⟨0, Nat.zero_le _, by simp⟩) ?_ ?_
 ·
  exact Qa rfl (QR ⟨(QE (by simp)), rfl, (QR trivial)⟩) ⟨rfl, rfl, rfl, rfl, rfl, rfl, rfl, rfl, rfl, rfl, rfl, rfl, rfl, rfl, rfl, trivial⟩
 rintro ⟨j, hj, -⟩
 dsimp only
 refine QA ?_
 refine zq ?_ ?_ <;> intro h34
 ·
  have hjl : j < x.i.length := by simpa using h34
  obtain ⟨y, hy⟩ := Qk hjl
  have hxl := h.len (List.mem_of_getElem? hx)
  have hyu := hr.2.1 y (List.mem_of_getElem? hy)
  have hyy := Qna (Qbu u) hy
  refine QA ?_; refine zP (Qh rfl rfl rfl j rfl _ (Qq hy) rfl) ?_; refine Xz ?_
  refine zP (Qg9 (QrT u (by have := h.n; omega) h.w _ y hyu) rfl rfl rfl (.cons (.ptr rfl rfl rfl) (.cons (.fz rfl) .nil))) ?_
  refine XJ ?_
  refine zq ?_ ?_ <;> intro h38
  ·
   have e := of_decide_eq_true h38
   omega
  refine QA ?_; refine zP (Qj rfl rfl rfl rfl (by exact rfl) (by decide) (by decide)) ?_
  refine Xh hN rfl rfl rfl (by simp) rfl rfl (Xa QvE _) rfl (by have := h.len (List.mem_of_getElem? hx); simp [Qlz]; omega) rfl rfl rfl rfl ?_
  refine Je ?_; refine Qb ?_
  exact ⟨⟨j + 1, hjl, trivial⟩, Qa rfl (QR (Xu ⟨(QE (by dsimp only; omega)), rfl, (Xl trivial)⟩)) ⟨rfl, rfl, rfl, rfl, rfl, rfl, rfl, rfl, rfl, (cgF (by rw [← Qlu nv1 hyy]; exact congrArg (· ++ [_]) rfl)), rfl, rfl, (cgT (by rw [List.take_add_one, hyy]; simp [Qlz])), rfl, rfl, trivial⟩, by dsimp only; omega⟩
 have hje : x.i.length ≤ j := by simpa using h34
 rw [List.take_of_length_le (show (x.i.map (Qbu u)).length ≤ j by simpa using hje)]
 refine XJ ?_
 refine zq ?_ ?_ <;> intro h48
 ·
  have e := of_decide_eq_true h48
  omega
 refine zW ?_; refine QiI [0, 1, 2, 3, 4, 5, 6] 7 [8, 9, 10] rfl (by kernel_rfl) (by kernel_rfl) ?_; refine QO ?_
 refine zp (Qeu rfl rfl rfl) ?_; refine QC ?_; refine zp (Qj rfl rfl rfl rfl (by exact rfl) (by decide) (by decide)) ?_
 change FK _ _ _ _ _ _
 refine Qkl hN rfl rfl rfl (by simp) rfl rfl (Xa Qvc _) rfl (by have := h.m; simp [QcP]; omega) rfl rfl rfl rfl ?_
 change Qz _ _ _ _ _ _; refine zP (Qeu rfl rfl rfl) ?_; refine Je ?_; refine Qb ?_
 exact ⟨⟨k + 1, hlt, trivial⟩, Qa rfl (Xl ⟨(QE (by dsimp only; omega)), rfl, trivial⟩) ⟨(cgS (by rw [← Qlu hrC hxx]; exact congrArg (· ++ [_]) rfl)), rfl, rfl, (cgT (by rw [List.take_add_one, hxx]; simp [QcP])), rfl, rfl, trivial⟩, by dsimp only; omega⟩
theorem Qsc (u : List Nm) (rs : List Ru) (h : Qd2 u rs) : FC Tryz.prog 180 [XU u, rus rs] (.tup [.el [XU u, hrs (rs.map (WZ u))], i64 0]) := by
 refine Qd [4, 5] Tryz.func180 rfl rfl 33 Tryz.ntmps180 (Nat.le_of_ble_eq_true rfl) ?_
 intro E hN
 refine JK 0 rfl (fun hl0 => ?_)
 refine Wi ?_
 refine Qi (fun x : {k : Nat // k ≤ (u).length ∧ True} => ⟨[(0, XU u), (1, rus rs), (10, XU u), (11, i64 u.length), (12, i64 (x.1 : Nat))], [], 0⟩) (fun x => (u).length - x.1) (⟨0, Nat.zero_le _, by simp⟩) ?_ ?_
 ·
  exact Qa rfl (Xl ⟨(QE (by simp)), rfl, (Xu trivial)⟩) trivial
 rintro ⟨k, hk, hg⟩
 dsimp only
 refine QA ?_
 refine zq ?_ ?_ <;> intro h9
 ·
  have hlt : k < (u).length := by simpa using h9
  obtain ⟨x, hx⟩ := Qk hlt
  refine QA ?_; refine zP (Qh rfl rfl rfl k rfl _ (Qq hx) rfl) ?_; refine Je ?_; refine zP (Qc (QeI x) rfl rfl rfl) ?_
  refine QO ?_
  refine zq ?_ ?_ <;> intro h12
  ·
   have e := n1 h12
   rw [h.v x (List.mem_of_getElem? hx)] at e; cases e
  refine QJ ?_; refine Qb ?_
  exact ⟨⟨k + 1, hlt, trivial⟩, Qa rfl (QR ⟨(QE (by dsimp only; omega)), rfl, trivial⟩) trivial, by dsimp only; omega⟩
 refine QA ?_; refine zP (Qc (QaC u) rfl rfl rfl) ?_; refine QO ?_
 refine zq ?_ ?_ <;> intro h14
 ·
  have e := n1 h14
  rw [h.s] at e; cases e
 refine Wi ?_; refine QhB hN 0 (Qv1 u rs h) (.fn _ _ _ _ rfl rfl) rfl rfl rfl rfl rfl rfl rfl rfl rfl rfl rfl ?_; refine Xz ?_
 refine zq ?_ ?_ <;> intro h18
 ·
  cases h18
 refine QO ?_; refine Qu (J2 8 0 rfl rfl rfl rfl) ?_; refine QJ ?_; refine zQ ?_
 rfl
theorem Qqb (u : List Nm) (rs : List Ru) (h : Qd2 u rs) (s : List Nm) : FC Tryz.prog 195 [.el [XU u, hrs (rs.map (WZ u))], .sl ((Y8 u s).map bv1) none, .fn 196 []] (.tup [.sl ((Y8 u (Yt rs rs.length s)).map bv1) none, .bot]) := by
 refine Qd [6, 7] Tryz.func195 rfl rfl 56 Tryz.ntmps195 (Nat.le_of_ble_eq_true rfl) ?_
 intro E hN
 have hn := h.n
 have hm := h.m
 refine JU ?_
 refine Qo5 hN rfl rfl rfl rfl rfl (by simp [Y8]; omega) rfl rfl rfl rfl ?_
 refine Je ?_; refine QtE hN rfl rfl _ rfl (by simp) _ rfl (by simp) rfl rfl rfl rfl ?_; refine Je ?_
 refine Qu (Yu rfl 9 216 2 rfl) ?_
 refine Qi (fun z : {q : List Nm × List Tk // Yt rs rs.length q.1 = Yt rs rs.length s ∧ q.2.length + Qb7 rs q.1 ≤ rs.length} => ⟨[(0, .el [XU u, hrs (rs.map (WZ u))]), (2, .fn 196 []), (8, .own 0 u.length), (9, .own 1 z.1.2.length)], [(0, .arr 4 1 ((Y8 u z.1.1).map bv1)), (1, .arr 216 2 (z.1.2.map tkC))], 2⟩) (fun z => Qb7 rs z.1.1) (⟨(s, []), rfl, by simpa using QgI⟩) ?_ ?_
 ·
  exact Qa rfl (Jg ⟨(Kq (by simp [Y8])), rfl, (Xu trivial)⟩) ⟨rfl, rfl, (QN (fun _ => rfl) _), rfl, rfl, (QN (fun _ => rfl) _), trivial⟩
 rintro ⟨⟨t, sts⟩, hg, hlen⟩
 dsimp only at hg hlen ⊢
 refine Xz ?_
 refine QaL (⟨[(0, .el [XU u, hrs (rs.map (WZ u))]), (2, .fn 196 []), (8, .own 0 u.length), (9, .own 1 sts.length), (10, .ptr 2 0)], [(0, .arr 4 1 ((Y8 u t).map bv1)), (1, .arr 216 2 (sts.map tkC)), (2, .var 216 [i64 (QlD u (Wu (Ya t) rs 0)).1, i64 (QlD u (Wu (Ya t) rs 0)).2])], 3⟩) ?_ ?_
 ·
  refine QC ?_; refine zP (Qeu rfl rfl rfl) ?_; refine Je ?_
  refine Qi (fun x : {k : Nat // k ≤ (rs).length ∧ Wu (Ya t) (rs.drop k) k = Wu (Ya t) rs 0} => ⟨[(0, .el [XU u, hrs (rs.map (WZ u))]), (2, .fn 196 []), (8, .own 0 u.length), (9, .own 1 sts.length), (10, .ptr 2 0), (23, hrs (rs.map (WZ u))), (24, i64 rs.length), (25, i64 (x.1 : Nat))], [(0, .arr 4 1 ((Y8 u t).map bv1)), (1, .arr 216 2 (sts.map tkC)), (2, .var 216 [i64 (-1), i64 0])], 3⟩) (fun x => (rs).length - x.1) (⟨0, Nat.zero_le _, by simp⟩) ?_ ?_
  ·
   exact Qa rfl (QR (Jg ⟨(QE (by simp)), rfl, (Xu trivial)⟩)) ⟨rfl, rfl, (QN (fun _ => rfl) _), rfl, rfl, (QN (fun _ => rfl) _), rfl, rfl, rfl, trivial⟩
  rintro ⟨k, hk, hg2⟩
  dsimp only
  refine QA ?_
  refine zq ?_ ?_ <;> intro h25
  rotate_left
  ·
   have hge : (rs).length ≤ k := by simpa using h25
   refine Qc6 ?_
   exact Qa rfl (QR (Xu trivial)) ⟨rfl, rfl, (QN (fun _ => rfl) _), rfl, rfl, (QN (fun _ => rfl) _), (by first | exact cgP (by rw [Qow hg2 hge]; rfl) | exact cgP (by rw [Qog hg2 hx hf]; rfl)), rfl, rfl, trivial⟩
  have hlt : k < (rs).length := by simpa using h25
  obtain ⟨x, hx⟩ := Qk hlt
  have hxr := h.r x (List.mem_of_getElem? hx)
  have hfe := Qr3 (t := t) hxr.2.1 hxr.2.2
  refine Je ?_; refine zP (Qh rfl rfl rfl k rfl _ (Qq (Qna (WZ u) hx)) rfl) ?_; refine JU ?_
  refine zP (YG (QrF _) rfl rfl rfl rfl) ?_; refine QC ?_
  refine zP (Qg9 (QqG (WZ u x) (Y8 u t) (by rw [Qc7]; exact Qcl hxr.2.2) (fun i hi => by obtain ⟨y, hy, rfl⟩ := List.mem_map.1 hi; rw [Qc7]; exact Qcl (hxr.2.1 y hy))) rfl rfl rfl (.cons (.fz rfl) (.cons (.own rfl (by simp [Y8]) (Xa QjM _) (Qia _)) .nil))) ?_
  refine QO ?_
  refine zq ?_ ?_ <;> intro h31
  ·
   have hf : Ya t x = true := by rw [← hfe]; exact h31
   refine XJ ?_; refine Qc6 ?_
   exact Qa rfl (QR (Xu trivial)) ⟨rfl, rfl, (QN (fun _ => rfl) _), rfl, rfl, (QN (fun _ => rfl) _), (by first | exact cgP (by rw [Qow hg2 hge]; rfl) | exact cgP (by rw [Qog hg2 hx hf]; rfl)), rfl, rfl, trivial⟩
  have hf : Ya t x = false := by rw [← hfe]; exact h31
  refine QJ ?_; refine Qb ?_
  exact ⟨⟨k + 1, hlt, Qwb hg2 hx hf⟩, Qa rfl (QR (Xl ⟨(QE (by dsimp only; omega)), rfl, trivial⟩)) ⟨rfl, rfl, (QN (fun _ => rfl) _), rfl, rfl, (QN (fun _ => rfl) _), rfl, rfl, rfl, trivial⟩, by dsimp only; omega⟩
 refine QA ?_; refine zP (QwR rfl rfl rfl rfl) ?_; refine zN ?_
 refine zq ?_ ?_ <;> intro h44
 ·
  have hno := QvD h44
  refine Xz ?_; refine Qu (QB 6 0 rfl rfl (by simp [Y8]) (Xa QjM _) (Qia _) rfl) ?_
  refine Qu (st' := ⟨[(6, .sl ((Y8 u t).map bv1) none)], [], 2⟩) (Qa rfl (Xu trivial) trivial) ?_; refine zR ?_
  rw [← hg, W4 (QbF hno)]
 obtain ⟨kk, r, hr⟩ := Quw h44
 obtain ⟨hrf, hrm⟩ := Qa3 _ rs 0 hr
 have hrt := (h.r r hrm).2.2
 rw [hr]
 refine Je ?_; refine zP (JL rfl rfl rfl rfl (by simp [Y8]) (Qbu u r.t) rfl (Qcl hrt)) ?_
 refine Qmf hN rfl rfl (Y8 u t) rfl (by simp [Y8]) (Qbu u r.t) rfl (by rw [Qc7]; exact Qcl hrt) rfl rfl rfl rfl ?_
 refine QJ ?_; refine zP (Qj rfl rfl rfl rfl (by exact rfl) (by decide) (by decide)) ?_
 refine Xb hN rfl rfl rfl (by simp) rfl rfl rfl (by simp [QcP]; omega) rfl rfl rfl rfl ?_
 refine zS ?_; refine Qb ?_
 exact ⟨⟨(t ++ [r.t], sts ++ [QlD u (some (kk, r))]), (Quy hr).trans hg, by have := Qbh hrm hrf; simp; omega⟩, Qa rfl (Xl ⟨(Kq (by simp [QcP])), rfl, trivial⟩) ⟨(Yl (by rw [Qk2 h.w hrt])), rfl, (QN (fun _ => rfl) _), (Yl (by simp [QcP, tkC])), rfl, (QN (fun _ => rfl) _), trivial⟩, by exact Qbh hrm hrf⟩
theorem Qq7 (u : List Nm) (rs : List Ru) (h : Qd2 u rs) (s : List Nm) : FC Tryz.prog 183 [.el [XU u, hrs (rs.map (WZ u))], .sl ((Y8 u s).map bv1) none] (.sl ((Y8 u (Yt rs rs.length s)).map bv1) none) := by
 refine Qd [4] Tryz.func183 rfl rfl 14 Tryz.ntmps183 (Nat.le_of_ble_eq_true rfl) ?_
 intro E hN
 refine XJ ?_; refine zP (Qc (Qqb u rs h s) rfl rfl rfl) ?_; refine XN ?_; refine zQ ?_
 rfl
theorem QkK (u : List Nm) (rs : List Ru) (h : Qd2 u rs) (s : List Nm) (h1 : Qo s = true) (h2 : ∀ x ∈ s, x ∈ u) : FC Tryz.prog 168 [XU u, rus rs, XU s] (.tup [XU (WR u rs s), i64 0]) := by
 refine Qd [6, 7] Tryz.func168 rfl rfl 34 Tryz.ntmps168 (Nat.le_of_ble_eq_true rfl) ?_
 intro E hN
 refine JU ?_; refine zP (Qc (Qsc u rs h) rfl rfl rfl) ?_; refine JA ?_
 refine zq ?_ ?_ <;> intro h7
 ·
  cases h7
 refine QA ?_; refine zP (Qc (Qvd u h.n h.w _ s h1 h2) rfl rfl rfl) ?_; refine JA ?_
 refine zq ?_ ?_ <;> intro h11
 ·
  cases h11
 refine Je ?_; refine zP (Qc (Qq7 u rs h s) rfl rfl rfl) ?_
 refine zP (Qc (Qt5 u h.n _ (Y8 u (Yt rs rs.length s)) Qc7) rfl rfl rfl) ?_; refine QO ?_; refine zQ ?_
 rw [QqE]; rfl
end Go.Proofs.YtaecccdkjmipeaaGreat
