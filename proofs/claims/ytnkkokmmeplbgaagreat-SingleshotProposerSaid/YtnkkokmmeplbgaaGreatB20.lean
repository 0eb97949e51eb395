/-
  Contracts: closing names under rules: the system, its chain,
-/
import Derived.Test.YtnkkokmmeplbgaaGreatB19
import Derived.Test.YtnkkokmmeplbgaaGreatA4
namespace Go.Proofs.YtnkkokmmeplbgaaGreat
set_option maxRecDepth 100000
set_option maxHeartbeats 1000000
open Go.RowKit
structure Qdj (u : List Nm) (rs : List Ru) : Prop where
 s : Qq u = true
 v : ∀ x ∈ u, XM x = true
 n : u.length ≤ 1000
 m : rs.length ≤ 1000
 r : ∀ r ∈ rs, Qq r.i = true ∧ (∀ x ∈ r.i, x ∈ u) ∧ r.t ∈ u
theorem Qe5 : ∀ (u l : List Nm), l.Nodup → (∀ x ∈ l, x ∈ u) → l.length ≤ u.length
 | [], l, _, h => by
  cases l with
  | nil => simp
  | cons x l => exact absurd (h x (List.mem_cons_self ..)) (by simp)
 | y :: u, l, hn, h => by
  by_cases hy : y ∈ l
  ·have h1 := Qe5 u (l.erase y) (hn.erase y) (fun x hx => by
    have h2 := (List.Nodup.mem_erase_iff hn).1 hx
    rcases List.mem_cons.1 (h x h2.2) with e | e
    ·exact absurd e h2.1
    exact e)
   rw [List.length_erase_of_mem hy] at h1
   simp only [List.length_cons]; omega
  have h1 := Qe5 u l hn (fun x hx => by
   rcases List.mem_cons.1 (h x hx) with e | e
   ·subst e; exact absurd hx hy
   exact e)
  simp only [List.length_cons]; omega
section
variable {u : List Nm} {rs : List Ru} {r : Ru}
theorem Qdj.w (h : Qdj u rs) : pw u := XP h.s
theorem Qdj.len (h : Qdj u rs) (hr : r ∈ rs) : r.i.length ≤ 1000 := by
 obtain ⟨h1, h2, -⟩ := h.r r hr
 have := Qe5 u r.i ((XP h1).imp (fun h => Qcr h)) h2
 have := h.n
 omega
end
theorem Qf8 (l : List Bool) : ∀ e ∈ l.map bv1, fzs e = some e := fun e he => by
 obtain ⟨x, -, rfl⟩ := List.mem_map.1 he
 rfl
theorem QiS (b : Bool) : okE 1 (bv1 b) = true := rfl
theorem Qtf (n : Nat) : okE 1 (nv1 n) = true := rfl
theorem Qsv (h : List Nat × Nat) : okE 2 (hrC h) = true := rfl
theorem QjH (x : AV) : Qo 1 1 [x] = [[x]] := rfl
theorem Qcp (x y : AV) : Qo 2 1 [x, y] = [[x, y]] := rfl
theorem Qo7 (u : List Nm) : List.replicate u.length false = Yx u [] := by
 apply List.ext_getElem (by simp [Yx])
 intro i h1 h2
 simp [Yx, X2]
theorem QpI {u s : List Nm} {k : Nat} {x : Nm} (hs : pw u) (hx : s[k]? = some x) (hu : x ∈ u) : (Yx u (s.take k)).set (Qa8 u x) true = Yx u (s.take (k + 1)) := by
 rw [QjL hs hu, List.take_add_one, hx]; rfl
theorem cgS {tt : TypeId} {a : AV} {es es' : List (List AV)} {tk : Option Nat} (h : es = es') : some (Qx.var tt [a, .sl es tk]) = some (Qx.var tt [a, .sl es' tk]) := by rw [h]
theorem cgF {tt : TypeId} {b : AV} {es es' : List (List AV)} {tk : Option Nat} (h : es = es') : some (Qx.var tt [.sl es tk, b]) = some (Qx.var tt [.sl es' tk, b]) := by rw [h]
theorem cgP {tt : TypeId} {a b : Int} {p : Int × Int} (h : (a, b) = p) : some (Qx.var tt [i64 a, i64 b]) = some (Qx.var tt [i64 p.1, i64 p.2]) := by rw [← h]
theorem QlT {α β : Type} (f : α → β) {l : List α} {k : Nat} {x : α} (hx : l[k]? = some x) : (l.map f)[k]? = some (f x) := by rw [List.getElem?_map, hx]; rfl
theorem Qj9 {α β : Type} (f : α → β) {l : List α} {k : Nat} {x : α} (hx : l[k]? = some x) : (l.take k).map f ++ [f x] = (l.take (k + 1)).map f := by rw [List.take_add_one, hx]; simp
theorem Qs3 {u : List Nm} {o : Option (Nat × Ru)} (h : ((QkL u o).1 == -1 && (QkL u o).2 == 0) = true) : o = none := by
 cases o with
 | none => rfl
 | some q =>
  obtain ⟨k, r⟩ := q
  simp only [QkL, Bool.and_eq_true, beq_iff_eq] at h
  omega
theorem Qrh {u : List Nm} {o : Option (Nat × Ru)} (h : ((QkL u o).1 == -1 && (QkL u o).2 == 0) = false) : ∃ k r, o = some (k, r) := by
 cases o with
 | none => cases h
 | some q => exact ⟨q.1, q.2, rfl⟩
theorem Qlq {q : Ru → Bool} {l : List Ru} {k : Nat} {x : Ru} {v : Option (Nat × Ru)} (hg : YP q (l.drop k) k = v) (hx : l[k]? = some x) (h : q x = false) : YP q (l.drop (k + 1)) (k + 1) = v := by
 rw [← hg, XA hx]
 conv => rhs; unfold YP
 rw [h]; rfl
theorem Qi3 {q : Ru → Bool} {l : List Ru} {k : Nat} {x : Ru} {v : Option (Nat × Ru)} (hg : YP q (l.drop k) k = v) (hx : l[k]? = some x) (h : q x = true) : v = some (k, x) := by
 rw [← hg, XA hx]
 unfold YP
 rw [h]; rfl
theorem Qmt {q : Ru → Bool} {l : List Ru} {k : Nat} {v : Option (Nat × Ru)} (hg : YP q (l.drop k) k = v) (hge : l.length ≤ k) : v = none := by
 rw [← hg, List.drop_of_length_le hge]; rfl
instance : QmP Tryz.prog 243 := ⟨by kernel_rfl, by kernel_rfl, by kernel_rfl, by kernel_rfl⟩
theorem Qtd (u : List Nm) (hu : u.length ≤ 1000) (hs : pw u) (R : AV) (s : List Nm) (h1 : Qq s = true) (h2 : ∀ x ∈ s, x ∈ u) : FC Tryz.prog 216 [.el [X1 u, R], X1 s] (.tup [.sl ((Yx u s).map bv1) none, i64 0]) := by
 refine Qg [4, 5] Tryz.func216 rfl rfl 35 Tryz.ntmps216 (Nat.le_of_ble_eq_true rfl) ?_
 intro E hN
 refine Jj 1 rfl (fun hl1 => ?_)
 refine JA ?_; refine zP (Qc (Qal s) rfl rfl rfl) ?_; refine Qu ?_
 refine zq ?_ ?_ <;> intro h3
 ·
  have e := n1 h3
  rw [h1] at e; cases e
 refine Qv ?_; refine zP (Qe rfl rfl rfl) ?_; refine Qs ?_
 refine Qmn hN rfl rfl rfl rfl rfl (by simp; omega) rfl rfl rfl rfl ?_
 rw [List.length_map, Qo7]
 refine XB ?_
 refine Ql (fun x : {k : Nat // k ≤ (s).length ∧ True} => ⟨[(0, .el [X1 u, R]), (6, .own 0 u.length), (19, X1 s), (20, i64 s.length), (21, i64 (x.1 : Nat))], [(0, .arr 4 1 ((Yx u (s.take x.1)).map bv1))], 1⟩) (fun x => (s).length - x.1) (⟨0, Nat.zero_le _, by simp⟩) ?_ ?_
 ·
  exact Qa rfl (JO ⟨(Q0 (by simp)), rfl, (Xv trivial)⟩) ⟨rfl, rfl, (QT (fun _ => rfl) _), trivial⟩
 rintro ⟨k, hk, hg⟩
 dsimp only
 refine QF ?_
 refine zq ?_ ?_ <;> intro h14
 rotate_left
 ·
  have hge : s.length ≤ k := by simpa using h14
  rw [List.take_of_length_le hge]
  refine Q4 ?_; refine QI (Ju 4 0 rfl rfl (by simp [Yx]) (QN QiS _) (Qf8 _) rfl) ?_; refine zR ?_
  rfl
 have hlt : k < (s).length := by simpa using h14
 obtain ⟨x, hx⟩ := Qn hlt
 refine QF ?_; refine zP (Qf rfl rfl rfl k rfl _ (Qk hx) rfl) ?_; refine Q4 ?_
 refine zP (Qc (Qpf u (by omega) hs R x (h2 x (List.mem_of_getElem? hx))) rfl rfl rfl) ?_; refine XN ?_
 refine zq ?_ ?_ <;> intro h18
 ·
  have e := of_decide_eq_true h18
  omega
 refine Qv ?_; refine zP (Xg rfl rfl rfl rfl (by simp [Yx]) (Qa8 u x) rfl (QbC (h2 x (List.mem_of_getElem? hx)))) ?_
 refine Qkb hN rfl rfl (Yx u (s.take k)) rfl (by simp [Yx]) (Qa8 u x) rfl (by rw [QcA]; exact QbC (h2 x (List.mem_of_getElem? hx))) rfl rfl rfl rfl ?_
 refine Qv ?_; refine Qb ?_
 exact ⟨⟨k + 1, hlt, trivial⟩, Qa rfl (JH ⟨(Q0 (by dsimp only; omega)), rfl, trivial⟩) ⟨(cgA (by rw [QpI hs hx (h2 x (List.mem_of_getElem? hx))])), rfl, (QT (fun _ => rfl) _), trivial⟩, by dsimp only; omega⟩
theorem Qrf (u : List Nm) (hu : u.length ≤ 1000) (R : AV) (bits : List Bool) (hb : bits.length = u.length) : FC Tryz.prog 217 [.el [X1 u, R], .sl (bits.map bv1) none] (X1 (QbD u bits)) := by
 refine Qg [4] Tryz.func217 rfl rfl 29 Tryz.ntmps217 (Nat.le_of_ble_eq_true rfl) ?_
 intro E hN
 refine Q8 ?_; refine Yw hN rfl rfl rfl rfl rfl rfl ?_; refine XB ?_
 refine Ql (fun x : {k : Nat // k ≤ (bits).length ∧ True} => ⟨[(0, .el [X1 u, R]), (5, .own 0 (QbD (u.take x.1) (bits.take x.1)).length), (9, .sl (bits.map bv1) none), (10, i64 bits.length), (11, i64 (x.1 : Nat))], [(0, .arr 9 1 ((QbD (u.take x.1) (bits.take x.1)).map K2))], 1⟩) (fun x => (bits).length - x.1) (⟨0, Nat.zero_le _, by simp⟩) ?_ ?_
 ·
  exact Qa rfl (JO ⟨(Q0 (by simp)), rfl, (Xv trivial)⟩) ⟨rfl, rfl, (QT (fun _ => rfl) _), trivial⟩
 rintro ⟨k, hk, hg⟩
 dsimp only
 refine QF ?_
 refine zq ?_ ?_ <;> intro h10
 rotate_left
 ·
  have hge : bits.length ≤ k := by simpa using h10
  rw [Qqv (by omega) hb]
  refine Q8 ?_; refine QI (Ju 4 0 rfl rfl (by simp) (QN JN _) (Y5 _) rfl) ?_; refine zR ?_
  rfl
 have hlt : k < (bits).length := by simpa using h10
 obtain ⟨x, hx⟩ := Qn hlt
 obtain ⟨z, hz⟩ := Qn (show k < u.length by omega)
 refine Q8 ?_; refine zP (Qf rfl rfl rfl k rfl _ (Qk hx) rfl) ?_; refine XN ?_
 refine zq ?_ ?_ <;> intro h12
 rotate_left
 ·
  have hbz : x = false := h12
  subst hbz
  have hst := Qgt hz hx
  refine Qv ?_; refine Qb ?_
  exact ⟨⟨k + 1, hlt, trivial⟩, Qa rfl (Xv ⟨(cgO (by rw [hst]; first | (simp; done) | (simp [QA]; done))), rfl, (JI ⟨(Q0 (by dsimp only; omega)), rfl, trivial⟩)⟩) ⟨(cgA (by rw [hst]; first | (simp; done) | (simp [QA, K2]; done))), rfl, (QT (fun _ => rfl) _), trivial⟩, by dsimp only; omega⟩
 have hbz : x = true := h12
 subst hbz
 have hst := Qgt hz hx
 refine Qs ?_; refine zP (Qe rfl rfl rfl) ?_; refine Qs ?_; refine zP (Qf rfl rfl rfl k rfl _ (Qk hz) rfl) ?_; refine zL ?_
 refine zP (QE rfl rfl rfl rfl (by exact rfl) (by decide) (by decide)) ?_
 refine Xm hN rfl rfl rfl (by simp) rfl rfl rfl (by have := QmZ (u.take k) (bits.take k); simp [QA] at this ⊢; omega) rfl rfl rfl rfl ?_
 refine QF ?_; refine Qb ?_
 exact ⟨⟨k + 1, hlt, trivial⟩, Qa rfl (Xv ⟨(cgO (by rw [hst]; first | (simp; done) | (simp [QA]; done))), rfl, (JI ⟨(Q0 (by dsimp only; omega)), rfl, trivial⟩)⟩) ⟨(cgA (by rw [hst]; first | (simp; done) | (simp [QA, K2]; done))), rfl, (QT (fun _ => rfl) _), trivial⟩, by dsimp only; omega⟩
theorem Qsh (u : List Nm) (rs : List Ru) (h : Qdj u rs) : GC Tryz.prog 230 [.ptr QB 0, rus rs] [(QB, .var 227 [X1 u, .p (.slice none 0 0)])] (i64 0) [(QB, .var 227 [X1 u, hrs (rs.map (Wq u))])] := by
 refine XL [4] Tryz.func230 rfl rfl 59 Tryz.ntmps230 (Nat.le_of_ble_eq_true rfl) ?_
 intro E hN
 refine Jj 1 rfl (fun hl1 => ?_)
 refine X6 ?_; refine QI (J7 rfl QB 1 239 2 rfl rfl rfl) ?_
 refine Ql (fun x : {k : Nat // k ≤ (rs).length ∧ True} => ⟨[(0, .ptr QB 0), (11, rus rs), (12, i64 rs.length), (13, i64 (x.1 : Nat))], [(QB, .var 227 [X1 u, .sl (((rs.map (Wq u)).take x.1).map hrC) (some 0)]), (0, .tok 239 2 ((rs.map (Wq u)).take x.1).length)], 1⟩) (fun x => (rs).length - x.1) (⟨0, Nat.zero_le _, by simp⟩) ?_ ?_
 ·
  exact Qa rfl (JI ⟨(Q0 (by simp)), rfl, (Xv trivial)⟩) ⟨rfl, rfl, rfl, rfl, rfl, rfl, trivial⟩
 rintro ⟨k, hk, hg⟩
 dsimp only
 refine QF ?_
 refine zq ?_ ?_ <;> intro h8
 rotate_left
 ·
  have hge : rs.length ≤ k := by simpa using h8
  rw [List.take_of_length_le (show (rs.map (Wq u)).length ≤ k by simpa using hge)]
  refine Qu ?_; refine QI (Qkg QB 1 rfl rfl) ?_; refine Qs ?_; refine Qh ?_
  change (Xa _ _).fzt = some _ ∧ _
  refine Jl rfl ?_ rfl ?_ rfl
  all_goals rfl
 have hlt : k < (rs).length := by simpa using h8
 obtain ⟨x, hx⟩ := Qn hlt
 have hr := h.r x (List.mem_of_getElem? hx)
 have hxx := QlT (Wq u) hx
 refine QF ?_; refine zP (Qf rfl rfl rfl k rfl _ (Qk hx) rfl) ?_; refine JA ?_; refine zP (Qc (Qal x.i) rfl rfl rfl) ?_
 refine Qu ?_
 refine zq ?_ ?_ <;> intro h15
 ·
  have e := n1 h15
  rw [hr.1] at e; cases e
 refine Q8 ?_
 refine zP (QeR (Qpf u (by have := h.n; omega) h.w _ x.t hr.2.2) rfl rfl rfl (.cons (.ptr rfl rfl rfl) (.cons (.fz rfl) .nil))) ?_
 refine YR ?_; refine QI (J7 rfl 2 0 3 1 rfl rfl rfl) ?_
 refine Ql (fun z : {k : Nat // k ≤ (x.i).length ∧ True} => ⟨[(0, .ptr QB 0), (6, .ptr 1 0), (7, .ptr 2 0), (27, X1 x.i), (28, i64 x.i.length), (29, i64 (z.1 : Nat)), (11, rus rs), (12, i64 rs.length), (13, i64 (k : Nat))], [(QB, .var 227 [X1 u, .sl (((rs.map (Wq u)).take k).map hrC) (some 0)]), (0, .tok 239 2 ((rs.map (Wq u)).take k).length), (1, .var 188 (ruC x)), (2, .var 239 [.sl (((x.i.map (Qa8 u)).take z.1).map nv1) (some 3), i64 (Qa8 u x.t : Nat)]), (3, .tok 3 1 ((x.i.map (Qa8 u)).take z.1).length)], 4⟩) (fun z => x.i.length - z.1) (⟨0, Nat.zero_le _, by simp⟩) ?_ ?_
 ·
  exact Qa rfl (JH ⟨(Q0 (by simp)), rfl, (JH trivial)⟩) ⟨rfl, rfl, rfl, rfl, rfl, rfl, rfl, rfl, rfl, rfl, rfl, rfl, rfl, rfl, rfl, trivial⟩
 rintro ⟨j, hj, -⟩
 dsimp only
 refine QF ?_
 refine zq ?_ ?_ <;> intro h34
 ·
  have hjl : j < x.i.length := by simpa using h34
  obtain ⟨y, hy⟩ := Qn hjl
  have hxl := h.len (List.mem_of_getElem? hx)
  have hyu := hr.2.1 y (List.mem_of_getElem? hy)
  have hyy := QlT (Qa8 u) hy
  refine QF ?_; refine zP (Qf rfl rfl rfl j rfl _ (Qk hy) rfl) ?_; refine Q4 ?_
  refine zP (QeR (Qpf u (by have := h.n; omega) h.w _ y hyu) rfl rfl rfl (.cons (.ptr rfl rfl rfl) (.cons (.fz rfl) .nil))) ?_
  refine XN ?_
  refine zq ?_ ?_ <;> intro h38
  ·
   have e := of_decide_eq_true h38
   omega
  refine QF ?_; refine zP (QE rfl rfl rfl rfl (by exact rfl) (by decide) (by decide)) ?_
  refine QG hN rfl rfl rfl (by simp) rfl rfl (QN Qtf _) rfl (by have := h.len (List.mem_of_getElem? hx); simp [QjH]; omega) rfl rfl rfl rfl ?_
  refine Q8 ?_; refine Qb ?_
  exact ⟨⟨j + 1, hjl, trivial⟩, Qa rfl (JH (Xv ⟨(Q0 (by dsimp only; omega)), rfl, (JO trivial)⟩)) ⟨rfl, rfl, rfl, rfl, rfl, rfl, rfl, rfl, rfl, (cgF (by rw [← Qj9 nv1 hyy]; exact congrArg (· ++ [_]) rfl)), rfl, rfl, (cgT (by rw [List.take_add_one, hyy]; simp [QjH])), rfl, rfl, trivial⟩, by dsimp only; omega⟩
 have hje : x.i.length ≤ j := by simpa using h34
 rw [List.take_of_length_le (show (x.i.map (Qa8 u)).length ≤ j by simpa using hje)]
 refine XN ?_
 refine zq ?_ ?_ <;> intro h48
 ·
  have e := of_decide_eq_true h48
  omega
 refine zW ?_; refine QeM [0, 1, 2, 3, 4, 5, 6] 7 [8, 9, 10] rfl (by kernel_rfl) (by kernel_rfl) ?_; refine Qu ?_
 refine zp (Qe rfl rfl rfl) ?_; refine Qs ?_; refine zp (QE rfl rfl rfl rfl (by exact rfl) (by decide) (by decide)) ?_
 change FK _ _ _ _ _ _
 refine Qib hN rfl rfl rfl (by simp) rfl rfl (QN Qsv _) rfl (by have := h.m; simp [Qcp]; omega) rfl rfl rfl rfl ?_
 change Qj _ _ _ _ _ _; refine zP (Qe rfl rfl rfl) ?_; refine Q8 ?_; refine Qb ?_
 exact ⟨⟨k + 1, hlt, trivial⟩, Qa rfl (JO ⟨(Q0 (by dsimp only; omega)), rfl, trivial⟩) ⟨(cgS (by rw [← Qj9 hrC hxx]; exact congrArg (· ++ [_]) rfl)), rfl, rfl, (cgT (by rw [List.take_add_one, hxx]; simp [Qcp])), rfl, rfl, trivial⟩, by dsimp only; omega⟩
theorem QoH (u : List Nm) (rs : List Ru) (h : Qdj u rs) : FC Tryz.prog 215 [X1 u, rus rs] (.tup [.el [X1 u, hrs (rs.map (Wq u))], i64 0]) := by
 refine Qg [4, 5] Tryz.func215 rfl rfl 33 Tryz.ntmps215 (Nat.le_of_ble_eq_true rfl) ?_
 intro E hN
 refine Jj 0 rfl (fun hl0 => ?_)
 refine YR ?_
 refine Ql (fun x : {k : Nat // k ≤ (u).length ∧ True} => ⟨[(0, X1 u), (1, rus rs), (10, X1 u), (11, i64 u.length), (12, i64 (x.1 : Nat))], [], 0⟩) (fun x => (u).length - x.1) (⟨0, Nat.zero_le _, by simp⟩) ?_ ?_
 ·
  exact Qa rfl (JO ⟨(Q0 (by simp)), rfl, (Xv trivial)⟩) trivial
 rintro ⟨k, hk, hg⟩
 dsimp only
 refine QF ?_
 refine zq ?_ ?_ <;> intro h9
 ·
  have hlt : k < (u).length := by simpa using h9
  obtain ⟨x, hx⟩ := Qn hlt
  refine QF ?_; refine zP (Qf rfl rfl rfl k rfl _ (Qk hx) rfl) ?_; refine Q8 ?_; refine zP (Qc (Qd6 x) rfl rfl rfl) ?_
  refine Qu ?_
  refine zq ?_ ?_ <;> intro h12
  ·
   have e := n1 h12
   rw [h.v x (List.mem_of_getElem? hx)] at e; cases e
  refine Qv ?_; refine Qb ?_
  exact ⟨⟨k + 1, hlt, trivial⟩, Qa rfl (JH ⟨(Q0 (by dsimp only; omega)), rfl, trivial⟩) trivial, by dsimp only; omega⟩
 refine QF ?_; refine zP (Qc (Qal u) rfl rfl rfl) ?_; refine Qu ?_
 refine zq ?_ ?_ <;> intro h14
 ·
  have e := n1 h14
  rw [h.s] at e; cases e
 refine YR ?_; refine XO hN 0 (Qsh u rs h) (.fn _ _ _ _ rfl rfl) rfl rfl rfl rfl rfl rfl rfl rfl rfl rfl rfl ?_; refine Q4 ?_
 refine zq ?_ ?_ <;> intro h18
 ·
  cases h18
 refine Qu ?_; refine QI (Qcq 8 0 rfl rfl rfl rfl) ?_; refine Qv ?_; refine zQ ?_
 rfl
theorem Qm2 (u : List Nm) (rs : List Ru) (h : Qdj u rs) (s : List Nm) : FC Tryz.prog 232 [.el [X1 u, hrs (rs.map (Wq u))], .sl ((Yx u s).map bv1) none, .fn 233 []] (.tup [.sl ((Yx u (J9 rs rs.length s)).map bv1) none, .bot]) := by
 refine Qg [6, 7] Tryz.func232 rfl rfl 56 Tryz.ntmps232 (Nat.le_of_ble_eq_true rfl) ?_
 intro E hN
 have hn := h.n
 have hm := h.m
 refine JA ?_
 refine Qmn hN rfl rfl rfl rfl rfl (by simp [Yx]; omega) rfl rfl rfl rfl ?_
 refine Q8 ?_; refine Qrk hN rfl rfl _ rfl (by simp) _ rfl (by simp) rfl rfl rfl rfl ?_; refine Q8 ?_
 refine QI (WT rfl 9 243 2 rfl) ?_
 refine Ql (fun z : {q : List Nm × List Tk // J9 rs rs.length q.1 = J9 rs rs.length s ∧ q.2.length + Qbu rs q.1 ≤ rs.length} => ⟨[(0, .el [X1 u, hrs (rs.map (Wq u))]), (2, .fn 233 []), (8, .own 0 u.length), (9, .own 1 z.1.2.length)], [(0, .arr 4 1 ((Yx u z.1.1).map bv1)), (1, .arr 243 2 (z.1.2.map tkC))], 2⟩) (fun z => Qbu rs z.1.1) (⟨(s, []), rfl, by simpa using Qeo⟩) ?_ ?_
 ·
  exact Qa rfl (JI ⟨(cgO (by simp [Yx])), rfl, (Xv trivial)⟩) ⟨rfl, rfl, (QT (fun _ => rfl) _), rfl, rfl, (QT (fun _ => rfl) _), trivial⟩
 rintro ⟨⟨t, sts⟩, hg, hlen⟩
 dsimp only at hg hlen ⊢
 refine Q4 ?_
 refine Wm (⟨[(0, .el [X1 u, hrs (rs.map (Wq u))]), (2, .fn 233 []), (8, .own 0 u.length), (9, .own 1 sts.length), (10, .ptr 2 0)], [(0, .arr 4 1 ((Yx u t).map bv1)), (1, .arr 243 2 (sts.map tkC)), (2, .var 243 [i64 (QkL u (YP (XV t) rs 0)).1, i64 (QkL u (YP (XV t) rs 0)).2])], 3⟩) ?_ ?_
 ·
  refine Qs ?_; refine zP (Qe rfl rfl rfl) ?_; refine Q8 ?_
  refine Ql (fun x : {k : Nat // k ≤ (rs).length ∧ YP (XV t) (rs.drop k) k = YP (XV t) rs 0} => ⟨[(0, .el [X1 u, hrs (rs.map (Wq u))]), (2, .fn 233 []), (8, .own 0 u.length), (9, .own 1 sts.length), (10, .ptr 2 0), (23, hrs (rs.map (Wq u))), (24, i64 rs.length), (25, i64 (x.1 : Nat))], [(0, .arr 4 1 ((Yx u t).map bv1)), (1, .arr 243 2 (sts.map tkC)), (2, .var 243 [i64 (-1), i64 0])], 3⟩) (fun x => (rs).length - x.1) (⟨0, Nat.zero_le _, by simp⟩) ?_ ?_
  ·
   exact Qa rfl (JH (JI ⟨(Q0 (by simp)), rfl, (Xv trivial)⟩)) ⟨rfl, rfl, (QT (fun _ => rfl) _), rfl, rfl, (QT (fun _ => rfl) _), rfl, rfl, rfl, trivial⟩
  rintro ⟨k, hk, hg2⟩
  dsimp only
  refine QF ?_
  refine zq ?_ ?_ <;> intro h25
  rotate_left
  ·
   have hge : (rs).length ≤ k := by simpa using h25
   refine Wi ?_
   exact Qa rfl (JH (Xv trivial)) ⟨rfl, rfl, (QT (fun _ => rfl) _), rfl, rfl, (QT (fun _ => rfl) _), (by first | exact cgP (by rw [Qmt hg2 hge]; rfl) | exact cgP (by rw [Qi3 hg2 hx hf]; rfl)), rfl, rfl, trivial⟩
  have hlt : k < (rs).length := by simpa using h25
  obtain ⟨x, hx⟩ := Qn hlt
  have hxr := h.r x (List.mem_of_getElem? hx)
  have hfe := Qoa (t := t) hxr.2.1 hxr.2.2
  refine Q8 ?_; refine zP (Qf rfl rfl rfl k rfl _ (Qk (QlT (Wq u) hx)) rfl) ?_; refine JA ?_
  refine zP (WJ (Qoz _) rfl rfl rfl rfl) ?_; refine Qs ?_
  refine zP (QeR (QoB (Wq u x) (Yx u t) (by rw [QcA]; exact QbC hxr.2.2) (fun i hi => by obtain ⟨y, hy, rfl⟩ := List.mem_map.1 hi; rw [QcA]; exact QbC (hxr.2.1 y hy))) rfl rfl rfl (.cons (.fz rfl) (.cons (.own rfl (by simp [Yx]) (QN QiS _) (Qf8 _)) .nil))) ?_
  refine Qu ?_
  refine zq ?_ ?_ <;> intro h31
  ·
   have hf : XV t x = true := by rw [← hfe]; exact h31
   refine XN ?_; refine Wi ?_
   exact Qa rfl (JH (Xv trivial)) ⟨rfl, rfl, (QT (fun _ => rfl) _), rfl, rfl, (QT (fun _ => rfl) _), (by first | exact cgP (by rw [Qmt hg2 hge]; rfl) | exact cgP (by rw [Qi3 hg2 hx hf]; rfl)), rfl, rfl, trivial⟩
  have hf : XV t x = false := by rw [← hfe]; exact h31
  refine Qv ?_; refine Qb ?_
  exact ⟨⟨k + 1, hlt, Qlq hg2 hx hf⟩, Qa rfl (JH (JO ⟨(Q0 (by dsimp only; omega)), rfl, trivial⟩)) ⟨rfl, rfl, (QT (fun _ => rfl) _), rfl, rfl, (QT (fun _ => rfl) _), rfl, rfl, rfl, trivial⟩, by dsimp only; omega⟩
 refine QF ?_; refine zP (QtK rfl rfl rfl rfl) ?_; refine zN ?_
 refine zq ?_ ?_ <;> intro h44
 ·
  have hno := Qs3 h44
  refine Q4 ?_; refine QI (Ju 6 0 rfl rfl (by simp [Yx]) (QN QiS _) (Qf8 _) rfl) ?_
  refine QI (st' := ⟨[(6, .sl ((Yx u t).map bv1) none)], [], 2⟩) (Qa rfl (Xv trivial) trivial) ?_; refine zR ?_
  rw [← hg, Kq (WC hno)]
 obtain ⟨kk, r, hr⟩ := Qrh h44
 obtain ⟨hrf, hrm⟩ := YD _ rs 0 hr
 have hrt := (h.r r hrm).2.2
 rw [hr]
 refine Q8 ?_; refine zP (Xg rfl rfl rfl rfl (by simp [Yx]) (Qa8 u r.t) rfl (QbC hrt)) ?_
 refine Qkb hN rfl rfl (Yx u t) rfl (by simp [Yx]) (Qa8 u r.t) rfl (by rw [QcA]; exact QbC hrt) rfl rfl rfl rfl ?_
 refine Qv ?_; refine zP (QE rfl rfl rfl rfl (by exact rfl) (by decide) (by decide)) ?_
 refine Xm hN rfl rfl rfl (by simp) rfl rfl rfl (by simp [Qcp]; omega) rfl rfl rfl rfl ?_
 refine zS ?_; refine Qb ?_
 exact ⟨⟨(t ++ [r.t], sts ++ [QkL u (some (kk, r))]), (Qme hr).trans hg, by have := Y4 hrm hrf; simp; omega⟩, Qa rfl (JO ⟨(cgO (by simp [Qcp])), rfl, trivial⟩) ⟨(cgA (by rw [QjL h.w hrt])), rfl, (QT (fun _ => rfl) _), (cgA (by simp [Qcp, tkC])), rfl, (QT (fun _ => rfl) _), trivial⟩, by exact Y4 hrm hrf⟩
theorem Qoc (u : List Nm) (rs : List Ru) (h : Qdj u rs) (s : List Nm) : FC Tryz.prog 218 [.el [X1 u, hrs (rs.map (Wq u))], .sl ((Yx u s).map bv1) none] (.sl ((Yx u (J9 rs rs.length s)).map bv1) none) := by
 refine Qg [4] Tryz.func218 rfl rfl 14 Tryz.ntmps218 (Nat.le_of_ble_eq_true rfl) ?_
 intro E hN
 refine XN ?_; refine zP (Qc (Qm2 u rs h s) rfl rfl rfl) ?_; refine XB ?_; refine zQ ?_
 rfl
theorem QjV (u : List Nm) (rs : List Ru) (h : Qdj u rs) (s : List Nm) (h1 : Qq s = true) (h2 : ∀ x ∈ s, x ∈ u) : FC Tryz.prog 195 [X1 u, rus rs, X1 s] (.tup [X1 (Ka u rs s), i64 0]) := by
 refine Qg [6, 7] Tryz.func195 rfl rfl 34 Tryz.ntmps195 (Nat.le_of_ble_eq_true rfl) ?_
 intro E hN
 refine JA ?_; refine zP (Qc (QoH u rs h) rfl rfl rfl) ?_; refine X6 ?_
 refine zq ?_ ?_ <;> intro h7
 ·
  cases h7
 refine QF ?_; refine zP (Qc (Qtd u h.n h.w _ s h1 h2) rfl rfl rfl) ?_; refine X6 ?_
 refine zq ?_ ?_ <;> intro h11
 ·
  cases h11
 refine Q8 ?_; refine zP (Qc (Qoc u rs h s) rfl rfl rfl) ?_
 refine zP (Qc (Qrf u h.n _ (Yx u (J9 rs rs.length s)) QcA) rfl rfl rfl) ?_; refine Qu ?_; refine zQ ?_
 rw [Qpp]; rfl
end Go.Proofs.YtnkkokmmeplbgaaGreat
