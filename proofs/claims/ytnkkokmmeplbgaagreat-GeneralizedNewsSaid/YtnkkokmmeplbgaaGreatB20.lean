/-
  Contracts: closing names under rules: the system, its chain,
-/
import Derived.Test.YtnkkokmmeplbgaaGreatB19
import Derived.Test.YtnkkokmmeplbgaaGreatA4
namespace Go.Proofs.YtnkkokmmeplbgaaGreat
set_option maxRecDepth 100000
set_option maxHeartbeats 1000000
open Go.RowKit
structure QaG (u : List Nm) (rs : List Ru) : Prop where
 s : Qn u = true
 v : ∀ x ∈ u, Xb x = true
 n : u.length ≤ 1000
 m : rs.length ≤ 1000
 r : ∀ r ∈ rs, Qn r.i = true ∧ (∀ x ∈ r.i, x ∈ u) ∧ r.t ∈ u
theorem Qb1 : ∀ (u l : List Nm), l.Nodup → (∀ x ∈ l, x ∈ u) → l.length ≤ u.length
 | [], l, _, h => by
  cases l with
  | nil => simp
  | cons x l => exact absurd (h x (List.mem_cons_self ..)) (by simp)
 | y :: u, l, hn, h => by
  by_cases hy : y ∈ l
  ·have h1 := Qb1 u (l.erase y) (hn.erase y) (fun x hx => by
    have h2 := (List.Nodup.mem_erase_iff hn).1 hx
    rcases List.mem_cons.1 (h x h2.2) with e | e
    ·exact absurd e h2.1
    exact e)
   rw [List.length_erase_of_mem hy] at h1
   simp only [List.length_cons]; omega
  have h1 := Qb1 u l hn (fun x hx => by
   rcases List.mem_cons.1 (h x hx) with e | e
   ·subst e; exact absurd hx hy
   exact e)
  simp only [List.length_cons]; omega
section
variable {u : List Nm} {rs : List Ru} {r : Ru}
theorem QaG.w (h : QaG u rs) : pw u := XS h.s
theorem QaG.len (h : QaG u rs) (hr : r ∈ rs) : r.i.length ≤ 1000 := by
 obtain ⟨h1, h2, -⟩ := h.r r hr
 have := Qb1 u r.i ((XS h1).imp (fun h => Qal h)) h2
 have := h.n
 omega
end
theorem QdI (l : List Bool) : ∀ e ∈ l.map bv1, fzs e = some e := fun e he => by
 obtain ⟨x, -, rfl⟩ := List.mem_map.1 he
 rfl
theorem QfF (b : Bool) : WP 1 (bv1 b) = true := rfl
theorem Qog (n : Nat) : WP 1 (nv1 n) = true := rfl
theorem Qn1 (h : List Nat × Nat) : WP 2 (hrC h) = true := rfl
theorem Qgd (x : AV) : X2 1 1 [x] = [[x]] := rfl
theorem W1 (x y : AV) : X2 2 1 [x, y] = [[x, y]] := rfl
theorem Qll (u : List Nm) : List.replicate u.length false = Jw u [] := by
 apply List.ext_getElem (by simp [Jw])
 intro i h1 h2
 simp [Jw, XV]
theorem Qlk {u s : List Nm} {k : Nat} {x : Nm} (hs : pw u) (hx : s[k]? = some x) (hu : x ∈ u) : (Jw u (s.take k)).set (KV u x) true = Jw u (s.take (k + 1)) := by
 rw [QgJ hs hu, List.take_add_one, hx]; rfl
theorem cgS {tt : TypeId} {a : AV} {es es' : List (List AV)} {tk : Option Nat} (h : es = es') : some (Qi.var tt [a, .sl es tk]) = some (Qi.var tt [a, .sl es' tk]) := by rw [h]
theorem cgF {tt : TypeId} {b : AV} {es es' : List (List AV)} {tk : Option Nat} (h : es = es') : some (Qi.var tt [.sl es tk, b]) = some (Qi.var tt [.sl es' tk, b]) := by rw [h]
theorem cgP {tt : TypeId} {a b : Int} {p : Int × Int} (h : (a, b) = p) : some (Qi.var tt [i64 a, i64 b]) = some (Qi.var tt [i64 p.1, i64 p.2]) := by rw [← h]
theorem Qg6 {α β : Type} (f : α → β) {l : List α} {k : Nat} {x : α} (hx : l[k]? = some x) : (l.map f)[k]? = some (f x) := by rw [List.getElem?_map, hx]; rfl
theorem Qf9 {α β : Type} (f : α → β) {l : List α} {k : Nat} {x : α} (hx : l[k]? = some x) : (l.take k).map f ++ [f x] = (l.take (k + 1)).map f := by rw [List.take_add_one, hx]; simp
theorem Qn2 {u : List Nm} {o : Option (Nat × Ru)} (h : ((QgG u o).1 == -1 && (QgG u o).2 == 0) = true) : o = none := by
 cases o with
 | none => rfl
 | some q =>
  obtain ⟨k, r⟩ := q
  simp only [QgG, Bool.and_eq_true, beq_iff_eq] at h
  omega
theorem QlT {u : List Nm} {o : Option (Nat × Ru)} (h : ((QgG u o).1 == -1 && (QgG u o).2 == 0) = false) : ∃ k r, o = some (k, r) := by
 cases o with
 | none => cases h
 | some q => exact ⟨q.1, q.2, rfl⟩
theorem QnN {q : Ru → Bool} {l : List Ru} {k : Nat} {x : Ru} {v : Option (Nat × Ru)} (hg : YT q (l.drop k) k = v) (hx : l[k]? = some x) (h : q x = false) : YT q (l.drop (k + 1)) (k + 1) = v := by
 rw [← hg, Q4 hx]
 conv => rhs; unfold YT
 rw [h]; rfl
theorem Qip {q : Ru → Bool} {l : List Ru} {k : Nat} {x : Ru} {v : Option (Nat × Ru)} (hg : YT q (l.drop k) k = v) (hx : l[k]? = some x) (h : q x = true) : v = some (k, x) := by
 rw [← hg, Q4 hx]
 unfold YT
 rw [h]; rfl
theorem Qis {q : Ru → Bool} {l : List Ru} {k : Nat} {v : Option (Nat × Ru)} (hg : YT q (l.drop k) k = v) (hge : l.length ≤ k) : v = none := by
 rw [← hg, List.drop_of_length_le hge]; rfl
instance : Qkl Tryz.prog 243 := ⟨by kernel_rfl, by kernel_rfl, by kernel_rfl, by kernel_rfl⟩
theorem Qon (u : List Nm) (hu : u.length ≤ 1000) (hs : pw u) (R : AV) (s : List Nm) (h1 : Qn s = true) (h2 : ∀ x ∈ s, x ∈ u) : FC Tryz.prog 216 [.el [XN u, R], XN s] (.tup [.sl ((Jw u s).map bv1) none, i64 0]) := by
 refine Qe [4, 5] Tryz.func216 rfl rfl 35 Tryz.ntmps216 (Nat.le_of_ble_eq_true rfl) ?_
 intro E hN
 refine X7 1 rfl (fun hl1 => ?_)
 refine Jy ?_; refine zP (Qb (Kr s) rfl rfl rfl) ?_; refine QC ?_
 refine zq ?_ ?_ <;> intro h3
 ·
  have e := n1 h3
  rw [h1] at e; cases e
 refine Qz ?_; refine zP (QE rfl rfl rfl) ?_; refine Qx ?_
 refine Qib hN rfl rfl rfl rfl rfl (by simp; omega) rfl rfl rfl rfl ?_
 rw [List.length_map, Qll]
 refine XM ?_
 refine Qo (fun x : {k : Nat // k ≤ (s).length ∧ True} => ⟨[(0, .el [XN u, R]), (6, .own 0 u.length), (19, XN s), (20, i64 s.length), (21, i64 (x.1 : Nat))], [(0, .arr 4 1 ((Jw u (s.take x.1)).map bv1))], 1⟩) (fun x => (s).length - x.1) (⟨0, Nat.zero_le _, by simp⟩) ?_ ?_
 ·
  exact Qa rfl (Ya ⟨(Xe (by simp)), rfl, (Xr trivial)⟩) ⟨rfl, rfl, (X0 (fun _ => rfl) _), trivial⟩
 rintro ⟨k, hk, hg⟩
 dsimp only
 refine QA ?_
 refine zq ?_ ?_ <;> intro h14
 rotate_left
 ·
  have hge : s.length ≤ k := by simpa using h14
  rw [List.take_of_length_le hge]
  refine Xj ?_; refine QF (Yt 4 0 rfl rfl (by simp [Jw]) (Q2 QfF _) (QdI _) rfl) ?_; refine zR ?_
  rfl
 have hlt : k < (s).length := by simpa using h14
 obtain ⟨x, hx⟩ := Qr hlt
 refine QA ?_; refine zP (Qf rfl rfl rfl k rfl _ (Qu hx) rfl) ?_; refine Xj ?_
 refine zP (Qb (Qj9 u (by omega) hs R x (h2 x (List.mem_of_getElem? hx))) rfl rfl rfl) ?_; refine Jf ?_
 refine zq ?_ ?_ <;> intro h18
 ·
  have e := of_decide_eq_true h18
  omega
 refine Qz ?_; refine zP (Qjz rfl rfl rfl rfl (by simp [Jw]) (KV u x) rfl (Wl (h2 x (List.mem_of_getElem? hx)))) ?_
 refine QfN hN rfl rfl (Jw u (s.take k)) rfl (by simp [Jw]) (KV u x) rfl (by rw [Qai]; exact Wl (h2 x (List.mem_of_getElem? hx))) rfl rfl rfl rfl ?_
 refine Qz ?_; refine Qc ?_
 exact ⟨⟨k + 1, hlt, trivial⟩, Qa rfl (Yg ⟨(Xe (by dsimp only; omega)), rfl, trivial⟩) ⟨(cgA (by rw [Qlk hs hx (h2 x (List.mem_of_getElem? hx))])), rfl, (X0 (fun _ => rfl) _), trivial⟩, by dsimp only; omega⟩
theorem Qmi (u : List Nm) (hu : u.length ≤ 1000) (R : AV) (bits : List Bool) (hb : bits.length = u.length) : FC Tryz.prog 217 [.el [XN u, R], .sl (bits.map bv1) none] (XN (Wq u bits)) := by
 refine Qe [4] Tryz.func217 rfl rfl 29 Tryz.ntmps217 (Nat.le_of_ble_eq_true rfl) ?_
 intro E hN
 refine Xk ?_; refine Qb3 hN rfl rfl rfl rfl rfl rfl ?_; refine XM ?_
 refine Qo (fun x : {k : Nat // k ≤ (bits).length ∧ True} => ⟨[(0, .el [XN u, R]), (5, .own 0 (Wq (u.take x.1) (bits.take x.1)).length), (9, .sl (bits.map bv1) none), (10, i64 bits.length), (11, i64 (x.1 : Nat))], [(0, .arr 9 1 ((Wq (u.take x.1) (bits.take x.1)).map sv1))], 1⟩) (fun x => (bits).length - x.1) (⟨0, Nat.zero_le _, by simp⟩) ?_ ?_
 ·
  exact Qa rfl (Ya ⟨(Xe (by simp)), rfl, (Xr trivial)⟩) ⟨rfl, rfl, (X0 (fun _ => rfl) _), trivial⟩
 rintro ⟨k, hk, hg⟩
 dsimp only
 refine QA ?_
 refine zq ?_ ?_ <;> intro h10
 rotate_left
 ·
  have hge : bits.length ≤ k := by simpa using h10
  rw [QmN (by omega) hb]
  refine Xk ?_; refine QF (Yt 4 0 rfl rfl (by simp) (Q2 WA _) (QcF _) rfl) ?_; refine zR ?_
  rfl
 have hlt : k < (bits).length := by simpa using h10
 obtain ⟨x, hx⟩ := Qr hlt
 obtain ⟨z, hz⟩ := Qr (show k < u.length by omega)
 refine Xk ?_; refine zP (Qf rfl rfl rfl k rfl _ (Qu hx) rfl) ?_; refine Jf ?_
 refine zq ?_ ?_ <;> intro h12
 rotate_left
 ·
  have hbz : x = false := h12
  subst hbz
  have hst := Qdi hz hx
  refine Qz ?_; refine Qc ?_
  exact ⟨⟨k + 1, hlt, trivial⟩, Qa rfl (Xr ⟨(cgO (by rw [hst]; first | (simp; done) | (simp [Xa]; done))), rfl, (Yv ⟨(Xe (by dsimp only; omega)), rfl, trivial⟩)⟩) ⟨(cgA (by rw [hst]; first | (simp; done) | (simp [Xa, sv1]; done))), rfl, (X0 (fun _ => rfl) _), trivial⟩, by dsimp only; omega⟩
 have hbz : x = true := h12
 subst hbz
 have hst := Qdi hz hx
 refine Qx ?_; refine zP (QE rfl rfl rfl) ?_; refine Qx ?_; refine zP (Qf rfl rfl rfl k rfl _ (Qu hz) rfl) ?_; refine zL ?_
 refine zP (QJ rfl rfl rfl rfl (by exact rfl) (by decide) (by decide)) ?_
 refine X1 hN rfl rfl rfl (by simp) rfl rfl rfl (by have := Qiv (u.take k) (bits.take k); simp [Xa] at this ⊢; omega) rfl rfl rfl rfl ?_
 refine QA ?_; refine Qc ?_
 exact ⟨⟨k + 1, hlt, trivial⟩, Qa rfl (Xr ⟨(cgO (by rw [hst]; first | (simp; done) | (simp [Xa]; done))), rfl, (Yv ⟨(Xe (by dsimp only; omega)), rfl, trivial⟩)⟩) ⟨(cgA (by rw [hst]; first | (simp; done) | (simp [Xa, sv1]; done))), rfl, (X0 (fun _ => rfl) _), trivial⟩, by dsimp only; omega⟩
theorem Qob (u : List Nm) (rs : List Ru) (h : QaG u rs) : GC Tryz.prog 230 [.ptr Qk 0, rus rs] [(Qk, .var 227 [XN u, .p (.slice none 0 0)])] (i64 0) [(Qk, .var 227 [XN u, hrs (rs.map (YL u))])] := by
 refine JK [4] Tryz.func230 rfl rfl 59 Tryz.ntmps230 (Nat.le_of_ble_eq_true rfl) ?_
 intro E hN
 refine X7 1 rfl (fun hl1 => ?_)
 refine Jn ?_; refine QF (JG rfl Qk 1 239 2 rfl rfl rfl) ?_
 refine Qo (fun x : {k : Nat // k ≤ (rs).length ∧ True} => ⟨[(0, .ptr Qk 0), (11, rus rs), (12, i64 rs.length), (13, i64 (x.1 : Nat))], [(Qk, .var 227 [XN u, .sl (((rs.map (YL u)).take x.1).map hrC) (some 0)]), (0, .tok 239 2 ((rs.map (YL u)).take x.1).length)], 1⟩) (fun x => (rs).length - x.1) (⟨0, Nat.zero_le _, by simp⟩) ?_ ?_
 ·
  exact Qa rfl (Yv ⟨(Xe (by simp)), rfl, (Xr trivial)⟩) ⟨rfl, rfl, rfl, rfl, rfl, rfl, trivial⟩
 rintro ⟨k, hk, hg⟩
 dsimp only
 refine QA ?_
 refine zq ?_ ?_ <;> intro h8
 rotate_left
 ·
  have hge : rs.length ≤ k := by simpa using h8
  rw [List.take_of_length_le (show (rs.map (YL u)).length ≤ k by simpa using hge)]
  refine QC ?_; refine QF (QgN Qk 1 rfl rfl) ?_; refine Qx ?_; refine Qj ?_
  change (XP _ _).fzt = some _ ∧ _
  refine QaT rfl ?_ rfl ?_ rfl
  all_goals rfl
 have hlt : k < (rs).length := by simpa using h8
 obtain ⟨x, hx⟩ := Qr hlt
 have hr := h.r x (List.mem_of_getElem? hx)
 have hxx := Qg6 (YL u) hx
 refine QA ?_; refine zP (Qf rfl rfl rfl k rfl _ (Qu hx) rfl) ?_; refine Jy ?_; refine zP (Qb (Kr x.i) rfl rfl rfl) ?_
 refine QC ?_
 refine zq ?_ ?_ <;> intro h15
 ·
  have e := n1 h15
  rw [hr.1] at e; cases e
 refine Xk ?_
 refine zP (QhC (Qj9 u (by have := h.n; omega) h.w _ x.t hr.2.2) rfl rfl rfl (.cons (.ptr rfl rfl rfl) (.cons (.fz rfl) .nil))) ?_
 refine Wz ?_; refine QF (JG rfl 2 0 3 1 rfl rfl rfl) ?_
 refine Qo (fun z : {k : Nat // k ≤ (x.i).length ∧ True} => ⟨[(0, .ptr Qk 0), (6, .ptr 1 0), (7, .ptr 2 0), (27, XN x.i), (28, i64 x.i.length), (29, i64 (z.1 : Nat)), (11, rus rs), (12, i64 rs.length), (13, i64 (k : Nat))], [(Qk, .var 227 [XN u, .sl (((rs.map (YL u)).take k).map hrC) (some 0)]), (0, .tok 239 2 ((rs.map (YL u)).take k).length), (1, .var 188 (ruC x)), (2, .var 239 [.sl (((x.i.map (KV u)).take z.1).map nv1) (some 3), i64 (KV u x.t : Nat)]), (3, .tok 3 1 ((x.i.map (KV u)).take z.1).length)], 4⟩) (fun z => x.i.length - z.1) (⟨0, Nat.zero_le _, by simp⟩) ?_ ?_
 ·
  exact Qa rfl (Yg ⟨(Xe (by simp)), rfl, (Yg trivial)⟩) ⟨rfl, rfl, rfl, rfl, rfl, rfl, rfl, rfl, rfl, rfl, rfl, rfl, rfl, rfl, rfl, trivial⟩
 rintro ⟨j, hj, -⟩
 dsimp only
 refine QA ?_
 refine zq ?_ ?_ <;> intro h34
 ·
  have hjl : j < x.i.length := by simpa using h34
  obtain ⟨y, hy⟩ := Qr hjl
  have hxl := h.len (List.mem_of_getElem? hx)
  have hyu := hr.2.1 y (List.mem_of_getElem? hy)
  have hyy := Qg6 (KV u) hy
  refine QA ?_; refine zP (Qf rfl rfl rfl j rfl _ (Qu hy) rfl) ?_; refine Xj ?_
  refine zP (QhC (Qj9 u (by have := h.n; omega) h.w _ y hyu) rfl rfl rfl (.cons (.ptr rfl rfl rfl) (.cons (.fz rfl) .nil))) ?_
  refine Jf ?_
  refine zq ?_ ?_ <;> intro h38
  ·
   have e := of_decide_eq_true h38
   omega
  refine QA ?_; refine zP (QJ rfl rfl rfl rfl (by exact rfl) (by decide) (by decide)) ?_
  refine QM hN rfl rfl rfl (by simp) rfl rfl (Q2 Qog _) rfl (by have := h.len (List.mem_of_getElem? hx); simp [Qgd]; omega) rfl rfl rfl rfl ?_
  refine Xk ?_; refine Qc ?_
  exact ⟨⟨j + 1, hjl, trivial⟩, Qa rfl (Yg (Xr ⟨(Xe (by dsimp only; omega)), rfl, (Ya trivial)⟩)) ⟨rfl, rfl, rfl, rfl, rfl, rfl, rfl, rfl, rfl, (cgF (by rw [← Qf9 nv1 hyy]; exact congrArg (· ++ [_]) rfl)), rfl, rfl, (cgT (by rw [List.take_add_one, hyy]; simp [Qgd])), rfl, rfl, trivial⟩, by dsimp only; omega⟩
 have hje : x.i.length ≤ j := by simpa using h34
 rw [List.take_of_length_le (show (x.i.map (KV u)).length ≤ j by simpa using hje)]
 refine Jf ?_
 refine zq ?_ ?_ <;> intro h48
 ·
  have e := of_decide_eq_true h48
  omega
 refine zW ?_; refine QbZ [0, 1, 2, 3, 4, 5, 6] 7 [8, 9, 10] rfl (by kernel_rfl) (by kernel_rfl) ?_; refine QC ?_
 refine zp (QE rfl rfl rfl) ?_; refine Qx ?_; refine zp (QJ rfl rfl rfl rfl (by exact rfl) (by decide) (by decide)) ?_
 change FK _ _ _ _ _ _
 refine Qfy hN rfl rfl rfl (by simp) rfl rfl (Q2 Qn1 _) rfl (by have := h.m; simp [W1]; omega) rfl rfl rfl rfl ?_
 change Ql _ _ _ _ _ _; refine zP (QE rfl rfl rfl) ?_; refine Xk ?_; refine Qc ?_
 exact ⟨⟨k + 1, hlt, trivial⟩, Qa rfl (Ya ⟨(Xe (by dsimp only; omega)), rfl, trivial⟩) ⟨(cgS (by rw [← Qf9 hrC hxx]; exact congrArg (· ++ [_]) rfl)), rfl, rfl, (cgT (by rw [List.take_add_one, hxx]; simp [W1])), rfl, rfl, trivial⟩, by dsimp only; omega⟩
theorem Qk9 (u : List Nm) (rs : List Ru) (h : QaG u rs) : FC Tryz.prog 215 [XN u, rus rs] (.tup [.el [XN u, hrs (rs.map (YL u))], i64 0]) := by
 refine Qe [4, 5] Tryz.func215 rfl rfl 33 Tryz.ntmps215 (Nat.le_of_ble_eq_true rfl) ?_
 intro E hN
 refine X7 0 rfl (fun hl0 => ?_)
 refine Wz ?_
 refine Qo (fun x : {k : Nat // k ≤ (u).length ∧ True} => ⟨[(0, XN u), (1, rus rs), (10, XN u), (11, i64 u.length), (12, i64 (x.1 : Nat))], [], 0⟩) (fun x => (u).length - x.1) (⟨0, Nat.zero_le _, by simp⟩) ?_ ?_
 ·
  exact Qa rfl (Ya ⟨(Xe (by simp)), rfl, (Xr trivial)⟩) trivial
 rintro ⟨k, hk, hg⟩
 dsimp only
 refine QA ?_
 refine zq ?_ ?_ <;> intro h9
 ·
  have hlt : k < (u).length := by simpa using h9
  obtain ⟨x, hx⟩ := Qr hlt
  refine QA ?_; refine zP (Qf rfl rfl rfl k rfl _ (Qu hx) rfl) ?_; refine Xk ?_; refine zP (Qb (Qbm x) rfl rfl rfl) ?_
  refine QC ?_
  refine zq ?_ ?_ <;> intro h12
  ·
   have e := n1 h12
   rw [h.v x (List.mem_of_getElem? hx)] at e; cases e
  refine Qz ?_; refine Qc ?_
  exact ⟨⟨k + 1, hlt, trivial⟩, Qa rfl (Yg ⟨(Xe (by dsimp only; omega)), rfl, trivial⟩) trivial, by dsimp only; omega⟩
 refine QA ?_; refine zP (Qb (Kr u) rfl rfl rfl) ?_; refine QC ?_
 refine zq ?_ ?_ <;> intro h14
 ·
  have e := n1 h14
  rw [h.s] at e; cases e
 refine Wz ?_; refine QcP hN 0 (Qob u rs h) (.fn _ _ _ _ rfl rfl) rfl rfl rfl rfl rfl rfl rfl rfl rfl rfl rfl ?_; refine Xj ?_
 refine zq ?_ ?_ <;> intro h18
 ·
  cases h18
 refine QC ?_; refine QF (WT 8 0 rfl rfl rfl rfl) ?_; refine Qz ?_; refine zQ ?_
 rfl
theorem Qjq (u : List Nm) (rs : List Ru) (h : QaG u rs) (s : List Nm) : FC Tryz.prog 232 [.el [XN u, hrs (rs.map (YL u))], .sl ((Jw u s).map bv1) none, .fn 233 []] (.tup [.sl ((Jw u (Jk rs rs.length s)).map bv1) none, .bot]) := by
 refine Qe [6, 7] Tryz.func232 rfl rfl 56 Tryz.ntmps232 (Nat.le_of_ble_eq_true rfl) ?_
 intro E hN
 have hn := h.n
 have hm := h.m
 refine Jy ?_
 refine Qib hN rfl rfl rfl rfl rfl (by simp [Jw]; omega) rfl rfl rfl rfl ?_
 refine Xk ?_; refine QlG hN rfl rfl _ rfl (by simp) _ rfl (by simp) rfl rfl rfl rfl ?_; refine Xk ?_
 refine QF (W6 rfl 9 243 2 rfl) ?_
 refine Qo (fun z : {q : List Nm × List Tk // Jk rs rs.length q.1 = Jk rs rs.length s ∧ q.2.length + QdM rs q.1 ≤ rs.length} => ⟨[(0, .el [XN u, hrs (rs.map (YL u))]), (2, .fn 233 []), (8, .own 0 u.length), (9, .own 1 z.1.2.length)], [(0, .arr 4 1 ((Jw u z.1.1).map bv1)), (1, .arr 243 2 (z.1.2.map tkC))], 2⟩) (fun z => QdM rs z.1.1) (⟨(s, []), rfl, by simpa using Qfu⟩) ?_ ?_
 ·
  exact Qa rfl (Yv ⟨(cgO (by simp [Jw])), rfl, (Xr trivial)⟩) ⟨rfl, rfl, (X0 (fun _ => rfl) _), rfl, rfl, (X0 (fun _ => rfl) _), trivial⟩
 rintro ⟨⟨t, sts⟩, hg, hlen⟩
 dsimp only at hg hlen ⊢
 refine Xj ?_
 refine Yr (⟨[(0, .el [XN u, hrs (rs.map (YL u))]), (2, .fn 233 []), (8, .own 0 u.length), (9, .own 1 sts.length), (10, .ptr 2 0)], [(0, .arr 4 1 ((Jw u t).map bv1)), (1, .arr 243 2 (sts.map tkC)), (2, .var 243 [i64 (QgG u (YT (Ja t) rs 0)).1, i64 (QgG u (YT (Ja t) rs 0)).2])], 3⟩) ?_ ?_
 ·
  refine Qx ?_; refine zP (QE rfl rfl rfl) ?_; refine Xk ?_
  refine Qo (fun x : {k : Nat // k ≤ (rs).length ∧ YT (Ja t) (rs.drop k) k = YT (Ja t) rs 0} => ⟨[(0, .el [XN u, hrs (rs.map (YL u))]), (2, .fn 233 []), (8, .own 0 u.length), (9, .own 1 sts.length), (10, .ptr 2 0), (23, hrs (rs.map (YL u))), (24, i64 rs.length), (25, i64 (x.1 : Nat))], [(0, .arr 4 1 ((Jw u t).map bv1)), (1, .arr 243 2 (sts.map tkC)), (2, .var 243 [i64 (-1), i64 0])], 3⟩) (fun x => (rs).length - x.1) (⟨0, Nat.zero_le _, by simp⟩) ?_ ?_
  ·
   exact Qa rfl (Yg (Yv ⟨(Xe (by simp)), rfl, (Xr trivial)⟩)) ⟨rfl, rfl, (X0 (fun _ => rfl) _), rfl, rfl, (X0 (fun _ => rfl) _), rfl, rfl, rfl, trivial⟩
  rintro ⟨k, hk, hg2⟩
  dsimp only
  refine QA ?_
  refine zq ?_ ?_ <;> intro h25
  rotate_left
  ·
   have hge : (rs).length ≤ k := by simpa using h25
   refine YG ?_
   exact Qa rfl (Yg (Xr trivial)) ⟨rfl, rfl, (X0 (fun _ => rfl) _), rfl, rfl, (X0 (fun _ => rfl) _), (by first | exact cgP (by rw [Qis hg2 hge]; rfl) | exact cgP (by rw [Qip hg2 hx hf]; rfl)), rfl, rfl, trivial⟩
  have hlt : k < (rs).length := by simpa using h25
  obtain ⟨x, hx⟩ := Qr hlt
  have hxr := h.r x (List.mem_of_getElem? hx)
  have hfe := QkC (t := t) hxr.2.1 hxr.2.2
  refine Xk ?_; refine zP (Qf rfl rfl rfl k rfl _ (Qu (Qg6 (YL u) hx)) rfl) ?_; refine Jy ?_
  refine zP (Y2 (QjU _) rfl rfl rfl rfl) ?_; refine Qx ?_
  refine zP (QhC (QjM (YL u x) (Jw u t) (by rw [Qai]; exact Wl hxr.2.2) (fun i hi => by obtain ⟨y, hy, rfl⟩ := List.mem_map.1 hi; rw [Qai]; exact Wl (hxr.2.1 y hy))) rfl rfl rfl (.cons (.fz rfl) (.cons (.own rfl (by simp [Jw]) (Q2 QfF _) (QdI _)) .nil))) ?_
  refine QC ?_
  refine zq ?_ ?_ <;> intro h31
  ·
   have hf : Ja t x = true := by rw [← hfe]; exact h31
   refine Jf ?_; refine YG ?_
   exact Qa rfl (Yg (Xr trivial)) ⟨rfl, rfl, (X0 (fun _ => rfl) _), rfl, rfl, (X0 (fun _ => rfl) _), (by first | exact cgP (by rw [Qis hg2 hge]; rfl) | exact cgP (by rw [Qip hg2 hx hf]; rfl)), rfl, rfl, trivial⟩
  have hf : Ja t x = false := by rw [← hfe]; exact h31
  refine Qz ?_; refine Qc ?_
  exact ⟨⟨k + 1, hlt, QnN hg2 hx hf⟩, Qa rfl (Yg (Ya ⟨(Xe (by dsimp only; omega)), rfl, trivial⟩)) ⟨rfl, rfl, (X0 (fun _ => rfl) _), rfl, rfl, (X0 (fun _ => rfl) _), rfl, rfl, rfl, trivial⟩, by dsimp only; omega⟩
 refine QA ?_; refine zP (QoG rfl rfl rfl rfl) ?_; refine zN ?_
 refine zq ?_ ?_ <;> intro h44
 ·
  have hno := Qn2 h44
  refine Xj ?_; refine QF (Yt 6 0 rfl rfl (by simp [Jw]) (Q2 QfF _) (QdI _) rfl) ?_
  refine QF (st' := ⟨[(6, .sl ((Jw u t).map bv1) none)], [], 2⟩) (Qa rfl (Xr trivial) trivial) ?_; refine zR ?_
  rw [← hg, Y0 (Wi hno)]
 obtain ⟨kk, r, hr⟩ := QlT h44
 obtain ⟨hrf, hrm⟩ := Ky _ rs 0 hr
 have hrt := (h.r r hrm).2.2
 rw [hr]
 refine Xk ?_; refine zP (Qjz rfl rfl rfl rfl (by simp [Jw]) (KV u r.t) rfl (Wl hrt)) ?_
 refine QfN hN rfl rfl (Jw u t) rfl (by simp [Jw]) (KV u r.t) rfl (by rw [Qai]; exact Wl hrt) rfl rfl rfl rfl ?_
 refine Qz ?_; refine zP (QJ rfl rfl rfl rfl (by exact rfl) (by decide) (by decide)) ?_
 refine X1 hN rfl rfl rfl (by simp) rfl rfl rfl (by simp [W1]; omega) rfl rfl rfl rfl ?_
 refine zS ?_; refine Qc ?_
 exact ⟨⟨(t ++ [r.t], sts ++ [QgG u (some (kk, r))]), (Qml hr).trans hg, by have := Ws hrm hrf; simp; omega⟩, Qa rfl (Ya ⟨(cgO (by simp [W1])), rfl, trivial⟩) ⟨(cgA (by rw [QgJ h.w hrt])), rfl, (X0 (fun _ => rfl) _), (cgA (by simp [W1, tkC])), rfl, (X0 (fun _ => rfl) _), trivial⟩, by exact Ws hrm hrf⟩
theorem Qjx (u : List Nm) (rs : List Ru) (h : QaG u rs) (s : List Nm) : FC Tryz.prog 218 [.el [XN u, hrs (rs.map (YL u))], .sl ((Jw u s).map bv1) none] (.sl ((Jw u (Jk rs rs.length s)).map bv1) none) := by
 refine Qe [4] Tryz.func218 rfl rfl 14 Tryz.ntmps218 (Nat.le_of_ble_eq_true rfl) ?_
 intro E hN
 refine Jf ?_; refine zP (Qb (Qjq u rs h s) rfl rfl rfl) ?_; refine XM ?_; refine zQ ?_
 rfl
theorem QfZ (u : List Nm) (rs : List Ru) (h : QaG u rs) (s : List Nm) (h1 : Qn s = true) (h2 : ∀ x ∈ s, x ∈ u) : FC Tryz.prog 195 [XN u, rus rs, XN s] (.tup [XN (YE u rs s), i64 0]) := by
 refine Qe [6, 7] Tryz.func195 rfl rfl 34 Tryz.ntmps195 (Nat.le_of_ble_eq_true rfl) ?_
 intro E hN
 refine Jy ?_; refine zP (Qb (Qk9 u rs h) rfl rfl rfl) ?_; refine Jn ?_
 refine zq ?_ ?_ <;> intro h7
 ·
  cases h7
 refine QA ?_; refine zP (Qb (Qon u h.n h.w _ s h1 h2) rfl rfl rfl) ?_; refine Jn ?_
 refine zq ?_ ?_ <;> intro h11
 ·
  cases h11
 refine Xk ?_; refine zP (Qb (Qjx u rs h s) rfl rfl rfl) ?_
 refine zP (Qb (Qmi u h.n _ (Jw u (Jk rs rs.length s)) Qai) rfl rfl rfl) ?_; refine QC ?_; refine zQ ?_
 rw [Qk0]; rfl
end Go.Proofs.YtnkkokmmeplbgaaGreat
