/-
  Contracts: closing names under rules: the system, its chain,
-/
import Derived.Test.YtnkkokmmeplbgaaGreatB19
import Derived.Test.YtnkkokmmeplbgaaGreatA4
namespace Go.Proofs.YtnkkokmmeplbgaaGreat
set_option maxRecDepth 100000
set_option maxHeartbeats 1000000
open Go.RowKit
structure QdM (u : List Nm) (rs : List Ru) : Prop where
 s : Qt u = true
 v : ∀ x ∈ u, XP x = true
 n : u.length ≤ 1000
 m : rs.length ≤ 1000
 r : ∀ r ∈ rs, Qt r.i = true ∧ (∀ x ∈ r.i, x ∈ u) ∧ r.t ∈ u
theorem QfC : ∀ (u l : List Nm), l.Nodup → (∀ x ∈ l, x ∈ u) → l.length ≤ u.length
 | [], l, _, h => by
  cases l with
  | nil => simp
  | cons x l => exact absurd (h x (List.mem_cons_self ..)) (by simp)
 | y :: u, l, hn, h => by
  by_cases hy : y ∈ l
  ·have h1 := QfC u (l.erase y) (hn.erase y) (fun x hx => by
    have h2 := (List.Nodup.mem_erase_iff hn).1 hx
    rcases List.mem_cons.1 (h x h2.2) with e | e
    ·exact absurd e h2.1
    exact e)
   rw [List.length_erase_of_mem hy] at h1
   simp only [List.length_cons]; omega
  have h1 := QfC u l hn (fun x hx => by
   rcases List.mem_cons.1 (h x hx) with e | e
   ·subst e; exact absurd hx hy
   exact e)
  simp only [List.length_cons]; omega
section
variable {u : List Nm} {rs : List Ru} {r : Ru}
theorem QdM.w (h : QdM u rs) : pw u := XU h.s
theorem QdM.len (h : QdM u rs) (hr : r ∈ rs) : r.i.length ≤ 1000 := by
 obtain ⟨h1, h2, -⟩ := h.r r hr
 have := QfC u r.i ((XU h1).imp (fun h => Qdh h)) h2
 have := h.n
 omega
end
theorem QhK (l : List Bool) : ∀ e ∈ l.map Xw, fzs e = some e := fun e he => by
 obtain ⟨x, -, rfl⟩ := List.mem_map.1 he
 rfl
theorem Qj1 (b : Bool) : okE 1 (Xw b) = true := rfl
theorem Qvo (n : Nat) : okE 1 (nv1 n) = true := rfl
theorem Qu5 (h : List Nat × Nat) : okE 2 (hrC h) = true := rfl
theorem QkC (x : AV) : JI 1 1 [x] = [[x]] := rfl
theorem QcT (x y : AV) : JI 2 1 [x, y] = [[x, y]] := rfl
theorem QrT (u : List Nm) : List.replicate u.length false = Y3 u [] := by
 apply List.ext_getElem (by simp [Y3])
 intro i h1 h2
 simp [Y3, X6]
theorem QrR {u s : List Nm} {k : Nat} {x : Nm} (hs : pw u) (hx : s[k]? = some x) (hu : x ∈ u) : (Y3 u (s.take k)).set (Qbx u x) true = Y3 u (s.take (k + 1)) := by
 rw [Qlu hs hu, List.take_add_one, hx]; rfl
theorem cgS {tt : TypeId} {a : AV} {es es' : List (List AV)} {tk : Option Nat} (h : es = es') : some (Qs.var tt [a, .sl es tk]) = some (Qs.var tt [a, .sl es' tk]) := by rw [h]
theorem cgF {tt : TypeId} {b : AV} {es es' : List (List AV)} {tk : Option Nat} (h : es = es') : some (Qs.var tt [.sl es tk, b]) = some (Qs.var tt [.sl es' tk, b]) := by rw [h]
theorem cgP {tt : TypeId} {a b : Int} {p : Int × Int} (h : (a, b) = p) : some (Qs.var tt [i64 a, i64 b]) = some (Qs.var tt [i64 p.1, i64 p.2]) := by rw [← h]
theorem QlZ {α β : Type} (f : α → β) {l : List α} {k : Nat} {x : α} (hx : l[k]? = some x) : (l.map f)[k]? = some (f x) := by rw [List.getElem?_map, hx]; rfl
theorem Qkw {α β : Type} (f : α → β) {l : List α} {k : Nat} {x : α} (hx : l[k]? = some x) : (l.take k).map f ++ [f x] = (l.take (k + 1)).map f := by rw [List.take_add_one, hx]; simp
theorem Qu8 {u : List Nm} {o : Option (Nat × Ru)} (h : ((Qll u o).1 == -1 && (Qll u o).2 == 0) = true) : o = none := by
 cases o with
 | none => rfl
 | some q =>
  obtain ⟨k, r⟩ := q
  simp only [Qll, Bool.and_eq_true, beq_iff_eq] at h
  omega
theorem Qsr {u : List Nm} {o : Option (Nat × Ru)} (h : ((Qll u o).1 == -1 && (Qll u o).2 == 0) = false) : ∃ k r, o = some (k, r) := by
 cases o with
 | none => cases h
 | some q => exact ⟨q.1, q.2, rfl⟩
theorem Qmi {q : Ru → Bool} {l : List Ru} {k : Nat} {x : Ru} {v : Option (Nat × Ru)} (hg : Kl q (l.drop k) k = v) (hx : l[k]? = some x) (h : q x = false) : Kl q (l.drop (k + 1)) (k + 1) = v := by
 rw [← hg, XC hx]
 conv => rhs; unfold Kl
 rw [h]; rfl
theorem Qjr {q : Ru → Bool} {l : List Ru} {k : Nat} {x : Ru} {v : Option (Nat × Ru)} (hg : Kl q (l.drop k) k = v) (hx : l[k]? = some x) (h : q x = true) : v = some (k, x) := by
 rw [← hg, XC hx]
 unfold Kl
 rw [h]; rfl
theorem QnR {q : Ru → Bool} {l : List Ru} {k : Nat} {v : Option (Nat × Ru)} (hg : Kl q (l.drop k) k = v) (hge : l.length ≤ k) : v = none := by
 rw [← hg, List.drop_of_length_le hge]; rfl
instance : QnD Tryz.prog 243 := ⟨by kernel_rfl, by kernel_rfl, by kernel_rfl, by kernel_rfl⟩
theorem Qvy (u : List Nm) (hu : u.length ≤ 1000) (hs : pw u) (R : AV) (s : List Nm) (h1 : Qt s = true) (h2 : ∀ x ∈ s, x ∈ u) : FC Tryz.prog 216 [.el [XS u, R], XS s] (.tup [.sl ((Y3 u s).map Xw) none, i64 0]) := by
 refine Qh [4, 5] Tryz.func216 rfl rfl 35 Tryz.ntmps216 (Nat.le_of_ble_eq_true rfl) ?_
 intro E hN;refine Jq 1 rfl (fun hl1 => ?_);refine X3 ?_;refine zP (Qd (Qa2 s) rfl rfl rfl) ?_;refine QH ?_
 refine zq ?_ ?_ <;> intro h3
 ·have e := n1 h3
  rw [h1] at e; cases e
 refine Xo ?_;refine Qnt hN rfl rfl rfl rfl rfl (by simp; omega) rfl rfl rfl rfl ?_;rw [List.length_map, QrT];refine Xs ?_;refine Qm (fun x : {k : Nat // k ≤ (s).length ∧ True} => ⟨[(0, .el [XS u, R]), (6, .own 0 u.length), (19, XS s), (20, i64 s.length), (21, i64 (x.1 : Nat))], [(0, .arr 4 1 ((Y3 u (s.take x.1)).map Xw))], 1⟩) (fun x => (s).length - x.1) (⟨0, Nat.zero_le _, by simp⟩) ?_ ?_
 ·exact Qa rfl (JZ ⟨(Y6 (by simp)), rfl, (XE trivial)⟩) ⟨rfl, rfl, (Q4 (fun _ => rfl) _), trivial⟩
 rintro ⟨k, hk, hg⟩;dsimp only;refine Qy ?_
 refine zq ?_ ?_ <;> intro h14
 rotate_left
 ·have hge : s.length ≤ k := by simpa using h14
  rw [List.take_of_length_le hge];refine Xg ?_;refine Qx (Xl 4 0 rfl rfl (by simp [Y3]) (QP Qj1 _) (QhK _) rfl) ?_;refine zR ?_
  rfl
 have hlt : k < (s).length := by simpa using h14
 obtain ⟨x, hx⟩ := Qq hlt;refine Qy ?_;refine zP (Qf rfl rfl rfl k rfl _ (Qi hx) rfl) ?_;refine Xg ?_;refine zP (Qd (Qqq u (by omega) hs R x (h2 x (List.mem_of_getElem? hx))) rfl rfl rfl) ?_;refine Xo ?_
 refine zq ?_ ?_ <;> intro h18
 ·have e := of_decide_eq_true h18
  omega
 refine QC ?_;refine zP (YD rfl rfl rfl rfl (by simp [Y3]) (Qbx u x) rfl (Qb6 (h2 x (List.mem_of_getElem? hx)))) ?_;refine Qa9 hN rfl rfl (Y3 u (s.take k)) rfl (by simp [Y3]) (Qbx u x) rfl (by rw [Qde]; exact Qb6 (h2 x (List.mem_of_getElem? hx))) rfl rfl rfl rfl ?_;refine QC ?_;refine Qb ?_;exact ⟨⟨k + 1, hlt, trivial⟩, Qa rfl (YO ⟨X5, rfl, trivial⟩) ⟨(cgA (by rw [QrR hs hx (h2 x (List.mem_of_getElem? hx))])), rfl, (Q4 (fun _ => rfl) _), trivial⟩, by dsimp only; omega⟩
theorem QsT (u : List Nm) (hu : u.length ≤ 1000) (R : AV) (bits : List Bool) (hb : bits.length = u.length) : FC Tryz.prog 217 [.el [XS u, R], .sl (bits.map Xw) none] (XS (Qca u bits)) := by
 refine Qh [4] Tryz.func217 rfl rfl 29 Tryz.ntmps217 (Nat.le_of_ble_eq_true rfl) ?_
 intro E hN;refine Xk ?_;refine Kp hN rfl rfl rfl rfl rfl rfl ?_;refine Xs ?_;refine Qm (fun x : {k : Nat // k ≤ (bits).length ∧ True} => ⟨[(0, .el [XS u, R]), (5, .own 0 (Qca (u.take x.1) (bits.take x.1)).length), (9, .sl (bits.map Xw) none), (10, i64 bits.length), (11, i64 (x.1 : Nat))], [(0, .arr 9 1 ((Qca (u.take x.1) (bits.take x.1)).map Wz))], 1⟩) (fun x => (bits).length - x.1) (⟨0, Nat.zero_le _, by simp⟩) ?_ ?_
 ·exact Qa rfl (JZ ⟨(Y6 (by simp)), rfl, (XE trivial)⟩) ⟨rfl, rfl, (Q4 (fun _ => rfl) _), trivial⟩
 rintro ⟨k, hk, hg⟩;dsimp only;refine Qy ?_
 refine zq ?_ ?_ <;> intro h10
 rotate_left
 ·have hge : bits.length ≤ k := by simpa using h10
  rw [QtI (by omega) hb];refine Xk ?_;refine Qx (Xl 4 0 rfl rfl (by simp) (QP J4 _) (Kw _) rfl) ?_;refine zR ?_
  rfl
 have hlt : k < (bits).length := by simpa using h10
 obtain ⟨x, hx⟩ := Qq hlt;obtain ⟨z, hz⟩ := Qq (show k < u.length by omega);refine Xk ?_;refine zP (Qf rfl rfl rfl k rfl _ (Qi hx) rfl) ?_;refine Xo ?_
 refine zq ?_ ?_ <;> intro h12
 rotate_left
 ·have hbz : x = false := h12
  subst hbz
  have hst := Qhe hz hx
  refine QC ?_;refine Qb ?_;exact ⟨⟨k + 1, hlt, trivial⟩, Qa rfl (XE ⟨(cgO (by rw [hst]; first | (simp; done) | (simp [Qz]; done))), rfl, (Yf ⟨X5, rfl, trivial⟩)⟩) ⟨(cgA (by rw [hst]; first | (simp; done) | (simp [Qz, Wz]; done))), rfl, (Q4 (fun _ => rfl) _), trivial⟩, by dsimp only; omega⟩
 have hbz : x = true := h12
 subst hbz
 have hst := Qhe hz hx
 refine Xg ?_;refine zP (Qf rfl rfl rfl k rfl _ (Qi hz) rfl) ?_;refine zL ?_;refine zP (QG rfl rfl rfl rfl (by exact rfl) (by decide) (by decide)) ?_;refine QS hN rfl rfl rfl (by simp) rfl rfl rfl (by have := QnU (u.take k) (bits.take k); simp [Qz] at this ⊢; omega) rfl rfl rfl rfl ?_;refine Qy ?_;refine Qb ?_
 exact ⟨⟨k + 1, hlt, trivial⟩, Qa rfl (XE ⟨(cgO (by rw [hst]; first | (simp; done) | (simp [Qz]; done))), rfl, (Yf ⟨X5, rfl, trivial⟩)⟩) ⟨(cgA (by rw [hst]; first | (simp; done) | (simp [Qz, Wz]; done))), rfl, (Q4 (fun _ => rfl) _), trivial⟩, by dsimp only; omega⟩
theorem Qvg (u : List Nm) (rs : List Ru) (h : QdM u rs) : GC Tryz.prog 230 [.ptr Qe 0, rus rs] [(Qe, .var 227 [XS u, .p (.slice none 0 0)])] (i64 0) [(Qe, .var 227 [XS u, hrs (rs.map (W7 u))])] := by
 refine XA [4] Tryz.func230 rfl rfl 59 Tryz.ntmps230 (Nat.le_of_ble_eq_true rfl) ?_
 intro E hN;refine Jq 1 rfl (fun hl1 => ?_);refine Jx ?_;refine Qx (Yh rfl Qe 1 239 2 rfl rfl rfl) ?_;refine Qm (fun x : {k : Nat // k ≤ (rs).length ∧ True} => ⟨[(0, .ptr Qe 0), (11, rus rs), (12, i64 rs.length), (13, i64 (x.1 : Nat))], [(Qe, .var 227 [XS u, .sl (((rs.map (W7 u)).take x.1).map hrC) (some 0)]), (0, .tok 239 2 ((rs.map (W7 u)).take x.1).length)], 1⟩) (fun x => (rs).length - x.1) (⟨0, Nat.zero_le _, by simp⟩) ?_ ?_
 ·exact Qa rfl (Yf ⟨(Y6 (by simp)), rfl, (XE trivial)⟩) ⟨rfl, rfl, rfl, rfl, rfl, rfl, trivial⟩
 rintro ⟨k, hk, hg⟩;dsimp only;refine Qy ?_
 refine zq ?_ ?_ <;> intro h8
 rotate_left
 ·have hge : rs.length ≤ k := by simpa using h8
  rw [List.take_of_length_le (show (rs.map (W7 u)).length ≤ k by simpa using hge)];refine QH ?_;refine Qx (QlC Qe 1 rfl rfl) ?_;refine QD ?_;refine Qg ?_;change (Q7 _ _).fzt = some _ ∧ _;refine Qcd rfl ?_ rfl ?_ rfl
  all_goals rfl
 have hlt : k < (rs).length := by simpa using h8
 obtain ⟨x, hx⟩ := Qq hlt
 have hr := h.r x (List.mem_of_getElem? hx)
 have hxx := QlZ (W7 u) hx
 refine Qy ?_;refine zP (Qf rfl rfl rfl k rfl _ (Qi hx) rfl) ?_;refine X3 ?_;refine zP (Qd (Qa2 x.i) rfl rfl rfl) ?_;refine QH ?_
 refine zq ?_ ?_ <;> intro h15
 ·have e := n1 h15
  rw [hr.1] at e; cases e
 refine Xk ?_;refine zP (QfA (Qqq u (by have := h.n; omega) h.w _ x.t hr.2.2) rfl rfl rfl (.cons (.ptr rfl rfl rfl) (.cons (.fz rfl) .nil))) ?_;refine WV ?_;refine Qx (Yh rfl 2 0 3 1 rfl rfl rfl) ?_
 refine Qm (fun z : {k : Nat // k ≤ (x.i).length ∧ True} => ⟨[(0, .ptr Qe 0), (6, .ptr 1 0), (7, .ptr 2 0), (27, XS x.i), (28, i64 x.i.length), (29, i64 (z.1 : Nat)), (11, rus rs), (12, i64 rs.length), (13, i64 (k : Nat))], [(Qe, .var 227 [XS u, .sl (((rs.map (W7 u)).take k).map hrC) (some 0)]), (0, .tok 239 2 ((rs.map (W7 u)).take k).length), (1, .var 188 (ruC x)), (2, .var 239 [.sl (((x.i.map (Qbx u)).take z.1).map nv1) (some 3), i64 (Qbx u x.t : Nat)]), (3, .tok 3 1 ((x.i.map (Qbx u)).take z.1).length)], 4⟩) (fun z => x.i.length - z.1) (⟨0, Nat.zero_le _, by simp⟩) ?_ ?_
 ·exact Qa rfl (YO ⟨(Y6 (by simp)), rfl, (YO trivial)⟩) ⟨rfl, rfl, rfl, rfl, rfl, rfl, rfl, rfl, rfl, rfl, rfl, rfl, rfl, rfl, rfl, trivial⟩
 rintro ⟨j, hj, -⟩;dsimp only;refine Qy ?_
 refine zq ?_ ?_ <;> intro h34
 ·have hjl : j < x.i.length := by simpa using h34
  obtain ⟨y, hy⟩ := Qq hjl
  have hxl := h.len (List.mem_of_getElem? hx)
  have hyu := hr.2.1 y (List.mem_of_getElem? hy)
  have hyy := QlZ (Qbx u) hy
  refine Qy ?_;refine zP (Qf rfl rfl rfl j rfl _ (Qi hy) rfl) ?_;refine Xg ?_;refine zP (QfA (Qqq u (by have := h.n; omega) h.w _ y hyu) rfl rfl rfl (.cons (.ptr rfl rfl rfl) (.cons (.fz rfl) .nil))) ?_;refine Xo ?_
  refine zq ?_ ?_ <;> intro h38
  ·have e := of_decide_eq_true h38
   omega
  refine Qy ?_;refine zP (QG rfl rfl rfl rfl (by exact rfl) (by decide) (by decide)) ?_;refine QM hN rfl rfl rfl (by simp) rfl rfl (QP Qvo _) rfl (by have := h.len (List.mem_of_getElem? hx); simp [QkC]; omega) rfl rfl rfl rfl ?_;refine Xk ?_;refine Qb ?_;exact ⟨⟨j + 1, hjl, trivial⟩, Qa rfl (YO (XE ⟨X5, rfl, (JZ trivial)⟩)) ⟨rfl, rfl, rfl, rfl, rfl, rfl, rfl, rfl, rfl, (cgF (by rw [← Qkw nv1 hyy]; exact congrArg (· ++ [_]) rfl)), rfl, rfl, (cgT (by rw [List.take_add_one, hyy]; simp [QkC])), rfl, rfl, trivial⟩, by dsimp only; omega⟩
 have hje : x.i.length ≤ j := by simpa using h34
 rw [List.take_of_length_le (show (x.i.map (Qbx u)).length ≤ j by simpa using hje)];refine Xo ?_
 refine zq ?_ ?_ <;> intro h48
 ·have e := of_decide_eq_true h48
  omega
 refine zW ?_;refine Qdz [0, 1, 2, 3, 4, 5, 6] 7 [8, 9, 10] rfl (by kernel_rfl) (by kernel_rfl) ?_;refine Xk ?_;refine zp (QG rfl rfl rfl rfl (by exact rfl) (by decide) (by decide)) ?_;change FK _ _ _ _ _ _;refine QjS hN rfl rfl rfl (by simp) rfl rfl (QP Qu5 _) rfl (by have := h.m; simp [QcT]; omega) rfl rfl rfl rfl ?_;change Q3 _ _ _ _ _ _;refine Xg ?_;refine Qb ?_
 exact ⟨⟨k + 1, hlt, trivial⟩, Qa rfl (JZ ⟨X5, rfl, trivial⟩) ⟨(cgS (by rw [← Qkw hrC hxx]; exact congrArg (· ++ [_]) rfl)), rfl, rfl, (cgT (by rw [List.take_add_one, hxx]; simp [QcT])), rfl, rfl, trivial⟩, by dsimp only; omega⟩
theorem QrB (u : List Nm) (rs : List Ru) (h : QdM u rs) : FC Tryz.prog 215 [XS u, rus rs] (.tup [.el [XS u, hrs (rs.map (W7 u))], i64 0]) := by
 refine Qh [4, 5] Tryz.func215 rfl rfl 33 Tryz.ntmps215 (Nat.le_of_ble_eq_true rfl) ?_
 intro E hN;refine Jq 0 rfl (fun hl0 => ?_);refine WV ?_;refine Qm (fun x : {k : Nat // k ≤ (u).length ∧ True} => ⟨[(0, XS u), (1, rus rs), (10, XS u), (11, i64 u.length), (12, i64 (x.1 : Nat))], [], 0⟩) (fun x => (u).length - x.1) (⟨0, Nat.zero_le _, by simp⟩) ?_ ?_
 ·exact Qa rfl (JZ ⟨(Y6 (by simp)), rfl, (XE trivial)⟩) trivial
 rintro ⟨k, hk, hg⟩;dsimp only;refine Qy ?_
 refine zq ?_ ?_ <;> intro h9
 ·have hlt : k < (u).length := by simpa using h9
  obtain ⟨x, hx⟩ := Qq hlt;refine Qy ?_;refine zP (Qf rfl rfl rfl k rfl _ (Qi hx) rfl) ?_;refine Xk ?_;refine zP (Qd (QeK x) rfl rfl rfl) ?_;refine QH ?_
  refine zq ?_ ?_ <;> intro h12
  ·have e := n1 h12
   rw [h.v x (List.mem_of_getElem? hx)] at e; cases e
  refine QC ?_;refine Qb ?_;exact ⟨⟨k + 1, hlt, trivial⟩, Qa rfl (YO ⟨X5, rfl, trivial⟩) trivial, by dsimp only; omega⟩
 refine Qy ?_;refine zP (Qd (Qa2 u) rfl rfl rfl) ?_;refine QH ?_
 refine zq ?_ ?_ <;> intro h14
 ·have e := n1 h14
  rw [h.s] at e; cases e
 refine WV ?_;refine QgE hN 0 (Qvg u rs h) (.fn _ _ _ _ rfl rfl) rfl rfl rfl rfl rfl rfl rfl rfl rfl rfl rfl ?_;refine Xg ?_
 refine zq ?_ ?_ <;> intro h18
 ·cases h18
 refine QH ?_;refine Qx (Qau 8 0 rfl rfl rfl rfl) ?_;refine QC ?_;refine zQ ?_
 rfl
theorem Qpo (u : List Nm) (rs : List Ru) (h : QdM u rs) (s : List Nm) : FC Tryz.prog 232 [.el [XS u, hrs (rs.map (W7 u))], .sl ((Y3 u s).map Xw) none, .fn 233 []] (.tup [.sl ((Y3 u (Yk rs rs.length s)).map Xw) none, .bot]) := by
 refine Qh [6, 7] Tryz.func232 rfl rfl 56 Tryz.ntmps232 (Nat.le_of_ble_eq_true rfl) ?_
 intro E hN
 have hn := h.n
 have hm := h.m
 refine X3 ?_;refine Qnt hN rfl rfl rfl rfl rfl (by simp [Y3]; omega) rfl rfl rfl rfl ?_;refine Xk ?_;refine Qsg hN rfl rfl _ rfl (by simp) _ rfl (by simp) rfl rfl rfl rfl ?_;refine Xk ?_;refine Qx (Wd rfl 9 243 2 rfl) ?_
 refine Qm (fun z : {q : List Nm × List Tk // Yk rs rs.length q.1 = Yk rs rs.length s ∧ q.2.length + QbM rs q.1 ≤ rs.length} => ⟨[(0, .el [XS u, hrs (rs.map (W7 u))]), (2, .fn 233 []), (8, .own 0 u.length), (9, .own 1 z.1.2.length)], [(0, .arr 4 1 ((Y3 u z.1.1).map Xw)), (1, .arr 243 2 (z.1.2.map tkC))], 2⟩) (fun z => QbM rs z.1.1) (⟨(s, []), rfl, by simpa using Qe0⟩) ?_ ?_
 ·exact Qa rfl (Yf ⟨(cgO (by simp [Y3])), rfl, (XE trivial)⟩) ⟨rfl, rfl, (Q4 (fun _ => rfl) _), rfl, rfl, (Q4 (fun _ => rfl) _), trivial⟩
 rintro ⟨⟨t, sts⟩, hg, hlen⟩;dsimp only at hg hlen ⊢;refine Xg ?_;refine JT (⟨[(0, .el [XS u, hrs (rs.map (W7 u))]), (2, .fn 233 []), (8, .own 0 u.length), (9, .own 1 sts.length), (10, .ptr 2 0)], [(0, .arr 4 1 ((Y3 u t).map Xw)), (1, .arr 243 2 (sts.map tkC)), (2, .var 243 [i64 (Qll u (Kl (X2 t) rs 0)).1, i64 (Qll u (Kl (X2 t) rs 0)).2])], 3⟩) ?_ ?_
 ·refine Xs ?_;refine Qm (fun x : {k : Nat // k ≤ (rs).length ∧ Kl (X2 t) (rs.drop k) k = Kl (X2 t) rs 0} => ⟨[(0, .el [XS u, hrs (rs.map (W7 u))]), (2, .fn 233 []), (8, .own 0 u.length), (9, .own 1 sts.length), (10, .ptr 2 0), (23, hrs (rs.map (W7 u))), (24, i64 rs.length), (25, i64 (x.1 : Nat))], [(0, .arr 4 1 ((Y3 u t).map Xw)), (1, .arr 243 2 (sts.map tkC)), (2, .var 243 [i64 (-1), i64 0])], 3⟩) (fun x => (rs).length - x.1) (⟨0, Nat.zero_le _, by simp⟩) ?_ ?_
  ·exact Qa rfl (YO (Yf ⟨(Y6 (by simp)), rfl, (XE trivial)⟩)) ⟨rfl, rfl, (Q4 (fun _ => rfl) _), rfl, rfl, (Q4 (fun _ => rfl) _), rfl, rfl, rfl, trivial⟩
  rintro ⟨k, hk, hg2⟩;dsimp only;refine Qy ?_
  refine zq ?_ ?_ <;> intro h25
  rotate_left
  ·have hge : (rs).length ≤ k := by simpa using h25
   refine WR ?_;exact Qa rfl (YO (XE trivial)) ⟨rfl, rfl, (Q4 (fun _ => rfl) _), rfl, rfl, (Q4 (fun _ => rfl) _), (by first | exact cgP (by rw [QnR hg2 hge]; rfl) | exact cgP (by rw [Qjr hg2 hx hf]; rfl)), rfl, rfl, trivial⟩
  have hlt : k < (rs).length := by simpa using h25
  obtain ⟨x, hx⟩ := Qq hlt
  have hxr := h.r x (List.mem_of_getElem? hx)
  have hfe := Qq2 (t := t) hxr.2.1 hxr.2.2
  refine Xk ?_;refine zP (Qf rfl rfl rfl k rfl _ (Qi (QlZ (W7 u) hx)) rfl) ?_;refine X3 ?_;refine zP (Qar (Qqc _) rfl rfl rfl rfl) ?_;refine QD ?_;refine zP (QfA (Qp2 (W7 u x) (Y3 u t) (by rw [Qde]; exact Qb6 hxr.2.2) (fun i hi => by obtain ⟨y, hy, rfl⟩ := List.mem_map.1 hi; rw [Qde]; exact Qb6 (hxr.2.1 y hy))) rfl rfl rfl (.cons (.fz rfl) (.cons (.own rfl (by simp [Y3]) (QP Qj1 _) (QhK _)) .nil))) ?_;refine QH ?_
  refine zq ?_ ?_ <;> intro h31
  ·have hf : X2 t x = true := by rw [← hfe]; exact h31
   refine Xo ?_;refine WR ?_;exact Qa rfl (YO (XE trivial)) ⟨rfl, rfl, (Q4 (fun _ => rfl) _), rfl, rfl, (Q4 (fun _ => rfl) _), (by first | exact cgP (by rw [QnR hg2 hge]; rfl) | exact cgP (by rw [Qjr hg2 hx hf]; rfl)), rfl, rfl, trivial⟩
  have hf : X2 t x = false := by rw [← hfe]; exact h31
  refine QC ?_;refine Qb ?_;exact ⟨⟨k + 1, hlt, Qmi hg2 hx hf⟩, Qa rfl (YO (JZ ⟨X5, rfl, trivial⟩)) ⟨rfl, rfl, (Q4 (fun _ => rfl) _), rfl, rfl, (Q4 (fun _ => rfl) _), rfl, rfl, rfl, trivial⟩, by dsimp only; omega⟩
 refine Qy ?_;refine zP (QvT rfl rfl rfl rfl) ?_;refine zN ?_
 refine zq ?_ ?_ <;> intro h44
 ·have hno := Qu8 h44
  refine Xg ?_;refine Qx (Xl 6 0 rfl rfl (by simp [Y3]) (QP Qj1 _) (QhK _) rfl) ?_;refine Qx (st' := ⟨[(6, .sl ((Y3 u t).map Xw) none)], [], 2⟩) (Qa rfl (XE trivial) trivial) ?_;refine zR ?_;rw [← hg, K2 (Qan hno)]
 obtain ⟨kk, r, hr⟩ := Qsr h44;obtain ⟨hrf, hrm⟩ := Y0 _ rs 0 hr
 have hrt := (h.r r hrm).2.2
 rw [hr];refine Xk ?_;refine zP (YD rfl rfl rfl rfl (by simp [Y3]) (Qbx u r.t) rfl (Qb6 hrt)) ?_;refine Qa9 hN rfl rfl (Y3 u t) rfl (by simp [Y3]) (Qbx u r.t) rfl (by rw [Qde]; exact Qb6 hrt) rfl rfl rfl rfl ?_;refine QC ?_;refine zP (QG rfl rfl rfl rfl (by exact rfl) (by decide) (by decide)) ?_;refine QS hN rfl rfl rfl (by simp) rfl rfl rfl (by simp [QcT]; omega) rfl rfl rfl rfl ?_;refine zS ?_;refine Qb ?_
 exact ⟨⟨(t ++ [r.t], sts ++ [Qll u (some (kk, r))]), (Qnv hr).trans hg, by have := Kv hrm hrf; simp; omega⟩, Qa rfl (JZ ⟨(cgO (by simp [QcT])), rfl, trivial⟩) ⟨(cgA (by rw [Qlu h.w hrt])), rfl, (Q4 (fun _ => rfl) _), (cgA (by simp [QcT, tkC])), rfl, (Q4 (fun _ => rfl) _), trivial⟩, by exact Kv hrm hrf⟩
theorem QpC (u : List Nm) (rs : List Ru) (h : QdM u rs) (s : List Nm) : FC Tryz.prog 218 [.el [XS u, hrs (rs.map (W7 u))], .sl ((Y3 u s).map Xw) none] (.sl ((Y3 u (Yk rs rs.length s)).map Xw) none) := by
 refine Qh [4] Tryz.func218 rfl rfl 14 Tryz.ntmps218 (Nat.le_of_ble_eq_true rfl) ?_
 intro E hN;refine Xo ?_;refine zP (Qd (Qpo u rs h s) rfl rfl rfl) ?_;refine Xs ?_;refine zQ ?_
 rfl
theorem Qkj (u : List Nm) (rs : List Ru) (h : QdM u rs) (s : List Nm) (h1 : Qt s = true) (h2 : ∀ x ∈ s, x ∈ u) : FC Tryz.prog 195 [XS u, rus rs, XS s] (.tup [XS (KG u rs s), i64 0]) := by
 refine Qh [6, 7] Tryz.func195 rfl rfl 34 Tryz.ntmps195 (Nat.le_of_ble_eq_true rfl) ?_
 intro E hN;refine X3 ?_;refine zP (Qd (QrB u rs h) rfl rfl rfl) ?_;refine Jx ?_
 refine zq ?_ ?_ <;> intro h7
 ·cases h7
 refine Qy ?_;refine zP (Qd (Qvy u h.n h.w _ s h1 h2) rfl rfl rfl) ?_;refine Jx ?_
 refine zq ?_ ?_ <;> intro h11
 ·cases h11
 refine Xk ?_;refine zP (Qd (QpC u rs h s) rfl rfl rfl) ?_;refine zP (Qd (QsT u h.n _ (Y3 u (Yk rs rs.length s)) Qde) rfl rfl rfl) ?_;refine QH ?_;refine zQ ?_
 rw [Qrm]; rfl
end Go.Proofs.YtnkkokmmeplbgaaGreat
