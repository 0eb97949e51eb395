/-
  Contracts: closing names under rules: the system, its chain, Close.
  Contracts: closure.Close.
-/
import Derived.Test.YtaecccdkjmipeaaGreatB19
import Derived.Test.YtaecccdkjmipeaaGreatA4
namespace Go.Proofs.YtaecccdkjmipeaaGreat
open Go.RowKit
/-- a universe of names and rules over it -/
structure SysOk (u : List Nm) (rs : List Ru) : Prop where
 s : sortedB u = true
 v : ∀ x ∈ u, validB x = true
 n : u.length ≤ 1000
 m : rs.length ≤ 1000
 r : ∀ r ∈ rs, sortedB r.i = true ∧ (∀ x ∈ r.i, x ∈ u) ∧ r.t ∈ u
theorem le_of_sub : ∀ (u l : List Nm), l.Nodup → (∀ x ∈ l, x ∈ u) → l.length ≤ u.length
 | [], l, _, h => by
  cases l with
  | nil => simp
  | cons x l => exact absurd (h x (List.mem_cons_self ..)) (by simp)
 | y :: u, l, hn, h => by
  by_cases hy : y ∈ l
  ·have h1 := le_of_sub u (l.erase y) (hn.erase y) (fun x hx => by
    have h2 := (List.Nodup.mem_erase_iff hn).1 hx
    rcases List.mem_cons.1 (h x h2.2) with e | e
    ·exact absurd e h2.1
    exact e)
   rw [List.length_erase_of_mem hy] at h1
   simp only [List.length_cons]; omega
  have h1 := le_of_sub u l hn (fun x hx => by
   rcases List.mem_cons.1 (h x hx) with e | e
   ·subst e; exact absurd hx hy
   exact e)
  simp only [List.length_cons]; omega
section
variable {u : List Nm} {rs : List Ru} {r : Ru}
theorem SysOk.w (h : SysOk u rs) : pw u := sorted_pw h.s
theorem SysOk.len (h : SysOk u rs) (hr : r ∈ rs) : r.i.length ≤ 1000 := by
 obtain ⟨h1, h2, -⟩ := h.r r hr
 have := le_of_sub u r.i ((sorted_pw h1).imp (fun h => bl_ne2 h)) h2
 have := h.n
 omega
end
theorem fzs_bits (l : List Bool) : ∀ e ∈ l.map bv1, fzs e = some e := fun e he => by
 obtain ⟨x, -, rfl⟩ := List.mem_map.1 he
 rfl
theorem okE_bit (b : Bool) : okE 1 (bv1 b) = true := rfl
theorem okE_nv (n : Nat) : okE 1 (nv1 n) = true := rfl
theorem okE_hr (h : List Nat × Nat) : okE 2 (hrC h) = true := rfl
theorem chunk_nv (x : AV) : chunkA 1 1 [x] = [[x]] := rfl
theorem chunk_hr (x y : AV) : chunkA 2 1 [x, y] = [[x, y]] := rfl
theorem rep_memb (u : List Nm) : List.replicate u.length false = memb u [] := by
 apply List.ext_getElem (by simp [memb])
 intro i h1 h2
 simp [memb, hasB]
theorem memb_one {u s : List Nm} {k : Nat} {x : Nm} (hs : pw u) (hx : s[k]? = some x) (hu : x ∈ u) : (memb u (s.take k)).set (posN u x) true = memb u (s.take (k + 1)) := by
 rw [memb_set hs hu, List.take_add_one, hx]; rfl
theorem cgS {tt : TypeId} {a : AV} {es es' : List (List AV)} {tk : Option Nat} (h : es = es') : some (AObj.var tt [a, .sl es tk]) = some (AObj.var tt [a, .sl es' tk]) := by rw [h]
theorem cgF {tt : TypeId} {b : AV} {es es' : List (List AV)} {tk : Option Nat} (h : es = es') : some (AObj.var tt [.sl es tk, b]) = some (AObj.var tt [.sl es' tk, b]) := by rw [h]
theorem cgP {tt : TypeId} {a b : Int} {p : Int × Int} (h : (a, b) = p) : some (AObj.var tt [i64 a, i64 b]) = some (AObj.var tt [i64 p.1, i64 p.2]) := by rw [← h]
theorem mp_get {α β : Type} (f : α → β) {l : List α} {k : Nat} {x : α} (hx : l[k]? = some x) : (l.map f)[k]? = some (f x) := by rw [List.getElem?_map, hx]; rfl
theorem map_step {α β : Type} (f : α → β) {l : List α} {k : Nat} {x : α} (hx : l[k]? = some x) : (l.take k).map f ++ [f x] = (l.take (k + 1)).map f := by rw [List.take_add_one, hx]; simp
theorem fnd_no {u : List Nm} {o : Option (Nat × Ru)} (h : ((fndP u o).1 == -1 && (fndP u o).2 == 0) = true) : o = none := by
 cases o with
 | none => rfl
 | some q =>
  obtain ⟨k, r⟩ := q
  simp only [fndP, Bool.and_eq_true, beq_iff_eq] at h
  omega
theorem fnd_yes {u : List Nm} {o : Option (Nat × Ru)} (h : ((fndP u o).1 == -1 && (fndP u o).2 == 0) = false) : ∃ k r, o = some (k, r) := by
 cases o with
 | none => cases h
 | some q => exact ⟨q.1, q.2, rfl⟩
theorem fst_go {q : Ru → Bool} {l : List Ru} {k : Nat} {x : Ru} {v : Option (Nat × Ru)} (hg : fstR q (l.drop k) k = v) (hx : l[k]? = some x) (h : q x = false) : fstR q (l.drop (k + 1)) (k + 1) = v := by
 rw [← hg, drop_get hx]
 conv => rhs; unfold fstR
 rw [h]; rfl
theorem fst_hit {q : Ru → Bool} {l : List Ru} {k : Nat} {x : Ru} {v : Option (Nat × Ru)} (hg : fstR q (l.drop k) k = v) (hx : l[k]? = some x) (h : q x = true) : v = some (k, x) := by
 rw [← hg, drop_get hx]
 unfold fstR
 rw [h]; rfl
theorem fst_end {q : Ru → Bool} {l : List Ru} {k : Nat} {v : Option (Nat × Ru)} (hg : fstR q (l.drop k) k = v) (hge : l.length ≤ k) : v = none := by
 rw [← hg, List.drop_of_length_le hge]; rfl
instance : TPair Tryz.prog 216 := ⟨by kernel_rfl, by kernel_rfl, by kernel_rfl, by kernel_rfl⟩

set_option maxRecDepth 100000 in
set_option maxHeartbeats 1000000 in
theorem set_fc (u : List Nm) (hu : u.length ≤ 1000) (hs : pw u) (R : AV) (s : List Nm) (h1 : sortedB s = true) (h2 : ∀ x ∈ s, x ∈ u) : FC Tryz.prog 181 [.el [svs u, R], svs s] (.tup [.sl ((memb u s).map bv1) none, i64 0]) := by
 refine fc_of_awp [4, 5] Tryz.func181 rfl rfl 35 Tryz.ntmps181 (Nat.le_of_ble_eq_true rfl) ?_
 intro E hN
 refine a_lm 1 rfl (fun hl1 => ?_)
 refine rn9 ?_; refine zP (q_call (sorted_fc s) rfl rfl rfl) ?_; refine rn2 ?_
 refine zq ?_ ?_ <;> intro h3
 ·
  have e := n1 h3
  rw [h1] at e; cases e
 refine rn4 ?_; refine zP (q_nil rfl rfl rfl) ?_; refine rn3 ?_
 refine s_makeB hN rfl rfl rfl rfl rfl (by simp; omega) rfl rfl rfl rfl ?_
 rw [List.length_map, rep_memb]
 refine rn10 ?_
 refine awp_loop (fun x : {k : Nat // k ≤ (s).length ∧ True} => ⟨[(0, .el [svs u, R]), (6, .own 0 u.length), (19, svs s), (20, i64 s.length), (21, i64 (x.1 : Nat))], [(0, .arr 4 1 ((memb u (s.take x.1)).map bv1))], 1⟩) (fun x => (s).length - x.1) (⟨0, Nat.zero_le _, by simp⟩) ?_ ?_
 ·
  exact weak_scrub' rfl (zz3 ⟨(cgI (by simp)), rfl, (zz1 trivial)⟩) ⟨rfl, rfl, (ok_arr (fun _ => rfl) _), trivial⟩
 rintro ⟨k, hk, hg⟩
 dsimp only
 refine rn5 ?_
 refine zq ?_ ?_ <;> intro h14
 ·
  have hlt : k < (s).length := by simpa using h14
  obtain ⟨x, hx⟩ := get_lt hlt
  refine rn5 ?_; refine zP (q_elem rfl rfl rfl k rfl _ (map_get hx) rfl) ?_; refine rn7 ?_
  refine zP (q_call (at_fc u (by omega) hs R x (h2 x (List.mem_of_getElem? hx))) rfl rfl rfl) ?_; refine rn8 ?_
  refine zq ?_ ?_ <;> intro h18
  ·
   have e := of_decide_eq_true h18
   omega
  refine rn4 ?_; refine zP (q_eown rfl rfl rfl rfl (by simp [memb]) (posN u x) rfl (pos_lt (h2 x (List.mem_of_getElem? hx)))) ?_
  refine s_storeB hN rfl rfl (memb u (s.take k)) rfl (by simp [memb]) (posN u x) rfl (by rw [memb_len]; exact pos_lt (h2 x (List.mem_of_getElem? hx))) rfl rfl rfl rfl ?_
  refine rn2 ?_; refine zP (q_addi rfl rfl rfl (by omega)) ?_; refine zM ?_; refine aops_nil ?_
  exact ⟨⟨k + 1, hlt, trivial⟩, weak_scrub' rfl (zz4 ⟨(cgI (by dsimp only; omega)), rfl, trivial⟩) ⟨(cgA (by rw [memb_one hs hx (h2 x (List.mem_of_getElem? hx))])), rfl, (ok_arr (fun _ => rfl) _), trivial⟩, by dsimp only; omega⟩
 have hge : s.length ≤ k := by simpa using h14
 rw [List.take_of_length_le hge]
 refine rn7 ?_; refine awp_weak (weak_frow 4 0 rfl rfl (by simp [memb]) (all_okE okE_bit _) (fzs_bits _) rfl) ?_; refine zR ?_
 rfl
set_option maxRecDepth 100000 in
set_option maxHeartbeats 1000000 in
theorem list_fc (u : List Nm) (hu : u.length ≤ 1000) (R : AV) (bits : List Bool) (hb : bits.length = u.length) : FC Tryz.prog 182 [.el [svs u, R], .sl (bits.map bv1) none] (svs (selN u bits)) := by
 refine fc_of_awp [4] Tryz.func182 rfl rfl 29 Tryz.ntmps182 (Nat.le_of_ble_eq_true rfl) ?_
 intro E hN
 refine rn6 ?_; refine s_bslice0 hN rfl rfl rfl rfl rfl rfl ?_; refine rn10 ?_
 refine awp_loop (fun x : {k : Nat // k ≤ (bits).length ∧ True} => ⟨[(0, .el [svs u, R]), (5, .own 0 (selN (u.take x.1) (bits.take x.1)).length), (9, .sl (bits.map bv1) none), (10, i64 bits.length), (11, i64 (x.1 : Nat))], [(0, .arr 9 1 ((selN (u.take x.1) (bits.take x.1)).map sv1))], 1⟩) (fun x => (bits).length - x.1) (⟨0, Nat.zero_le _, by simp⟩) ?_ ?_
 ·
  exact weak_scrub' rfl (zz3 ⟨(cgI (by simp)), rfl, (zz1 trivial)⟩) ⟨rfl, rfl, (ok_arr (fun _ => rfl) _), trivial⟩
 rintro ⟨k, hk, hg⟩
 dsimp only
 refine rn5 ?_
 refine zq ?_ ?_ <;> intro h10
 ·
  have hlt : k < (bits).length := by simpa using h10
  obtain ⟨x, hx⟩ := get_lt hlt
  obtain ⟨z, hz⟩ := get_lt (show k < u.length by omega)
  refine rn6 ?_; refine zP (q_elem rfl rfl rfl k rfl _ (map_get hx) rfl) ?_; refine rn8 ?_
  refine zq ?_ ?_ <;> intro h12
  ·
   have hbz : x = true := h12
   subst hbz
   have hst := sel_take hz hx
   refine rn3 ?_; refine zP (q_nil rfl rfl rfl) ?_; refine rn3 ?_; refine zP (q_elem rfl rfl rfl k rfl _ (map_get hz) rfl) ?_; refine zL ?_
   refine zP (q_bslice rfl rfl rfl rfl (by exact rfl) (by decide) (by decide)) ?_
   refine s_append_own hN rfl rfl rfl (by simp) rfl rfl rfl (by have := sel_len (u.take k) (bits.take k); simp [chunk_1] at this ⊢; omega) rfl rfl rfl rfl ?_
   refine rn3 ?_; refine zP (q_addi rfl rfl rfl (by omega)) ?_; refine zM ?_; refine aops_nil ?_
   exact ⟨⟨k + 1, hlt, trivial⟩, weak_scrub' rfl (zz1 ⟨(cgO (by rw [hst]; first | (simp; done) | (simp [chunk_1]; done))), rfl, (zz2 ⟨(cgI (by dsimp only; omega)), rfl, trivial⟩)⟩) ⟨(cgA (by rw [hst]; first | (simp; done) | (simp [chunk_1, sv1]; done))), rfl, (ok_arr (fun _ => rfl) _), trivial⟩, by dsimp only; omega⟩
  have hbz : x = false := h12
  subst hbz
  have hst := sel_take hz hx
  refine rn2 ?_; refine zP (q_addi rfl rfl rfl (by omega)) ?_; refine zM ?_; refine aops_nil ?_
  exact ⟨⟨k + 1, hlt, trivial⟩, weak_scrub' rfl (zz1 ⟨(cgO (by rw [hst]; first | (simp; done) | (simp [chunk_1]; done))), rfl, (zz2 ⟨(cgI (by dsimp only; omega)), rfl, trivial⟩)⟩) ⟨(cgA (by rw [hst]; first | (simp; done) | (simp [chunk_1, sv1]; done))), rfl, (ok_arr (fun _ => rfl) _), trivial⟩, by dsimp only; omega⟩
 have hge : bits.length ≤ k := by simpa using h10
 rw [sel_all (by omega) hb]
 refine rn6 ?_; refine awp_weak (weak_frow 4 0 rfl rfl (by simp) (all_okE okE_nm _) (fzs_nms _) rfl) ?_; refine zR ?_
 rfl
set_option maxRecDepth 100000 in
set_option maxHeartbeats 1000000 in
theorem add_gc (u : List Nm) (rs : List Ru) (h : SysOk u rs) : GC Tryz.prog 193 [.ptr idB 0, rus rs] [(idB, .var 200 [svs u, .p (.slice none 0 0)])] (i64 0) [(idB, .var 200 [svs u, hrs (rs.map (hornN u))])] := by
 refine gc_of_awp [4] Tryz.func193 rfl rfl 59 Tryz.ntmps193 (Nat.le_of_ble_eq_true rfl) ?_
 intro E hN
 refine a_lm 1 rfl (fun hl1 => ?_)
 refine rn12 ?_; refine awp_weak (weak_tokc rfl idB 1 213 2 rfl rfl rfl) ?_
 refine awp_loop (fun x : {k : Nat // k ≤ (rs).length ∧ True} => ⟨[(0, .ptr idB 0), (11, rus rs), (12, i64 rs.length), (13, i64 (x.1 : Nat))], [(idB, .var 200 [svs u, .sl (((rs.map (hornN u)).take x.1).map hrC) (some 0)]), (0, .tok 213 2 ((rs.map (hornN u)).take x.1).length)], 1⟩) (fun x => (rs).length - x.1) (⟨0, Nat.zero_le _, by simp⟩) ?_ ?_
 ·
  exact weak_scrub' rfl (zz2 ⟨(cgI (by simp)), rfl, (zz1 trivial)⟩) ⟨rfl, rfl, rfl, rfl, rfl, rfl, trivial⟩
 rintro ⟨k, hk, hg⟩
 dsimp only
 refine rn5 ?_
 refine zq ?_ ?_ <;> intro h8
 ·
  have hlt : k < (rs).length := by simpa using h8
  obtain ⟨x, hx⟩ := get_lt hlt
  have hr := h.r x (List.mem_of_getElem? hx)
  have hxx := mp_get (hornN u) hx
  refine rn5 ?_; refine zP (q_elem rfl rfl rfl k rfl _ (map_get hx) rfl) ?_; refine rn9 ?_; refine zP (q_call (sorted_fc x.i) rfl rfl rfl) ?_
  refine rn2 ?_
  refine zq ?_ ?_ <;> intro h15
  ·
   have e := n1 h15
   rw [hr.1] at e; cases e
  refine rn6 ?_
  refine zP (q_lend (at_fc u (by have := h.n; omega) h.w _ x.t hr.2.2) rfl rfl rfl (.cons (.ptr rfl rfl rfl) (.cons (.fz rfl) .nil))) ?_
  refine rn13 ?_; refine awp_weak (weak_tokc rfl 2 0 3 1 rfl rfl rfl) ?_
  refine awp_loop (fun z : {k : Nat // k ≤ (x.i).length ∧ True} => ⟨[(0, .ptr idB 0), (6, .ptr 1 0), (7, .ptr 2 0), (27, svs x.i), (28, i64 x.i.length), (29, i64 (z.1 : Nat)), (11, rus rs), (12, i64 rs.length), (13, i64 (k : Nat))], [(idB, .var 200 [svs u, .sl (((rs.map (hornN u)).take k).map hrC) (some 0)]), (0, .tok 213 2 ((rs.map (hornN u)).take k).length), (1, .var 133 (ruC x)), (2, .var 213 [.sl (((x.i.map (posN u)).take z.1).map nv1) (some 3), i64 (posN u x.t : Nat)]), (3, .tok 3 1 ((x.i.map (posN u)).take z.1).length)], 4⟩) (fun z => x.i.length - z.1) (⟨0, Nat.zero_le _, by simp⟩) ?_ ?_
  ·
   exact weak_scrub' rfl (zz4 ⟨(cgI (by simp)), rfl, (zz4 trivial)⟩) ⟨rfl, rfl, rfl, rfl, rfl, rfl, rfl, rfl, rfl, rfl, rfl, rfl, rfl, rfl, rfl, trivial⟩
  rintro ⟨j, hj, -⟩
  dsimp only
  refine rn5 ?_
  refine zq ?_ ?_ <;> intro h34
  ·
   have hjl : j < x.i.length := by simpa using h34
   obtain ⟨y, hy⟩ := get_lt hjl
   have hxl := h.len (List.mem_of_getElem? hx)
   have hyu := hr.2.1 y (List.mem_of_getElem? hy)
   have hyy := mp_get (posN u) hy
   refine rn5 ?_; refine zP (q_elem rfl rfl rfl j rfl _ (map_get hy) rfl) ?_; refine rn7 ?_
   refine zP (q_lend (at_fc u (by have := h.n; omega) h.w _ y hyu) rfl rfl rfl (.cons (.ptr rfl rfl rfl) (.cons (.fz rfl) .nil))) ?_
   refine rn8 ?_
   refine zq ?_ ?_ <;> intro h38
   ·
    have e := of_decide_eq_true h38
    omega
   refine rn5 ?_; refine zP (q_bslice rfl rfl rfl rfl (by exact rfl) (by decide) (by decide)) ?_
   refine s_append_tok hN rfl rfl rfl (by simp) rfl rfl (all_okE okE_nv _) rfl (by have := h.len (List.mem_of_getElem? hx); simp [chunk_nv]; omega) rfl rfl rfl rfl ?_
   refine rn4 ?_; refine zP (q_addi rfl rfl rfl (by omega)) ?_; refine zM ?_; refine aops_nil ?_
   exact ⟨⟨j + 1, hjl, trivial⟩, weak_scrub' rfl (zz4 (zz1 ⟨(cgI (by dsimp only; omega)), rfl, (zz3 trivial)⟩)) ⟨rfl, rfl, rfl, rfl, rfl, rfl, rfl, rfl, rfl, (cgF (by rw [← map_step nv1 hyy]; exact congrArg (· ++ [_]) rfl)), rfl, rfl, (cgT (by rw [List.take_add_one, hyy]; simp [chunk_nv])), rfl, rfl, trivial⟩, by dsimp only; omega⟩
  have hje : x.i.length ≤ j := by simpa using h34
  rw [List.take_of_length_le (show (x.i.map (posN u)).length ≤ j by simpa using hje)]
  refine rn8 ?_
  refine zq ?_ ?_ <;> intro h48
  ·
   have e := of_decide_eq_true h48
   omega
  refine zW ?_; refine awp_float [0, 1, 2, 3, 4, 5, 6] 7 [8, 9, 10] rfl (by kernel_rfl) (by kernel_rfl) ?_; refine rn2 ?_
  refine zp (q_nil rfl rfl rfl) ?_; refine rn3 ?_; refine zp (q_bslice rfl rfl rfl rfl (by exact rfl) (by decide) (by decide)) ?_
  change FK _ _ _ _ _ _
  refine f_append_tok hN rfl rfl rfl (by simp) rfl rfl (all_okE okE_hr _) rfl (by have := h.m; simp [chunk_hr]; omega) rfl rfl rfl rfl ?_
  change AOps _ _ _ _ _ _; refine zP (q_nil rfl rfl rfl) ?_; refine rn4 ?_; refine zP (q_addi rfl rfl rfl (by omega)) ?_; refine zM ?_
  refine aops_nil ?_
  exact ⟨⟨k + 1, hlt, trivial⟩, weak_scrub' rfl (zz3 ⟨(cgI (by dsimp only; omega)), rfl, trivial⟩) ⟨(cgS (by rw [← map_step hrC hxx]; exact congrArg (· ++ [_]) rfl)), rfl, rfl, (cgT (by rw [List.take_add_one, hxx]; simp [chunk_hr])), rfl, rfl, trivial⟩, by dsimp only; omega⟩
 have hge : rs.length ≤ k := by simpa using h8
 rw [List.take_of_length_le (show (rs.map (hornN u)).length ≤ k by simpa using hge)]
 refine rn2 ?_; refine awp_weak (weak_untokc idB 1 rfl rfl) ?_; refine rn3 ?_; refine awp_ret ?_
 change (resX _ _).fzt = some _ ∧ _
 refine ret_g1 rfl ?_ rfl ?_ rfl
 all_goals rfl
end Go.Proofs.YtaecccdkjmipeaaGreat

namespace Go.Proofs.YtaecccdkjmipeaaGreat
open Go.RowKit
set_option maxRecDepth 100000 in
set_option maxHeartbeats 1000000 in
theorem parse_fc (u : List Nm) (rs : List Ru) (h : SysOk u rs) : FC Tryz.prog 180 [svs u, rus rs] (.tup [.el [svs u, hrs (rs.map (hornN u))], i64 0]) := by
 refine fc_of_awp [4, 5] Tryz.func180 rfl rfl 33 Tryz.ntmps180 (Nat.le_of_ble_eq_true rfl) ?_
 intro E hN
 refine a_lm 0 rfl (fun hl0 => ?_)
 refine rn13 ?_
 refine awp_loop (fun x : {k : Nat // k ≤ (u).length ∧ True} => ⟨[(0, svs u), (1, rus rs), (10, svs u), (11, i64 u.length), (12, i64 (x.1 : Nat))], [], 0⟩) (fun x => (u).length - x.1) (⟨0, Nat.zero_le _, by simp⟩) ?_ ?_
 ·
  exact weak_scrub' rfl (zz3 ⟨(cgI (by simp)), rfl, (zz1 trivial)⟩) trivial
 rintro ⟨k, hk, hg⟩
 dsimp only
 refine rn5 ?_
 refine zq ?_ ?_ <;> intro h9
 ·
  have hlt : k < (u).length := by simpa using h9
  obtain ⟨x, hx⟩ := get_lt hlt
  refine rn5 ?_; refine zP (q_elem rfl rfl rfl k rfl _ (map_get hx) rfl) ?_; refine rn6 ?_; refine zP (q_call (valid_fc x) rfl rfl rfl) ?_
  refine rn2 ?_
  refine zq ?_ ?_ <;> intro h12
  ·
   have e := n1 h12
   rw [h.v x (List.mem_of_getElem? hx)] at e; cases e
  refine rn2 ?_; refine zP (q_addi rfl rfl rfl (by omega)) ?_; refine zM ?_; refine aops_nil ?_
  exact ⟨⟨k + 1, hlt, trivial⟩, weak_scrub' rfl (zz4 ⟨(cgI (by dsimp only; omega)), rfl, trivial⟩) trivial, by dsimp only; omega⟩
 refine rn5 ?_; refine zP (q_call (sorted_fc u) rfl rfl rfl) ?_; refine rn2 ?_
 refine zq ?_ ?_ <;> intro h14
 ·
  have e := n1 h14
  rw [h.s] at e; cases e
 refine rn13 ?_; refine s_gcall1 hN 0 (add_gc u rs h) (.fn _ _ _ _ rfl rfl) rfl rfl rfl rfl rfl rfl rfl rfl rfl rfl rfl ?_; refine rn7 ?_
 refine zq ?_ ?_ <;> intro h18
 ·
  cases h18
 refine rn2 ?_; refine awp_weak (weak_freeze 8 0 rfl rfl rfl rfl) ?_; refine rn4 ?_; refine zQ ?_
 rfl
set_option maxRecDepth 100000 in
set_option maxHeartbeats 1000000 in
theorem chain_fc2 (u : List Nm) (rs : List Ru) (h : SysOk u rs) (s : List Nm) : FC Tryz.prog 195 [.el [svs u, hrs (rs.map (hornN u))], .sl ((memb u s).map bv1) none, .fn 196 []] (.tup [.sl ((memb u (iterC rs rs.length s)).map bv1) none, .bot]) := by
 refine fc_of_awp [6, 7] Tryz.func195 rfl rfl 56 Tryz.ntmps195 (Nat.le_of_ble_eq_true rfl) ?_
 intro E hN
 have hn := h.n
 have hm := h.m
 refine rn9 ?_
 refine s_makeB hN rfl rfl rfl rfl rfl (by simp [memb]; omega) rfl rfl rfl rfl ?_
 refine rn6 ?_; refine s_copyB hN rfl rfl _ rfl (by simp) _ rfl (by simp) rfl rfl rfl rfl ?_; refine rn6 ?_
 refine awp_weak (weak_own rfl 9 216 2 rfl) ?_
 refine awp_loop (fun z : {q : List Nm × List Tk // iterC rs rs.length q.1 = iterC rs rs.length s ∧ q.2.length + todo rs q.1 ≤ rs.length} => ⟨[(0, .el [svs u, hrs (rs.map (hornN u))]), (2, .fn 196 []), (8, .own 0 u.length), (9, .own 1 z.1.2.length)], [(0, .arr 4 1 ((memb u z.1.1).map bv1)), (1, .arr 216 2 (z.1.2.map tkC))], 2⟩) (fun z => todo rs z.1.1) (⟨(s, []), rfl, by simpa using todo_le⟩) ?_ ?_
 ·
  exact weak_scrub' rfl (zz2 ⟨(cgO (by simp [memb])), rfl, (zz1 trivial)⟩) ⟨rfl, rfl, (ok_arr (fun _ => rfl) _), rfl, rfl, (ok_arr (fun _ => rfl) _), trivial⟩
 rintro ⟨⟨t, sts⟩, hg, hlen⟩
 dsimp only at hg hlen ⊢
 refine rn7 ?_
 refine c_cut (⟨[(0, .el [svs u, hrs (rs.map (hornN u))]), (2, .fn 196 []), (8, .own 0 u.length), (9, .own 1 sts.length), (10, .ptr 2 0)], [(0, .arr 4 1 ((memb u t).map bv1)), (1, .arr 216 2 (sts.map tkC)), (2, .var 216 [i64 (fndP u (fstR (firesR t) rs 0)).1, i64 (fndP u (fstR (firesR t) rs 0)).2])], 3⟩) ?_ ?_
 ·
  refine rn3 ?_; refine zP (q_nil rfl rfl rfl) ?_; refine rn6 ?_
  refine awp_loop (fun x : {k : Nat // k ≤ (rs).length ∧ fstR (firesR t) (rs.drop k) k = fstR (firesR t) rs 0} => ⟨[(0, .el [svs u, hrs (rs.map (hornN u))]), (2, .fn 196 []), (8, .own 0 u.length), (9, .own 1 sts.length), (10, .ptr 2 0), (23, hrs (rs.map (hornN u))), (24, i64 rs.length), (25, i64 (x.1 : Nat))], [(0, .arr 4 1 ((memb u t).map bv1)), (1, .arr 216 2 (sts.map tkC)), (2, .var 216 [i64 (-1), i64 0])], 3⟩) (fun x => (rs).length - x.1) (⟨0, Nat.zero_le _, by simp⟩) ?_ ?_
  ·
   exact weak_scrub' rfl (zz4 (zz2 ⟨(cgI (by simp)), rfl, (zz1 trivial)⟩)) ⟨rfl, rfl, (ok_arr (fun _ => rfl) _), rfl, rfl, (ok_arr (fun _ => rfl) _), rfl, rfl, rfl, trivial⟩
  rintro ⟨k, hk, hg2⟩
  dsimp only
  refine rn5 ?_
  refine zq ?_ ?_ <;> intro h25
  ·
   have hlt : k < (rs).length := by simpa using h25
   obtain ⟨x, hx⟩ := get_lt hlt
   have hxr := h.r x (List.mem_of_getElem? hx)
   have hfe := fires_eq (t := t) hxr.2.1 hxr.2.2
   refine rn6 ?_; refine zP (q_elem rfl rfl rfl k rfl _ (map_get (mp_get (hornN u) hx)) rfl) ?_; refine rn9 ?_
   refine zP (q_callv (every_fc _) rfl rfl rfl rfl) ?_; refine rn3 ?_
   refine zP (q_lend (fires_fc (hornN u x) (memb u t) (by rw [memb_len]; exact pos_lt hxr.2.2) (fun i hi => by obtain ⟨y, hy, rfl⟩ := List.mem_map.1 hi; rw [memb_len]; exact pos_lt (hxr.2.1 y hy))) rfl rfl rfl (.cons (.fz rfl) (.cons (.own rfl (by simp [memb]) (all_okE okE_bit _) (fzs_bits _)) .nil))) ?_
   refine zh1 rfl ?_; refine zN ?_
   refine zq ?_ ?_ <;> intro h31
   ·
    have hf : firesR t x = true := by rw [← hfe]; exact h31
    refine rn8 ?_; refine awp_exit ?_
    exact weak_scrub' rfl (zz4 (zz1 trivial)) ⟨rfl, rfl, (ok_arr (fun _ => rfl) _), rfl, rfl, (ok_arr (fun _ => rfl) _), (by first | exact cgP (by rw [fst_end hg2 hge]; rfl) | exact cgP (by rw [fst_hit hg2 hx hf]; rfl)), rfl, rfl, trivial⟩
   have hf : firesR t x = false := by rw [← hfe]; exact h31
   refine rn2 ?_; refine zP (q_addi rfl rfl rfl (by omega)) ?_; refine zM ?_; refine aops_nil ?_
   exact ⟨⟨k + 1, hlt, fst_go hg2 hx hf⟩, weak_scrub' rfl (zz4 (zz3 ⟨(cgI (by dsimp only; omega)), rfl, trivial⟩)) ⟨rfl, rfl, (ok_arr (fun _ => rfl) _), rfl, rfl, (ok_arr (fun _ => rfl) _), rfl, rfl, rfl, trivial⟩, by dsimp only; omega⟩
  have hge : (rs).length ≤ k := by simpa using h25
  refine awp_exit ?_
  exact weak_scrub' rfl (zz4 (zz1 trivial)) ⟨rfl, rfl, (ok_arr (fun _ => rfl) _), rfl, rfl, (ok_arr (fun _ => rfl) _), (by first | exact cgP (by rw [fst_end hg2 hge]; rfl) | exact cgP (by rw [fst_hit hg2 hx hf]; rfl)), rfl, rfl, trivial⟩
 refine rn5 ?_; refine zP (q_eq2 rfl rfl rfl rfl) ?_; refine zN ?_
 refine zq ?_ ?_ <;> intro h44
 ·
  have hno := fnd_no h44
  refine rn7 ?_; refine awp_weak (weak_frow 6 0 rfl rfl (by simp [memb]) (all_okE okE_bit _) (fzs_bits _) rfl) ?_
  refine awp_weak (st' := ⟨[(6, .sl ((memb u t).map bv1) none)], [], 2⟩) (weak_scrub' rfl (zz1 trivial) trivial) ?_; refine zR ?_
  rw [← hg, iter_stay (step_stay hno)]
 obtain ⟨kk, r, hr⟩ := fnd_yes h44
 obtain ⟨hrf, hrm⟩ := fst_some _ rs 0 hr
 have hrt := (h.r r hrm).2.2
 rw [hr]
 refine rn6 ?_; refine zP (q_eown rfl rfl rfl rfl (by simp [memb]) (posN u r.t) rfl (pos_lt hrt)) ?_
 refine s_storeB hN rfl rfl (memb u t) rfl (by simp [memb]) (posN u r.t) rfl (by rw [memb_len]; exact pos_lt hrt) rfl rfl rfl rfl ?_
 refine rn4 ?_; refine zP (q_bslice rfl rfl rfl rfl (by exact rfl) (by decide) (by decide)) ?_
 refine s_append_own hN rfl rfl rfl (by simp) rfl rfl rfl (by simp [chunk_hr]; omega) rfl rfl rfl rfl ?_
 refine zS ?_; refine aops_nil ?_
 exact ⟨⟨(t ++ [r.t], sts ++ [fndP u (some (kk, r))]), (iter_go hr).trans hg, by have := todo_lt hrm hrf; simp; omega⟩, weak_scrub' rfl (zz3 ⟨(cgO (by simp [chunk_hr])), rfl, trivial⟩) ⟨(cgA (by rw [memb_set h.w hrt])), rfl, (ok_arr (fun _ => rfl) _), (cgA (by simp [chunk_hr, tkC])), rfl, (ok_arr (fun _ => rfl) _), trivial⟩, by exact todo_lt hrm hrf⟩
set_option maxRecDepth 100000 in
set_option maxHeartbeats 1000000 in
theorem close_fc (u : List Nm) (rs : List Ru) (h : SysOk u rs) (s : List Nm) : FC Tryz.prog 183 [.el [svs u, hrs (rs.map (hornN u))], .sl ((memb u s).map bv1) none] (.sl ((memb u (iterC rs rs.length s)).map bv1) none) := by
 refine fc_of_awp [4] Tryz.func183 rfl rfl 14 Tryz.ntmps183 (Nat.le_of_ble_eq_true rfl) ?_
 intro E hN
 refine rn8 ?_; refine zP (q_call (chain_fc2 u rs h s) rfl rfl rfl) ?_; refine rn10 ?_; refine zQ ?_
 rfl
set_option maxRecDepth 100000 in
set_option maxHeartbeats 1000000 in
theorem closeAll_fc (u : List Nm) (rs : List Ru) (h : SysOk u rs) (s : List Nm) (h1 : sortedB s = true) (h2 : ∀ x ∈ s, x ∈ u) : FC Tryz.prog 168 [svs u, rus rs, svs s] (.tup [svs (closeV u rs s), i64 0]) := by
 refine fc_of_awp [6, 7] Tryz.func168 rfl rfl 34 Tryz.ntmps168 (Nat.le_of_ble_eq_true rfl) ?_
 intro E hN
 refine rn9 ?_; refine zP (q_call (parse_fc u rs h) rfl rfl rfl) ?_; refine rn12 ?_
 refine zq ?_ ?_ <;> intro h7
 ·
  cases h7
 refine rn5 ?_; refine zP (q_call (set_fc u h.n h.w _ s h1 h2) rfl rfl rfl) ?_; refine rn12 ?_
 refine zq ?_ ?_ <;> intro h11
 ·
  cases h11
 refine rn6 ?_; refine zP (q_call (close_fc u rs h s) rfl rfl rfl) ?_
 refine zP (q_call (list_fc u h.n _ (memb u (iterC rs rs.length s)) memb_len) rfl rfl rfl) ?_; refine rn2 ?_; refine zQ ?_
 rw [sel_memb]; rfl
end Go.Proofs.YtaecccdkjmipeaaGreat
