/-
  Contracts: copies of values.
  Contracts: the join of two elements.
-/
import Derived.Test.YtaecccdkjmipeaaGreatB10
import Derived.Test.YtaecccdkjmipeaaGreatA4
import Derived.Test.YtaecccdkjmipeaaGreatB11
namespace Go.Proofs.YtaecccdkjmipeaaGreat
open Go.RowKit
theorem en_step {l : List En} {k : Nat} {x : En} (h : l[k]? = some x) : ((l.take k).map enC) ++ chunkA 2 1 (enC x) = ((l.take (k + 1)).map enC) := by
 rw [chunk_en, List.take_add_one, h]; simp
theorem cgE {tt : TypeId} {a b d : AV} {es es' : List (List AV)} {tk : Option Nat} (h : es = es') : some (AObj.var tt [a, b, d, .sl es tk]) = some (AObj.var tt [a, b, d, .sl es' tk]) := by rw [h]

set_option maxRecDepth 100000 in
set_option maxHeartbeats 1000000 in
theorem copied_s (v : Val) (h1 : v.nm.length ≤ 1000000) (h2 : v.ps.length ≤ 1000000) (h3 : v.es.length ≤ 1000000) (h4 : ∀ e ∈ v.es, e.1.length ≤ 64) (ih : ∀ p ∈ v.ps, FC Tryz.prog 143 [.agg (valL p)] (.agg (valL p))) : FC Tryz.prog 143 [.agg (valL v)] (.agg (valL v)) := by
 refine fc_of_awpR [.c 2 30 4 true] ⟨⟨inferInstance, rfl⟩, trivial⟩ Tryz.func143 rfl rfl 49 Tryz.ntmps143 (Nat.le_of_ble_eq_true rfl) ?_
 intro E hN
 refine rn6 ?_; refine awp_float [0, 1, 2, 3, 4, 5] 6 [7] rfl (by kernel_rfl) (by kernel_rfl) ?_; refine rn4 ?_
 refine zp (q_call (cloneNm_fc v.nm h1) rfl rfl rfl) ?_; refine zp (q_build rfl rfl rfl) ?_
 change FK _ _ _ _ _ _
 refine f_alloc hN rfl rfl rfl rfl rfl rfl rfl ?_; change AOps _ _ _ _ _ _; refine rn11 ?_
 refine awp_weak (weak_tokc rfl 2 2 30 4 rfl rfl rfl) ?_
 refine awp_loop (fun x : {k : Nat // k ≤ (v.ps).length ∧ True} => ⟨[(1, .ptr 0 0), (2, .ptr 1 0), (3, .ptr 2 0), (15, vals v.ps), (16, i64 v.ps.length), (17, i64 (x.1 : Nat))], [(0, .var 30 (valL v)), (1, .var 30 [i64 0, .p (.slice none 0 0), .p (.slice none 0 0), .p (.slice none 0 0)]), (2, .var 30 [i64 v.N, svs v.nm, .sl ((v.ps.take x.1).map valC) (some 3), .p (.slice none 0 0)]), (3, .tok 30 4 ((v.ps.take x.1).map valC).length)], 4⟩) (fun x => (v.ps).length - x.1) (⟨0, Nat.zero_le _, by simp⟩) ?_ ?_
 ·
  exact weak_scrub' rfl (zz4 ⟨(cgI (by simp)), rfl, (zz1 trivial)⟩) ⟨rfl, rfl, rfl, rfl, rfl, rfl, rfl, rfl, rfl, rfl, rfl, rfl, trivial⟩
 rintro ⟨k, hk, hg⟩
 dsimp only
 refine rn5 ?_
 refine zq ?_ ?_ <;> intro h21
 ·
  have hlt : k < (v.ps).length := by simpa using h21
  obtain ⟨x, hx⟩ := get_lt hlt
  refine rn5 ?_; refine zP (q_elem rfl rfl rfl k rfl _ (val_get hx) rfl) ?_; refine rn4 ?_; refine awp_draw 5 (by kernel_rfl) (by kernel_rfl) ?_
  refine rn3 ?_; refine zp (q_call (ih x (List.mem_of_getElem? hx)) rfl rfl rfl) ?_
  refine zp (q_bslice rfl rfl rfl rfl (by exact rfl) (by decide) (by decide)) ?_; change AOps _ _ _ _ _ _
  refine s_append_tok hN rfl rfl rfl (by simp) rfl rfl (all_okE okE_val _) rfl (by simp [chunk_4]; omega) rfl rfl rfl rfl ?_
  refine rn4 ?_; refine zP (q_addi rfl rfl rfl (by omega)) ?_; refine zM ?_; refine aops_nil ?_
  exact ⟨⟨k + 1, hlt, trivial⟩, weak_scrub' rfl (zz4 (zz1 ⟨(cgI (by dsimp only; omega)), rfl, trivial⟩)) ⟨rfl, rfl, rfl, rfl, rfl, rfl, (cgV (jz_step hx)), rfl, rfl, (cgT (by simp [chunk_4]; omega)), rfl, rfl, trivial⟩, by dsimp only; omega⟩
 have hge : (v.ps).length ≤ k := by simpa using h21
 rw [List.take_of_length_le hge]
 refine rn10 ?_; refine awp_weak (weak_tokc rfl 2 3 88 2 rfl rfl rfl) ?_
 refine awp_loop (fun x : {k : Nat // k ≤ (v.es).length ∧ True} => ⟨[(2, .ptr 1 0), (3, .ptr 2 0), (30, ens v.es), (31, i64 v.es.length), (32, i64 (x.1 : Nat))], [(1, .var 30 [i64 0, .p (.slice none 0 0), .p (.slice none 0 0), .p (.slice none 0 0)]), (2, .var 30 [i64 v.N, svs v.nm, .sl (v.ps.map valC) (some 3), .sl ((v.es.take x.1).map enC) (some 4)]), (4, .tok 88 2 ((v.es.take x.1).map enC).length)], 5⟩) (fun x => (v.es).length - x.1) (⟨0, Nat.zero_le _, by simp⟩) ?_ ?_
 ·
  exact weak_scrub' rfl (zz3 ⟨(cgI (by simp)), rfl, (zz1 trivial)⟩) ⟨rfl, rfl, rfl, rfl, rfl, rfl, rfl, rfl, rfl, trivial⟩
 rintro ⟨k, hk, hg⟩
 dsimp only
 refine rn5 ?_
 refine zq ?_ ?_ <;> intro h43
 ·
  have hlt : k < (v.es).length := by simpa using h43
  obtain ⟨x, hx⟩ := get_lt hlt
  refine rn5 ?_; refine zP (q_elem rfl rfl rfl k rfl _ (map_get hx) rfl) ?_; refine rn4 ?_; refine awp_draw 9 (by kernel_rfl) (by kernel_rfl) ?_
  refine rn4 ?_
  refine zp (q_call (cloneTk_fc x.1 (by have := h4 x (List.mem_of_getElem? hx); omega)) rfl rfl rfl) ?_
  refine rn2 ?_; refine zp (q_build rfl rfl rfl) ?_; refine zp (q_bslice rfl rfl rfl rfl (by exact rfl) (by decide) (by decide)) ?_
  change AOps _ _ _ _ _ _
  refine s_append_tok hN rfl rfl rfl (by simp) rfl rfl (all_okE okE_en _) rfl (by simp [chunk_tk]; omega) rfl rfl rfl rfl ?_
  refine rn4 ?_; refine zP (q_addi rfl rfl rfl (by omega)) ?_; refine zM ?_; refine aops_nil ?_
  exact ⟨⟨k + 1, hlt, trivial⟩, weak_scrub' rfl (zz4 ⟨(cgI (by dsimp only; omega)), rfl, trivial⟩) ⟨rfl, rfl, rfl, (cgE (en_step hx)), rfl, rfl, (cgT (by simp [chunk_tk]; omega)), rfl, rfl, trivial⟩, by dsimp only; omega⟩
 have hge : (v.es).length ≤ k := by simpa using h43
 rw [List.take_of_length_le hge]
 refine rn6 ?_; refine awp_ret ?_
 change (resY _ _).bind AV.fzt = some _
 refine ret_r rfl ?_
 rfl
theorem copied_fc (v : Val) (h : SmV 1000000 v) : FC Tryz.prog 143 [.agg (valL v)] (.agg (valL v)) := copied_s v h.nm h.ps h.es h.en (fun p hp => copied_fc p (h.part p hp))
termination_by v
decreasing_by exact Val.sizeOf_ps ‹_›
end Go.Proofs.YtaecccdkjmipeaaGreat

namespace Go.Proofs.YtaecccdkjmipeaaGreat
open Go.RowKit
/-- its closed descriptions close names as they should -/
inductive JoL : Lat → Prop
 | mk (l : Lat) (h : l.k = 10 → ∀ s, sortedB s = true → (∀ x ∈ s, x ∈ l.nm) → FC Tryz.prog 168 [svs l.nm, rus l.rs, svs s] (.tup [svs (closeV l.nm l.rs s), i64 0])) (hp : ∀ p ∈ l.ps, JoL p) : JoL l
theorem JoL.close {l : Lat} (h : JoL l) : l.k = 10 → ∀ s, sortedB s = true → (∀ x ∈ s, x ∈ l.nm) → FC Tryz.prog 168 [svs l.nm, rus l.rs, svs s] (.tup [svs (closeV l.nm l.rs s), i64 0]) := by cases h; assumption
theorem JoL.part {l : Lat} (h : JoL l) : ∀ p ∈ l.ps, JoL p := by cases h; assumption
theorem closed_ne {l : Lat} (hO : OkL l) (hk : l.k = 10) : l.nm ≠ [] := by
 have h := hO.shape
 unfold shapeX at h
 rw [if_pos (by rw [hk]; decide)] at h
 intro e
 rw [show emptyB l = true by unfold emptyB; rw [hk, e]; rfl, Bool.or_true] at h
 simp [whenE] at h
theorem closed_mem {l : Lat} {v : Val} (hO : OkL l) (hk : l.k = 10) (hv : elemB v l = true) : ∀ s ∈ v.nm, s ∈ l.nm := fun s hs => by
 obtain ⟨-, -, -, -, h, -⟩ := el_set hv (.inr hk)
 have h1 := h s hs
 have h2 : ((l.nm.length : Int) > 0) := by
  have := List.length_pos_iff.2 (closed_ne hO hk)
  omega
 simp only [okName, h2, decide_true, Bool.true_and, Bool.and_eq_true, Bool.not_eq_true', Bool.not_eq_false'] at h1
 exact has_iff.1 (by simpa using h1.2)
theorem joinV_else {l : Lat} {a b : Val} (h4 : l.k ≠ 4) (h10 : l.k ≠ 10) (h9 : l.k ≠ 9) (h5 : l.k ≠ 5) (h6 : l.k ≠ 6) (hx : l.k = 7 → joinX l.ps a.ps b.ps = none) :
  joinV l a b = if leqB l a b then b else if leqB l b a then a else .mk 2 [] [] [] := by
 rw [joinV_eq]
 simp only [beq_eq_false_iff_ne.2 h4, beq_eq_false_iff_ne.2 h10, beq_eq_false_iff_ne.2 h9, beq_eq_false_iff_ne.2 h5, beq_eq_false_iff_ne.2 h6, Bool.false_eq_true, if_false]
 by_cases h7 : l.k = 7
 ·rw [if_pos (beq_iff_eq.2 h7), hx h7]
 rw [if_neg (by simpa using h7)]
section
variable {a b : Val} {q : Lat} {x : Nm}
theorem idx_part {v : Val} (hl : v.nm.length = v.ps.length) (h : decide (indexN x v.nm 0 < 0) = false) : ∃ (i : Nat) (y : Val), indexN x v.nm 0 = (i : Int) ∧ v.ps[i]? = some y ∧ partOf v x = some y := by
 rcases indexN_lt x v.nm 0 with h1 | ⟨j, -, h2, h3⟩
 ·rw [h1] at h; cases h
 obtain ⟨y, hy⟩ := get_lt (show j < v.ps.length by omega)
 exact ⟨j, y, h3, hy, partOf_some h3 hy⟩
theorem jc_b (hm : x ∈ a.nm ∨ x ∈ b.nm) (h : decide (indexN x a.nm 0 < 0) = true) (lb : b.nm.length = b.ps.length) : ∃ (j : Nat) (y : Val), indexN x b.nm 0 = (j : Int) ∧ b.ps[j]? = some y ∧ joinF q a b x = y := by
 have h0 := of_decide_eq_true h
 have hb : x ∈ b.nm := by
  rcases hm with hm | hm
  ·have := index_has x a.nm 0
   rw [has_iff.2 hm] at this
   have := of_decide_eq_true this
   omega
  exact hm
 have h1 : decide (indexN x b.nm 0 < 0) = false := by
  have := index_has x b.nm 0
  rw [has_iff.2 hb] at this
  have := of_decide_eq_true this
  exact decide_eq_false (by omega)
 obtain ⟨j, y, g1, g2, g3⟩ := idx_part lb h1
 exact ⟨j, y, g1, g2, jf_b (partOf_none h0) g3⟩
theorem jc_a (h1 : decide (indexN x a.nm 0 < 0) = false) (h2 : decide (indexN x b.nm 0 < 0) = true) (la : a.nm.length = a.ps.length) : ∃ (j : Nat) (y : Val), indexN x a.nm 0 = (j : Int) ∧ a.ps[j]? = some y ∧ joinF q a b x = y := by
 obtain ⟨j, y, g1, g2, g3⟩ := idx_part la h1
 exact ⟨j, y, g1, g2, jf_a g3 (partOf_none (of_decide_eq_true h2))⟩
theorem jc_2 (h1 : decide (indexN x a.nm 0 < 0) = false) (h2 : decide (indexN x b.nm 0 < 0) = false) (la : a.nm.length = a.ps.length) (lb : b.nm.length = b.ps.length) :
  ∃ (i : Nat) (x1 : Val) (j : Nat) (y : Val), indexN x a.nm 0 = (i : Int) ∧ a.ps[i]? = some x1 ∧ indexN x b.nm 0 = (j : Int) ∧ b.ps[j]? = some y ∧ joinF q a b x = joinV q x1 y := by
 obtain ⟨i, x1, g1, g2, g3⟩ := idx_part la h1
 obtain ⟨j, y, k1, k2, k3⟩ := idx_part lb h2
 exact ⟨i, x1, j, y, g1, g2, k1, k2, jf_2 g3 k3⟩
end
set_option maxRecDepth 100000 in
set_option maxHeartbeats 1000000 in
theorem join_s (l : Lat) (hO : OkL l) (hJ : JoL l) (ih : ∀ q ∈ l.ps, ∀ x y, elemB x q = true → elemB y q = true → SmV 500000 x → SmV 500000 y → FC Tryz.prog 142 [.agg (latL q), .agg (valL x), .agg (valL y)] (.agg (valL (joinV q x y)))) (a b : Val) (ha : elemB a l = true) (hb : elemB b l = true) (sa : SmV 500000 a) (sb : SmV 500000 b) : FC Tryz.prog 142 [.agg (latL l), .agg (valL a), .agg (valL b)] (.agg (valL (joinV l a b))) := by
 have na := sa.nm
 have nb := sb.nm
 have nea := sa.es
 have neb := sb.es
 have npl := hO.small
 refine fc_of_awpR [.c 6 30 4 true] ⟨⟨inferInstance, rfl⟩, trivial⟩ Tryz.func142 rfl rfl 195 Tryz.ntmps142 (Nat.le_of_ble_eq_true rfl) ?_
 intro E hN
 refine rn19 ?_
 refine zq ?_ ?_ <;> intro h10
 ·
  have hk : l.k = 4 := by simpa using h10
  obtain ⟨-, -, -, hsa, -, -⟩ := el_set ha (.inl hk)
  obtain ⟨-, -, -, hsb, -, -⟩ := el_set hb (.inl hk)
  have hE : joinV l a b = .mk 0 (uni a.nm b.nm) [] [] := by rw [joinV_eq, hk]; rfl
  refine rn6 ?_; refine zP (q_call (union_fc _ _ hsa hsb (by omega)) rfl rfl rfl) ?_; refine rn3 ?_; refine awp_ret ?_
  change (resY _ _).bind AV.fzt = some _
  refine ret_r rfl ?_
  rw [hE]; rfl
 have hk4 : l.k ≠ 4 := by simpa using h10
 refine rn5 ?_
 refine zq ?_ ?_ <;> intro h18
 ·
  have hk : l.k = 10 := by simpa using h18
  obtain ⟨-, -, -, hsa, -, -⟩ := el_set ha (.inr hk)
  obtain ⟨-, -, -, hsb, -, -⟩ := el_set hb (.inr hk)
  have hE : joinV l a b = .mk 0 (closeV l.nm l.rs (uni a.nm b.nm)) [] [] := by rw [joinV_eq, hk]; rfl
  refine rn1 ?_; refine awp_draw 14 (by kernel_rfl) (by kernel_rfl) ?_; refine rn8 ?_
  refine zp (q_call (union_fc _ _ hsa hsb (by omega)) rfl rfl rfl) ?_
  refine d_py hN (q_call (hJ.close hk _ (uni_sorted hsa hsb) (fun x hx => by
     rcases (uni_mem hsa hsb).1 hx with hx | hx
     ·exact closed_mem hO hk ha x hx
     exact closed_mem hO hk hb x hx)) rfl rfl rfl) rfl rfl rfl rfl ?_
  refine rn3 ?_; refine zp (q_assign rfl rfl) ?_; change AOps _ _ _ _ _ _; refine rn8 ?_; refine awp_ret ?_
  change (resY _ _).bind AV.fzt = some _
  refine ret_r rfl ?_
  rw [hE]; rfl
 have hk10 : l.k ≠ 10 := by simpa using h18
 refine rn5 ?_
 refine zq ?_ ?_ <;> intro h33
 ·
  have hk : l.k = 9 := by simpa using h33
  have hE : joinV l a b = .mk 0 [] [] (mergedE a.es b.es) := by rw [joinV_eq, hk]; rfl
  refine rn6 ?_; refine zP (q_call (merged_fc _ _ (by omega)) rfl rfl rfl) ?_; refine rn3 ?_; refine awp_ret ?_
  change (resY _ _).bind AV.fzt = some _
  refine ret_r rfl ?_
  rw [hE]; rfl
 have hk9 : l.k ≠ 9 := by simpa using h33
 refine rn5 ?_
 refine zq ?_ ?_ <;> intro h41
 ·
  have hk : l.k = 5 := by simpa using h41
  obtain ⟨q, hps⟩ := shape_56 hO hk
  have hq0 : l.ps[0]? = some q := by rw [hps]; rfl
  obtain ⟨-, -, hla, hsa, -, hea⟩ := el_map ha hk hps
  obtain ⟨-, -, hlb, hsb, -, heb⟩ := el_map hb hk hps
  have hul := uni_len hsa hsb
  have hE : joinV l a b = .mk 0 (uni a.nm b.nm) ((uni a.nm b.nm).map (joinF q a b)) [] := by rw [joinV_eq, hk, hps, joinM_map]; rfl
  refine rn10 ?_; refine zP (q_call (union_fc _ _ hsa hsb (by omega)) rfl rfl rfl) ?_; refine rn12 ?_
  refine awp_weak (weak_tokc rfl 4 2 30 4 rfl rfl rfl) ?_
  refine awp_loop (fun x : {k : Nat // k ≤ (uni a.nm b.nm).length ∧ True} => ⟨[(3, .ptr 0 0), (4, .ptr 1 0), (5, .ptr 2 0), (6, .ptr 3 0), (9, .ptr 4 0), (61, svs (uni a.nm b.nm)), (62, i64 (uni a.nm b.nm).length), (63, i64 (x.1 : Nat))], [(0, .var 26 (latL l)), (1, .var 30 (valL a)), (2, .var 30 (valL b)), (3, .var 30 [i64 0, .p (.slice none 0 0), .p (.slice none 0 0), .p (.slice none 0 0)]), (4, .var 30 [i64 0, svs (uni a.nm b.nm), .sl ((((uni a.nm b.nm).take x.1).map (joinF q a b)).map valC) (some 5), .p (.slice none 0 0)]), (5, .tok 30 4 ((((uni a.nm b.nm).take x.1).map (joinF q a b)).map valC).length)], 6⟩) (fun x => (uni a.nm b.nm).length - x.1) (⟨0, Nat.zero_le _, by simp⟩) ?_ ?_
  ·
   exact weak_scrub' rfl (zz4 (zz2 ⟨(cgI (by simp)), rfl, (zz1 trivial)⟩)) ⟨rfl, rfl, rfl, rfl, rfl, rfl, rfl, rfl, rfl, rfl, rfl, rfl, rfl, rfl, rfl, rfl, rfl, rfl, trivial⟩
  rintro ⟨k, hk, hg⟩
  dsimp only
  refine rn5 ?_
  refine zq ?_ ?_ <;> intro h61
  ·
   have hlt : k < (uni a.nm b.nm).length := by simpa using h61
   obtain ⟨x, hx⟩ := get_lt hlt
   have hxm := (uni_mem hsa hsb).1 (List.mem_of_getElem? hx)
   refine rn5 ?_; refine zP (q_elem rfl rfl rfl k rfl _ (map_get hx) rfl) ?_; refine rn4 ?_; refine awp_draw 9 (by kernel_rfl) (by kernel_rfl) ?_
   refine rn3 ?_; refine zp (q_call (index_fc _ _) rfl rfl rfl) ?_; refine rn3 ?_; refine zp (q_call (index_fc _ _) rfl rfl rfl) ?_
   refine zp (q_assign rfl rfl) ?_; change AOps _ _ _ _ _ _; refine rn9 ?_
   refine zq ?_ ?_ <;> intro h70
   ·
    obtain ⟨j, y, hj, hy, hF⟩ := jc_b (q := q) hxm h70 hlb
    refine awp_draw 8 (by kernel_rfl) (by kernel_rfl) ?_; refine rn5 ?_; refine zp (q_elem rfl rfl rfl j hj _ (val_get hy) rfl) ?_; refine zl ?_
    refine zp (q_bslice rfl rfl rfl rfl (by exact rfl) (by decide) (by decide)) ?_; change AOps _ _ _ _ _ _
    refine s_append_tok hN rfl rfl rfl (by simp) rfl rfl (all_okE okE_val _) rfl (by simp [chunk_4]; omega) rfl rfl rfl rfl ?_
    refine rn4 ?_; refine zP (q_addi rfl rfl rfl (by omega)) ?_; refine zM ?_; refine aops_nil ?_
    exact ⟨⟨k + 1, hlt, trivial⟩, weak_scrub' rfl (zz4 (zz3 ⟨(cgI (by dsimp only; omega)), rfl, trivial⟩)) ⟨rfl, rfl, rfl, rfl, rfl, rfl, rfl, rfl, rfl, rfl, rfl, rfl, (cgV (jm_step hx hF)), rfl, rfl, (cgT (by simp [chunk_4]; omega)), rfl, rfl, trivial⟩, by dsimp only; omega⟩
   have h17 := h70
   refine rn6 ?_
   refine zq ?_ ?_ <;> intro h82
   ·
    obtain ⟨i, x1, hi, hx1, hF⟩ := jc_a (q := q) h17 h82 hla
    refine awp_draw 8 (by kernel_rfl) (by kernel_rfl) ?_; refine rn5 ?_; refine zp (q_elem rfl rfl rfl i hi _ (val_get hx1) rfl) ?_; refine zl ?_
    refine zp (q_bslice rfl rfl rfl rfl (by exact rfl) (by decide) (by decide)) ?_; change AOps _ _ _ _ _ _
    refine s_append_tok hN rfl rfl rfl (by simp) rfl rfl (all_okE okE_val _) rfl (by simp [chunk_4]; omega) rfl rfl rfl rfl ?_
    refine rn4 ?_; refine zP (q_addi rfl rfl rfl (by omega)) ?_; refine zM ?_; refine aops_nil ?_
    exact ⟨⟨k + 1, hlt, trivial⟩, weak_scrub' rfl (zz4 (zz3 ⟨(cgI (by dsimp only; omega)), rfl, trivial⟩)) ⟨rfl, rfl, rfl, rfl, rfl, rfl, rfl, rfl, rfl, rfl, rfl, rfl, (cgV (jm_step hx hF)), rfl, rfl, (cgT (by simp [chunk_4]; omega)), rfl, rfl, trivial⟩, by dsimp only; omega⟩
   obtain ⟨i, x1, j, y, hi, hx1, hj, hy, hF⟩ := jc_2 (q := q) h17 h82 hla hlb
   refine awp_draw 18 (by kernel_rfl) (by kernel_rfl) ?_; refine rn4 ?_; refine zp (q_elem rfl rfl rfl 0 rfl _ (lat_get hq0) rfl) ?_; refine rn4 ?_
   refine zp (q_elem rfl rfl rfl i hi _ (val_get hx1) rfl) ?_; refine rn4 ?_; refine zp (q_elem rfl rfl rfl j hj _ (val_get hy) rfl) ?_; refine zl ?_
   refine zp (q_call (ih q (by rw [hps]; simp) x1 y (hea x1 (List.mem_of_getElem? hx1)).1 (heb y (List.mem_of_getElem? hy)).1 (sa.part x1 (List.mem_of_getElem? hx1)) (sb.part y (List.mem_of_getElem? hy))) rfl rfl rfl) ?_
   refine zp (q_bslice rfl rfl rfl rfl (by exact rfl) (by decide) (by decide)) ?_; change AOps _ _ _ _ _ _
   refine s_append_tok hN rfl rfl rfl (by simp) rfl rfl (all_okE okE_val _) rfl (by simp [chunk_4]; omega) rfl rfl rfl rfl ?_
   refine rn4 ?_; refine zP (q_addi rfl rfl rfl (by omega)) ?_; refine zM ?_; refine aops_nil ?_
   exact ⟨⟨k + 1, hlt, trivial⟩, weak_scrub' rfl (zz4 (zz3 ⟨(cgI (by dsimp only; omega)), rfl, trivial⟩)) ⟨rfl, rfl, rfl, rfl, rfl, rfl, rfl, rfl, rfl, rfl, rfl, rfl, (cgV (jm_step hx hF)), rfl, rfl, (cgT (by simp [chunk_4]; omega)), rfl, rfl, trivial⟩, by dsimp only; omega⟩
  have hge : (uni a.nm b.nm).length ≤ k := by simpa using h61
  rw [List.take_of_length_le hge]
  refine rn6 ?_; refine awp_ret ?_
  change (resY _ _).bind AV.fzt = some _
  refine ret_r rfl ?_
  rw [hE]; rfl
 have hk5 : l.k ≠ 5 := by simpa using h41
 refine rn5 ?_
 refine zq ?_ ?_ <;> intro h116
 ·
  have hk : l.k = 6 := by simpa using h116
  obtain ⟨-, -, -, hla, hza⟩ := el_prod ha (.inl hk)
  obtain ⟨-, -, -, hlb, hzb⟩ := el_prod hb (.inl hk)
  have hjl := jz_len hla hlb
  have hE : joinV l a b = .mk 0 [] (joinZ l.ps a.ps b.ps) [] := by rw [joinV_eq, hk]; rfl
  refine rn13 ?_; refine awp_weak (weak_tokc rfl 4 2 30 4 rfl rfl rfl) ?_
  refine awp_loop (fun x : {k : Nat // k ≤ (l.ps).length ∧ True} => ⟨[(3, .ptr 0 0), (4, .ptr 1 0), (5, .ptr 2 0), (6, .ptr 3 0), (14, .ptr 4 0), (126, lats l.ps), (127, i64 l.ps.length), (128, i64 (x.1 : Nat))], [(0, .var 26 (latL l)), (1, .var 30 (valL a)), (2, .var 30 (valL b)), (3, .var 30 [i64 0, .p (.slice none 0 0), .p (.slice none 0 0), .p (.slice none 0 0)]), (4, .var 30 [i64 0, .p (.slice none 0 0), .sl (((joinZ l.ps a.ps b.ps).take x.1).map valC) (some 5), .p (.slice none 0 0)]), (5, .tok 30 4 (((joinZ l.ps a.ps b.ps).take x.1).map valC).length)], 6⟩) (fun x => (l.ps).length - x.1) (⟨0, Nat.zero_le _, by simp⟩) ?_ ?_
  ·
   exact weak_scrub' rfl (zz4 (zz2 ⟨(cgI (by simp)), rfl, (zz1 trivial)⟩)) ⟨rfl, rfl, rfl, rfl, rfl, rfl, rfl, rfl, rfl, rfl, rfl, rfl, rfl, rfl, rfl, rfl, rfl, rfl, trivial⟩
  rintro ⟨k, hk, hg⟩
  dsimp only
  refine rn5 ?_
  refine zq ?_ ?_ <;> intro h129
  ·
   have hlt : k < l.ps.length := by simpa using h129
   obtain ⟨q, hq⟩ := get_lt hlt
   obtain ⟨x, hx⟩ := get_lt (show k < a.ps.length by omega)
   obtain ⟨y, hy⟩ := get_lt (show k < b.ps.length by omega)
   refine rn6 ?_; refine zP (q_elem rfl rfl rfl k rfl _ (lat_get hq) rfl) ?_; refine rn5 ?_; refine awp_draw 15 (by kernel_rfl) (by kernel_rfl) ?_
   refine rn6 ?_; refine zp (q_elem rfl rfl rfl k rfl _ (val_get hx) rfl) ?_; refine rn4 ?_; refine zp (q_elem rfl rfl rfl k rfl _ (val_get hy) rfl) ?_
   refine zl ?_
   refine zp (q_call (ih q (List.mem_of_getElem? hq) x y (elemZ_get hza hx hq) (elemZ_get hzb hy hq) (sa.part x (List.mem_of_getElem? hx)) (sb.part y (List.mem_of_getElem? hy))) rfl rfl rfl) ?_
   refine zp (q_bslice rfl rfl rfl rfl (by exact rfl) (by decide) (by decide)) ?_; change AOps _ _ _ _ _ _
   refine s_append_tok hN rfl rfl rfl (by simp) rfl rfl (all_okE okE_val _) rfl (by simp [chunk_4]; omega) rfl rfl rfl rfl ?_
   refine rn4 ?_; refine zP (q_addi rfl rfl rfl (by omega)) ?_; refine zM ?_; refine aops_nil ?_
   exact ⟨⟨k + 1, hlt, trivial⟩, weak_scrub' rfl (zz4 (zz3 ⟨(cgI (by dsimp only; omega)), rfl, trivial⟩)) ⟨rfl, rfl, rfl, rfl, rfl, rfl, rfl, rfl, rfl, rfl, rfl, rfl, (cgV (jz_step (jz_get hq hx hy))), rfl, rfl, (cgT (by simp [chunk_4]; omega)), rfl, rfl, trivial⟩, by dsimp only; omega⟩
  have hge : (l.ps).length ≤ k := by simpa using h129
  rw [List.take_of_length_le (by rw [hjl]; exact hge)]
  refine rn6 ?_; refine awp_ret ?_
  change (resY _ _).bind AV.fzt = some _
  refine ret_r rfl ?_
  rw [hE]; rfl
 have hk6 : l.k ≠ 6 := by simpa using h116
 refine rn5 ?_
 refine zq ?_ ?_ <;> intro h153
 ·
  have hk : l.k = 7 := by simpa using h153
  obtain ⟨q1, q2, hps⟩ := shape_72 hO.shape hk
  obtain ⟨x1, x2, hpa, hx1, hx2⟩ := two_of ha hk hps
  obtain ⟨y1, y2, hpb, hy1, hy2⟩ := two_of hb hk hps
  have hq2' : l.ps[1]? = some q2 := by rw [hps]; rfl
  have hx1' : a.ps[0]? = some x1 := by rw [hpa]; rfl
  have hx2' : a.ps[1]? = some x2 := by rw [hpa]; rfl
  have hy1' : b.ps[0]? = some y1 := by rw [hpb]; rfl
  have hy2' : b.ps[1]? = some y2 := by rw [hpb]; rfl
  refine rn1 ?_; refine awp_draw 8 (by kernel_rfl) (by kernel_rfl) ?_; refine rn2 ?_; refine zp (q_elem rfl rfl rfl 0 rfl _ (val_get hx1') rfl) ?_
  refine rn3 ?_; refine zp (q_elem rfl rfl rfl 0 rfl _ (val_get hy1') rfl) ?_; refine zl ?_; change AOps _ _ _ _ _ _
  refine zP (q_call (eqV_fc _ _) rfl rfl rfl) ?_; refine zN ?_
  refine zq ?_ ?_ <;> intro h162
  ·
   have hE : joinV l a b = .mk 0 [] [x1, joinV q2 x2 y2] [] := by rw [joinV_eq, hk, hps, hpa, hpb]; simp [joinX, h162]
   refine rn1 ?_; refine awp_draw 19 (by kernel_rfl) (by kernel_rfl) ?_; refine rn2 ?_; refine zp (q_elem rfl rfl rfl 0 rfl _ (val_get hx1') rfl) ?_
   refine rn3 ?_; refine zp (q_elem rfl rfl rfl 1 rfl _ (lat_get hq2') rfl) ?_; refine rn3 ?_
   refine zp (q_elem rfl rfl rfl 1 rfl _ (val_get hx2') rfl) ?_; refine rn3 ?_; refine zp (q_elem rfl rfl rfl 1 rfl _ (val_get hy2') rfl) ?_
   refine zl ?_
   refine zp (q_call (ih q2 (by rw [hps]; simp) x2 y2 hx2 hy2 (sa.part x2 (by rw [hpa]; simp)) (sb.part y2 (by rw [hpb]; simp))) rfl rfl rfl) ?_
   refine zp (q_bslice2 rfl rfl rfl rfl (by exact rfl) (by decide) (by decide) (vals_2 _ _)) ?_; refine zp (q_build rfl rfl rfl) ?_
   change AOps _ _ _ _ _ _; refine rn2 ?_; refine awp_ret ?_
   change (resY _ _).bind AV.fzt = some _
   refine ret_r rfl ?_
   rw [hE]; rfl
  have hx : l.k = 7 → joinX l.ps a.ps b.ps = none := fun _ => by rw [hps, hpa, hpb, joinX, h162]; rfl
  refine rn8 ?_; refine zP (q_call (leq_fc l hO a b ha hb) rfl rfl rfl) ?_; refine zT ?_
  refine zq ?_ ?_ <;> intro h186
  ·
   have h34 := h186
   refine rn5 ?_; refine awp_ret ?_
   change (resY _ _).bind AV.fzt = some _
   refine ret_r rfl ?_
   rw [joinV_else hk4 hk10 hk9 hk5 hk6 hx, if_pos h34]
  have h34 := h186
  refine rn5 ?_; refine zP (q_call (leq_fc l hO b a hb ha) rfl rfl rfl) ?_; refine zT ?_
  refine zq ?_ ?_ <;> intro h192
  ·
   have h36 := h192
   refine rn5 ?_; refine awp_ret ?_
   change (resY _ _).bind AV.fzt = some _
   refine ret_r rfl ?_
   rw [joinV_else hk4 hk10 hk9 hk5 hk6 hx, if_neg (by rw [h34]; decide), if_pos h36]
  have h36 := h192
  refine rn6 ?_; refine awp_ret ?_
  change (resY _ _).bind AV.fzt = some _
  refine ret_r rfl ?_
  rw [joinV_else hk4 hk10 hk9 hk5 hk6 hx, if_neg (by rw [h34]; decide), if_neg (by rw [h36]; decide)]; rfl
 have hx : l.k = 7 → joinX l.ps a.ps b.ps = none := fun e => absurd e (by simpa using h153)
 refine rn8 ?_; refine zP (q_call (leq_fc l hO a b ha hb) rfl rfl rfl) ?_; refine zT ?_
 refine zq ?_ ?_ <;> intro h200
 ·
  have h34 := h200
  refine rn5 ?_; refine awp_ret ?_
  change (resY _ _).bind AV.fzt = some _
  refine ret_r rfl ?_
  rw [joinV_else hk4 hk10 hk9 hk5 hk6 hx, if_pos h34]
 have h34 := h200
 refine rn5 ?_; refine zP (q_call (leq_fc l hO b a hb ha) rfl rfl rfl) ?_; refine zT ?_
 refine zq ?_ ?_ <;> intro h206
 ·
  have h36 := h206
  refine rn5 ?_; refine awp_ret ?_
  change (resY _ _).bind AV.fzt = some _
  refine ret_r rfl ?_
  rw [joinV_else hk4 hk10 hk9 hk5 hk6 hx, if_neg (by rw [h34]; decide), if_pos h36]
 have h36 := h206
 refine rn6 ?_; refine awp_ret ?_
 change (resY _ _).bind AV.fzt = some _
 refine ret_r rfl ?_
 rw [joinV_else hk4 hk10 hk9 hk5 hk6 hx, if_neg (by rw [h34]; decide), if_neg (by rw [h36]; decide)]; rfl
theorem join_fc (l : Lat) (hO : OkL l) (hJ : JoL l) (a b : Val) (ha : elemB a l = true) (hb : elemB b l = true) (sa : SmV 500000 a) (sb : SmV 500000 b) : FC Tryz.prog 142 [.agg (latL l), .agg (valL a), .agg (valL b)] (.agg (valL (joinV l a b))) := join_s l hO hJ (fun q hq x y hx hy sx sy => join_fc q (hO.part q hq) (hJ.part q hq) x y hx hy sx sy) a b ha hb sa sb
termination_by l
decreasing_by exact Lat.sizeOf_ps ‹_›
end Go.Proofs.YtaecccdkjmipeaaGreat
