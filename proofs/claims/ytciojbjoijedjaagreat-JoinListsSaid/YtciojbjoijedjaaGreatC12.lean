/-
  Plain laws: the reference's chains (the least of the rest first) are the program's.
  Contracts of the reference: joins of lists, maximal elements, chains.
-/
import Derived.Test.YtciojbjoijedjaaGreatB24
import Derived.Test.YtciojbjoijedjaaGreatB17
import Derived.Test.YtciojbjoijedjaaGreatC10
namespace Go.Proofs.YtciojbjoijedjaaGreat
open Go.RowKit
/-- x comes before y: smaller, or equal and earlier -/
def beR (l : Lat) (vs : List Val) (x y : Int) : Prop := leqB l (getV vs x) (getV vs y) = true ∧ (leqB l (getV vs y) (getV vs x) = true → x < y)
/-- what has been chosen so far -/
structure SelC (l : Lat) (vs : List Val) (out : List Int) : Prop where
 rg : ∀ y ∈ out, 0 ≤ y ∧ y < vs.length
 nd : out.Nodup
 pw : out.Pairwise (beR l vs)
 lo : ∀ y ∈ out, ∀ j : Int, 0 ≤ j → j < vs.length → j ∉ out → beR l vs y j
/-- the least of the rest among the first i -/
def NextC (l : Lat) (vs : List Val) (out : List Int) (i : Nat) (nx : Int) : Prop :=
 (nx = -1 ∧ ∀ j : Int, 0 ≤ j → j < i → j ∈ out) ∨ (0 ≤ nx ∧ nx < i ∧ nx ∉ out ∧ ∀ j : Int, 0 ≤ j → j < i → j ∉ out → j ≠ nx → beR l vs nx j)
section
variable {l : Lat} {vs : List Val} (hO : OkL l) (hel : ∀ v ∈ vs, elemB v l = true)
include hO hel
theorem chain_stab : ∀ (k : Nat) (out : List Int), k ≤ vs.length → chainN l vs k = some out → out.Pairwise (beR l vs)
 | 0, out, _, h => by cases h; exact List.Pairwise.nil
 | k + 1, out, hk, h => by
  obtain ⟨v, hv⟩ := get_lt (show k < vs.length by omega)
  cases hc : chainN l vs k with
  | none => have := chainN_none hc 1; rw [h] at this; cases this
  | some o1 =>
   have hgood := chain_good hO hel (k + 1) out hk h
   rw [chainN_succ hc hv, chainStep] at h
   obtain ⟨m, nd, pw⟩ := chain_good hO hel k o1 (by omega) hc
   have ih := chain_stab k o1 (by omega) hc
   split at h
   ·cases h
    have hve := hel v (List.mem_of_getElem? hv)
    have ge : ∀ {y}, y ∈ o1 → elemB (getV vs y) l = true := fun hy => getV_el hel ((m _).1 hy) (by omega)
    have hp : o1.Pairwise (fun x y => lowAt l vs v y = true → lowAt l vs v x = true) := by
     refine List.Pairwise.imp_of_mem (fun {x y} hx hy hxy hl => ?_) pw
     exact leq_trans l hO _ _ _ (ge hx) (ge hy) hve hxy hl
    obtain ⟨t1, t2⟩ := part_of hp
    have hpw := hgood.pw
    unfold insL at hpw ⊢
    have pw' : (o1.take (o1.countP (lowAt l vs v)) ++ o1.drop (o1.countP (lowAt l vs v))).Pairwise (beR l vs) := by rw [List.take_append_drop]; exact ih
    obtain ⟨q1, q2, q3⟩ := List.pairwise_append.1 pw'
    obtain ⟨-, w2, w3⟩ := List.pairwise_append.1 hpw
    obtain ⟨w4, -⟩ := List.pairwise_cons.1 w2
    refine List.pairwise_append.2 ⟨q1, List.pairwise_cons.2 ⟨fun y hy => ⟨w4 y hy, fun hl => ?_⟩, q2⟩, fun x hx y hy => ?_⟩
    ·have h1 := t2 y hy
     unfold lowAt at h1
     rw [getV_of hv, h1] at hl; cases hl
    rcases List.mem_cons.1 hy with rfl | hy
    ·exact ⟨w3 x hx _ List.mem_cons_self, fun _ => ((m x).1 (List.mem_of_mem_take hx)).2⟩
    exact q3 x hx y hy
   cases h
theorem next_step (tot : ∀ (i j : Nat), i < vs.length → j < vs.length → leqB l (getV vs i) (getV vs j) = true ∨ leqB l (getV vs j) (getV vs i) = true) {out : List Int} {i : Nat} {nx : Int} (hi : i < vs.length) (h : NextC l vs out i nx) :
  NextC l vs out (i + 1) (if !decide ((i : Int) ∈ out) && (decide (nx < 0) || (leqB l (getV vs i) (getV vs nx) && !leqB l (getV vs nx) (getV vs i))) then (i : Int) else nx) := by
 have ge : ∀ {y : Int}, 0 ≤ y → y < vs.length → elemB (getV vs y) l = true := fun h1 h2 => getV_el hel ⟨h1, h2⟩ (Nat.le_refl _)
 have ei := ge (y := (i : Int)) (by omega) (by omega)
 by_cases hm : (i : Int) ∈ out
 ·simp only [hm, decide_true, Bool.not_true, Bool.false_and, Bool.false_eq_true, if_false]
  rcases h with ⟨h1, h2⟩ | ⟨h1, h2, h3, h4⟩
  ·exact .inl ⟨h1, fun j hj0 hj => by
    by_cases e : j = (i : Int)
    ·rw [e]; exact hm
    exact h2 j hj0 (by omega)⟩
  exact .inr ⟨h1, by omega, h3, fun j hj0 hj hjo hjn => h4 j hj0 (by
   have : j ≠ (i : Int) := fun e => hjo (e ▸ hm)
   omega) hjo hjn⟩
 simp only [hm, decide_false, Bool.not_false, Bool.true_and]
 rcases h with ⟨h1, h2⟩ | ⟨h1, h2, h3, h4⟩
 ·subst h1
  simp only [show ((-1 : Int) < 0) from by decide, decide_true, Bool.true_or, if_true]
  refine .inr ⟨by omega, by omega, hm, fun j hj0 hj hjo hjn => absurd (h2 j hj0 (by omega)) hjo⟩
 have h5 : ¬ nx < 0 := by omega
 have en := ge h1 (show nx < vs.length by omega)
 simp only [h5, decide_false, Bool.false_or]
 cases hb : (leqB l (getV vs i) (getV vs nx) && !leqB l (getV vs nx) (getV vs i)) with
 | true =>
  simp only [Bool.and_eq_true, Bool.not_eq_true'] at hb
  rw [if_pos rfl]
  refine .inr ⟨by omega, by omega, hm, fun j hj0 hj hjo hjn => ?_⟩
  by_cases e : j = nx
  ·subst e; exact ⟨hb.1, fun hl => by rw [hb.2] at hl; cases hl⟩
  have ej := ge hj0 (show j < vs.length by omega)
  obtain ⟨g1, g2⟩ := h4 j hj0 (by omega) hjo e
  refine ⟨leq_trans l hO _ _ _ ei en ej hb.1 g1, fun hl => ?_⟩
  have := leq_trans l hO _ _ _ en ej ei g1 hl
  rw [hb.2] at this; cases this
 | false =>
  rw [if_neg (by decide)]
  refine .inr ⟨h1, by omega, h3, fun j hj0 hj hjo hjn => ?_⟩
  by_cases e : j = (i : Int)
  ·subst e
   refine ⟨?_, fun _ => h2⟩
   obtain ⟨n, rfl⟩ : ∃ n : Nat, nx = n := ⟨nx.toNat, by omega⟩
   rcases tot n i (by omega) hi with ht | ht
   ·exact ht
   rw [ht, Bool.true_and, Bool.not_eq_false'] at hb; exact hb
  exact h4 j hj0 (by omega) hjo hjn
omit hO hel in
theorem next_zero (out : List Int) : NextC l vs out 0 (-1) := .inl ⟨rfl, fun j h1 h2 => by omega⟩
omit hO hel in
theorem rg_len {out : List Int} (h1 : ∀ y ∈ out, 0 ≤ y ∧ y < vs.length) (h2 : out.Nodup) : out.length ≤ vs.length := by
 have := nodup_sub out ((List.range vs.length).map fun (n : Nat) => (n : Int)) h2 (fun y hy => List.mem_map.2 ⟨y.toNat, List.mem_range.2 (by have := h1 y hy; omega), by have := h1 y hy; omega⟩)
 simpa using this
omit hO hel in
theorem rg_ge {out : List Int} (h : ∀ j : Int, 0 ≤ j → j < vs.length → j ∈ out) : vs.length ≤ out.length := by
 have nd : ((List.range vs.length).map fun (n : Nat) => (n : Int)).Nodup := by
  show List.Pairwise _ _
  rw [List.pairwise_map]
  exact (List.nodup_range (n := vs.length)).imp (fun {a b} h e => h (by omega))
 have := nodup_sub _ out nd (fun y hy => by
  obtain ⟨n, hn, rfl⟩ := List.mem_map.1 hy
  have := List.mem_range.1 hn
  exact h _ (by omega) (by omega))
 simpa using this
omit hO hel in
theorem sel_next {out : List Int} {nx : Int} (hS : SelC l vs out) (hlt : out.length < vs.length) (h : NextC l vs out vs.length nx) : 0 ≤ nx ∧ nx < vs.length ∧ SelC l vs (out ++ [nx]) := by
 rcases h with ⟨-, h2⟩ | ⟨h1, h2, h3, h4⟩
 ·have := rg_ge h2; omega
 refine ⟨h1, h2, fun y hy => ?_, ?_, ?_, fun y hy j hj0 hj hjo => ?_⟩
 ·rcases List.mem_append.1 hy with hy | hy
  ·exact hS.rg y hy
  rw [List.mem_singleton.1 hy]; exact ⟨h1, h2⟩
 ·refine List.nodup_append.2 ⟨hS.nd, by simp, fun a ha b hb e => h3 ?_⟩
  rw [← List.mem_singleton.1 hb, ← e]; exact ha
 ·refine List.pairwise_append.2 ⟨hS.pw, by simp, fun x hx y hy => ?_⟩
  rw [List.mem_singleton.1 hy]
  exact hS.lo x hx nx h1 h2 h3
 have hjo1 : j ∉ out := fun hm => hjo (List.mem_append.2 (.inl hm))
 have hjo2 : j ≠ nx := fun e => hjo (List.mem_append.2 (.inr (by simp [e])))
 rcases List.mem_append.1 hy with hy | hy
 ·exact hS.lo y hy j hj0 hj hjo1
 rw [List.mem_singleton.1 hy]; exact h4 j hj0 hj hjo1 hjo2
omit hO hel in
theorem sel_nil : SelC l vs [] := ⟨fun y h => by simp at h, List.nodup_nil, List.Pairwise.nil, fun y h => by simp at h⟩
theorem sel_chain {out o : List Int} (hc : chainN l vs vs.length = some o) (hS : SelC l vs out) (hge : vs.length ≤ out.length) : out = o := by
 obtain ⟨m, nd, -⟩ := chain_good hO hel _ o (Nat.le_refl _) hc
 have hperm : out.Perm o := by
  refine (List.perm_ext_iff_of_nodup hS.nd nd).2 fun y => ⟨fun hy => (m y).2 (hS.rg y hy), fun hy => ?_⟩
  by_cases hc : y ∈ out
  ·exact hc
  have hr := (m y).1 hy
  have := rg_len (vs := vs) (out := y :: out) (fun z hz => by
   rcases List.mem_cons.1 hz with rfl | hz
   ·exact hr
   exact hS.rg z hz) (List.nodup_cons.2 ⟨hc, hS.nd⟩)
  simp only [List.length_cons] at this
  omega
 refine hperm.eq_of_pairwise (fun x y _ _ h1 h2 => ?_) hS.pw (chain_stab hO hel _ o (Nat.le_refl _) hc)
 have a1 := h1.2 h2.1
 have a2 := h2.2 h1.1
 omega
end
end Go.Proofs.YtciojbjoijedjaaGreat

namespace Go.Proofs.YtciojbjoijedjaaGreat
open Go.RowKit
set_option maxRecDepth 100000 in
set_option maxHeartbeats 1000000 in
theorem rBottom_fc (l : Lat) : FC Tryz.prog 56 [.agg (latL l)] (.tup [.agg (valL (bottomC l).1), i64 (bottomC l).2]) := by
 refine fc_of_awpR [.c 2 30 4 true, .t 3] ⟨⟨inferInstance, rfl⟩, trivial⟩ Tryz.func56 rfl rfl 10 Tryz.ntmps56 (Nat.le_of_ble_eq_true rfl) ?_
 intro E hN
 refine zG ?_
 refine zX ?_
 refine zO ?_
 refine zT ?_
 refine zH ?_
 refine zL ?_
 refine zP (q_call (r9Check_fc l) rfl rfl rfl) ?_
 refine zB ?_
 refine zN ?_
 refine c_cond rfl (fun h6 => ?_) (fun h6 => ?_)
 ·
  have h1 : ¬ checkX l = 0 := by simpa using h6
  refine zG ?_
  refine zP (q_build rfl rfl rfl) ?_
  refine zC ?_
  refine zT ?_
  refine awp_ret ?_
  change (resY _ _).bind AV.fzt = some _
  refine ret_r rfl ?_
  rw [bottomC, if_neg h1]; rfl
 have h1 : checkX l = 0 := by simpa using h6
 refine zW ?_
 refine zG ?_
 refine zL ?_
 refine zP (q_call (rleast_fc l (check_ok h1)) rfl rfl rfl) ?_
 refine zC ?_
 refine zT ?_
 refine awp_ret ?_
 change (resY _ _).bind AV.fzt = some _
 refine ret_r rfl ?_
 rw [bottomC, if_pos h1]
set_option maxRecDepth 100000 in
set_option maxHeartbeats 1000000 in
theorem rJoinAll_fc (l : Lat) (vs : List Val) (hS : ∀ v ∈ vs, SmV 1000 v) (hl : vs.length ≤ 100) : FC Tryz.prog 31 [.agg (latL l), vals vs] (.tup [.agg (valL (joinAllV l vs).1), i64 (joinAllV l vs).2]) := by
 refine fc_of_awpR [.c 4 30 4 true, .t 5] ⟨⟨inferInstance, rfl⟩, trivial⟩ Tryz.func31 rfl rfl 36 Tryz.ntmps31 (Nat.le_of_ble_eq_true rfl) ?_
 intro E hN
 refine zG ?_
 refine zX ?_
 refine zO ?_
 refine zT ?_
 refine zH ?_
 refine zL ?_
 refine zM ?_
 refine zP (q_call (rcheck_fc l vs) rfl rfl rfl) ?_
 refine zS ?_
 refine zA ?_
 refine zM ?_
 refine zB ?_
 refine zN ?_
 refine c_cond rfl (fun h7 => ?_) (fun h7 => ?_)
 ·
  have h1 : ¬ checkJ l vs = 0 := by simpa using h7
  refine zG ?_
  refine zP (q_build rfl rfl rfl) ?_
  refine zM ?_
  refine zC ?_
  refine zT ?_
  refine awp_ret ?_
  change (resY _ _).bind AV.fzt = some _
  refine ret_r rfl ?_
  rw [joinAllV, if_neg h1]; rfl
 have h1 : checkJ l vs = 0 := by simpa using h7
 have hc := checkJ_ok h1
 have hF := fold_ok (check_ok hc.1) (fun v hv => ⟨hc.2 v hv, hS v hv⟩) hl
 refine zW ?_
 refine zG ?_
 refine zL ?_
 refine zP (q_call (rBottom_fc l) rfl rfl rfl) ?_
 refine zM ?_
 refine zP (q_extract rfl rfl rfl) ?_
 refine zP (q_extract rfl rfl rfl) ?_
 refine zO ?_
 refine zC ?_
 refine zT ?_
 refine zH ?_
 refine zT ?_
 refine awp_block ?_
 refine awp_loop (fun x : {k : Nat // k ≤ (vs).length ∧ True} => ⟨[(1, vals vs), (2, .ptr 0 0), (4, .ptr 1 0), (7, .ptr 2 0), (9, i64 (x.1 : Nat))], [(0, .var 26 (latL l)), (1, .var 30 [i64 0, .p (.slice none 0 0), .p (.slice none 0 0), .p (.slice none 0 0)]), (2, .var 30 (valL (foldJ l (vs.take x.1))))], 3⟩) (fun x => (vs).length - x.1) (⟨0, Nat.zero_le _, by simp⟩) ?_ ?_
 ·
  exact weak_scrub' rfl (zz4 (zz1 trivial)) ⟨rfl, rfl, rfl, rfl, rfl, rfl, (cgVal (by rw [bottomC, if_pos hc.1]; rfl)), rfl, rfl, trivial⟩
 rintro ⟨k, hk, hg⟩
 dsimp only
 refine zH ?_
 refine zM ?_
 refine zM ?_
 refine zE ?_
 refine zB ?_
 refine zN ?_
 refine c_cond rfl (fun h21 => ?_) (fun h21 => ?_)
 ·
  have hlt : k < (vs).length := by simpa using h21
  obtain ⟨x, hx⟩ := get_lt hlt
  refine zW ?_
  refine awp_seq ?_
  refine awp_block ?_
  refine awp_draw 7 (by kernel_rfl) (by kernel_rfl) ?_
  refine zl ?_
  refine zl ?_
  refine zm ?_
  refine zm ?_
  refine zp (q_elem rfl rfl rfl k rfl _ (val_get hx) rfl) ?_
  refine zl ?_
  refine zp (q_call (bound_fc true (n := 500000) (m := 500000) (by decide) l (check_ok hc.1) (ChL.of l hc.1) (fun e => by cases e) _ x (hF.2.2 k hk).1 (hc.2 x (List.mem_of_getElem? hx)) (hF.2.2 k hk).2 (hF.2.1 x (List.mem_of_getElem? hx))) rfl rfl rfl) ?_
  change AOps _ _ _ _ _ _
  refine zC ?_
  refine aops_nil ?_
  change AWP _ _ _ _  _
  refine awp_region ?_
  refine zM ?_
  refine zP (q_addi rfl rfl rfl (by omega)) ?_
  refine zS ?_
  refine aops_nil ?_
  exact ⟨⟨k + 1, hlt, trivial⟩, weak_scrub' rfl (zz4 ⟨(cgI (by dsimp only; omega)), rfl, trivial⟩) ⟨rfl, rfl, rfl, rfl, rfl, rfl, (cgVal (foldJ_succ hx).symm), rfl, rfl, trivial⟩, by dsimp only; omega⟩
 have hge : (vs).length ≤ k := by simpa using h21
 rw [List.take_of_length_le hge]
 refine awp_exit ?_
 change AWP _ _ _ _  _
 refine zG ?_
 refine zL ?_
 refine zC ?_
 refine zT ?_
 refine awp_ret ?_
 change (resY _ _).bind AV.fzt = some _
 refine ret_r rfl ?_
 rw [joinAllV, if_pos h1]
set_option maxRecDepth 100000 in
set_option maxHeartbeats 1000000 in
theorem rhas_fc (l : List Int) (n : Int) : FC Tryz.prog 58 [ivs l, i64 n] (bl (decide (n ∈ l))) := by
 refine fc_of_awp [4] Tryz.func58 rfl rfl 18 Tryz.ntmps58 (Nat.le_of_ble_eq_true rfl) ?_
 intro E hN
 refine a_lm 0 rfl (fun hl0 => ?_)
 have hE : l.any (fun y => y == n) = decide (n ∈ l) := by rw [Bool.eq_iff_iff]; simp
 rw [← hE]
 refine zG ?_
 refine zT ?_
 refine zH ?_
 refine zT ?_
 refine awp_block ?_
 refine awp_loop (fun x : {k : Nat // k ≤ (l).length ∧ (l.drop k).any (fun y => y == n) = l.any (fun y => y == n)} => ⟨[(0, ivs l), (1, i64 n), (5, i64 (x.1 : Nat))], [], 0⟩) (fun x => (l).length - x.1) (⟨0, Nat.zero_le _, by simp⟩) ?_ ?_
 ·
  exact weak_scrub' rfl (zz3 trivial) trivial
 rintro ⟨k, hk, hg⟩
 dsimp only
 refine zH ?_
 refine zM ?_
 refine zM ?_
 refine zE ?_
 refine zB ?_
 refine zN ?_
 refine c_cond rfl (fun h6 => ?_) (fun h6 => ?_)
 ·
  have hlt : k < (l).length := by simpa using h6
  obtain ⟨x, hx⟩ := get_lt hlt
  refine zW ?_
  refine awp_seq ?_
  refine awp_block ?_
  refine zG ?_
  refine zM ?_
  refine zM ?_
  refine zP (q_elem rfl rfl rfl k rfl _ (map_get hx) rfl) ?_
  refine zL ?_
  refine zM ?_
  refine zB ?_
  refine zN ?_
  refine c_cond rfl (fun h9 => ?_) (fun h9 => ?_)
  ·
   have h4 := h9
   refine zG ?_
   refine zS ?_
   refine zQ ?_
   exact retB (any_yes hg hx (by simpa using h4)).symm
  have h4 := h9
  refine awp_skip ?_
  change AWP _ _ _ _  _
  refine awp_region ?_
  refine zM ?_
  refine zP (q_addi rfl rfl rfl (by omega)) ?_
  refine zS ?_
  refine aops_nil ?_
  exact ⟨⟨k + 1, hlt, any_go hg hx (by simpa using h4)⟩, weak_scrub' rfl (zz2 ⟨(cgI (by dsimp only; omega)), rfl, trivial⟩) trivial, by dsimp only; omega⟩
 have hge : (l).length ≤ k := by simpa using h6
 refine awp_exit ?_
 change AWP _ _ _ _  _
 refine zG ?_
 refine zS ?_
 refine zQ ?_
 exact retB (any_end hg hge).symm
set_option maxRecDepth 100000 in
set_option maxHeartbeats 1000000 in
theorem rMaximal_fc (l : Lat) (vs : List Val) (hS : ∀ v ∈ vs, SmV 1000000 v) (hl : vs.length ≤ 1000000) : FC Tryz.prog 35 [.agg (latL l), vals vs] (.tup [ivs (maximalV l vs).1, i64 (maximalV l vs).2]) := by
 refine fc_of_awp [4, 5] Tryz.func35 rfl rfl 67 Tryz.ntmps35 (Nat.le_of_ble_eq_true rfl) ?_
 intro E hN
 refine zG ?_
 refine zX ?_
 refine zS ?_
 refine zT ?_
 refine zH ?_
 refine zL ?_
 refine zM ?_
 refine zP (q_call (rcheck_fc l vs) rfl rfl rfl) ?_
 refine zS ?_
 refine zA ?_
 refine zM ?_
 refine zB ?_
 refine zN ?_
 refine c_cond rfl (fun h6 => ?_) (fun h6 => ?_)
 ·
  have h1 : ¬ checkJ l vs = 0 := by simpa using h6
  refine zG ?_
  refine zM ?_
  refine zS ?_
  refine zS ?_
  refine zQ ?_
  rw [maximalV, if_neg h1]; rfl
 have h1 : checkJ l vs = 0 := by simpa using h6
 have hc := checkJ_ok h1
 refine zW ?_
 refine zG ?_
 refine zT ?_
 refine zH ?_
 refine zT ?_
 refine awp_block ?_
 refine awp_weak (weak_own rfl 7 3 1 rfl) ?_
 refine awp_loop (fun x : {k : Nat // k ≤ (vs).length ∧ True} => ⟨[(1, vals vs), (2, .ptr 0 0), (7, .own 1 (mxl l vs x.1).length), (8, i64 (x.1 : Nat))], [(0, .var 26 (latL l)), (1, .arr 3 1 ((mxl l vs x.1).map iv1))], 2⟩) (fun x => (vs).length - x.1) (⟨0, Nat.zero_le _, by simp⟩) ?_ ?_
 ·
  exact weak_scrub' rfl (zz4 trivial) ⟨rfl, rfl, rfl, rfl, rfl, (ok_arr (fun _ => rfl) _), trivial⟩
 rintro ⟨k, hk, hg⟩
 dsimp only
 refine zH ?_
 refine zM ?_
 refine zM ?_
 refine zE ?_
 refine zB ?_
 refine zN ?_
 refine c_cond rfl (fun h11 => ?_) (fun h11 => ?_)
 ·
  have hlt : k < (vs).length := by simpa using h11
  obtain ⟨x, hx⟩ := get_lt hlt
  refine zW ?_
  refine awp_seq ?_
  refine awp_block ?_
  refine zG ?_
  refine zT ?_
  refine zH ?_
  refine zT ?_
  refine awp_block ?_
  refine awp_loop (fun z : {j : Nat // j ≤ vs.length} => ⟨[(1, vals vs), (2, .ptr 0 0), (7, .own 1 (mxl l vs k).length), (8, i64 (k : Nat)), (9, bl ((vs.zipIdx.take z.1).all (keepP l x k))), (10, i64 (z.1 : Nat))], [(0, .var 26 (latL l)), (1, .arr 3 1 ((mxl l vs k).map iv1))], 2⟩) (fun z => vs.length - z.1) (⟨0, Nat.zero_le _⟩) ?_ ?_
  ·
   exact weak_scrub' rfl (zz4 ⟨(cgB (by simp)), rfl, (zz1 trivial)⟩) ⟨rfl, rfl, rfl, rfl, rfl, (ok_arr (fun _ => rfl) _), trivial⟩
  rintro ⟨j, hj⟩
  dsimp only
  refine zH ?_
  refine zM ?_
  refine zM ?_
  refine zE ?_
  refine zB ?_
  refine zN ?_
  refine c_cond rfl (fun h18 => ?_) (fun h18 => ?_)
  ·
   have hjl : j < vs.length := by simpa using h18
   obtain ⟨y, hy⟩ := get_lt hjl
   refine zW ?_
   refine awp_seq ?_
   refine awp_block ?_
   refine awp_seq ?_
   refine awp_draw 9 (by kernel_rfl) (by kernel_rfl) ?_
   refine zm ?_
   refine zm ?_
   refine zp (q_elem rfl rfl rfl k rfl _ (val_get hx) rfl) ?_
   refine zl ?_
   refine zm ?_
   refine zm ?_
   refine zp (q_elem rfl rfl rfl j rfl _ (val_get hy) rfl) ?_
   refine zl ?_
   refine zp (q_call (rEqual_fc x y) rfl rfl rfl) ?_
   change AOps _ _ _ _ _ _
   refine zT ?_
   refine awp_seq ?_
   refine awp_draw 21 (by kernel_rfl) (by kernel_rfl) ?_
   refine zm ?_
   refine zm ?_
   refine d_case 40 rfl (fun h23 => ?_) (fun h23 => ?_)
   ·
    refine vP (w11 h23) (q_move rfl rfl) ?_
    refine vP (w11 h23) (q_move rfl rfl) ?_
    refine vP (w11 h23) (q_bin rfl rfl rfl) ?_
    refine zp (q_pick1 rfl rfl h23 rfl) ?_
    refine zm ?_
    refine d_case 45 rfl (fun h24 => ?_) (fun h24 => ?_)
    ·
     refine vK (w10 h24) ?_
     refine vK (w10 h24) ?_
     refine vK (w10 h24) ?_
     refine zk ?_
     refine zk ?_
     refine zk ?_
     refine zk ?_
     refine zk ?_
     refine zk ?_
     refine zk ?_
     refine zk ?_
     refine zk ?_
     refine zk ?_
     refine vK (w10 h24) ?_
     change AOps _ _ _ _ _ _
     refine zP (q_pick1 rfl rfl h24 rfl) ?_
     refine zN ?_
     refine c_true rfl rfl ?_
     refine awp_region ?_
     refine zS ?_
     refine aops_nil ?_
     change AWP _ _ _ _  _
     refine awp_region ?_
     refine zM ?_
     refine zP (q_addi rfl rfl rfl (by omega)) ?_
     refine zS ?_
     refine aops_nil ?_
     exact ⟨⟨j + 1, hjl⟩, weak_scrub' rfl (zz4 ⟨(cgB (by rw [all_take (zipV_get hy)]; simp_all [keepP])), rfl, (cgI (by dsimp only; omega)), rfl, trivial⟩) ⟨rfl, rfl, rfl, rfl, rfl, (ok_arr (fun _ => rfl) _), trivial⟩, by dsimp only; omega⟩
    refine vP (w00 h24) (q_move rfl rfl) ?_
    refine vP (w00 h24) (q_not rfl rfl) ?_
    refine vP (w00 h24) (q_move rfl rfl) ?_
    refine vK (w01 (m1 h23)) ?_
    refine vK (w01 (m1 h23)) ?_
    refine vK (w01 (m1 h23)) ?_
    refine vK (w01 (m1 h23)) ?_
    refine vK (w01 (m1 h23)) ?_
    refine vK (w01 (m1 h23)) ?_
    refine vK (w01 (m1 h23)) ?_
    refine vK (w01 (m1 h23)) ?_
    refine vK (w01 (m1 h23)) ?_
    refine vK (w01 (m1 h23)) ?_
    refine vP (w00 h24) (q_pick0 rfl rfl (m1 h23) rfl) ?_
    change AOps _ _ _ _ _ _
    refine zP (q_pick0 rfl rfl h24 rfl) ?_
    refine zN ?_
    refine c_false rfl rfl ?_
    refine awp_skip ?_
    change AWP _ _ _ _  _
    refine awp_region ?_
    refine zM ?_
    refine zP (q_addi rfl rfl rfl (by omega)) ?_
    refine zS ?_
    refine aops_nil ?_
    exact ⟨⟨j + 1, hjl⟩, weak_scrub' rfl (zz4 ⟨(cgB (by rw [all_take (zipV_get hy)]; simp_all [keepP])), rfl, (cgI (by dsimp only; omega)), rfl, trivial⟩) ⟨rfl, rfl, rfl, rfl, rfl, (ok_arr (fun _ => rfl) _), trivial⟩, by dsimp only; omega⟩
   refine vK (w01 h23) ?_
   refine vK (w01 h23) ?_
   refine vK (w01 h23) ?_
   refine zp (q_pick0 rfl rfl h23 rfl) ?_
   refine zm ?_
   refine zm ?_
   refine zp (q_not rfl rfl) ?_
   refine zm ?_
   refine vP (w11 (m0 h23)) (q_load rfl rfl rfl rfl rfl) ?_
   refine vP (w11 (m0 h23)) (q_move rfl rfl) ?_
   refine vP (w11 (m0 h23)) (q_move rfl rfl) ?_
   refine vP (w11 (m0 h23)) (q_elem rfl rfl rfl k rfl _ (val_get hx) rfl) ?_
   refine vP (w11 (m0 h23)) (q_load rfl rfl rfl rfl rfl) ?_
   refine vP (w11 (m0 h23)) (q_move rfl rfl) ?_
   refine vP (w11 (m0 h23)) (q_move rfl rfl) ?_
   refine vP (w11 (m0 h23)) (q_elem rfl rfl rfl j rfl _ (val_get hy) rfl) ?_
   refine vP (w11 (m0 h23)) (q_load rfl rfl rfl rfl rfl) ?_
   refine vP (w11 (m0 h23)) (q_call (rleq_fc l (check_ok hc.1) x y (hc.2 x (List.mem_of_getElem? hx)) (hc.2 y (List.mem_of_getElem? hy)) (hS x (List.mem_of_getElem? hx))) rfl rfl rfl) ?_
   refine zp (q_pick1 rfl rfl (m0 h23) rfl) ?_
   change AOps _ _ _ _ _ _
   refine zP (q_pick0 rfl rfl rfl rfl) ?_
   refine zN ?_
   refine c_cond rfl (fun h32 => ?_) (fun h32 => ?_)
   ·
    refine awp_region ?_
    refine zS ?_
    refine aops_nil ?_
    change AWP _ _ _ _  _
    refine awp_region ?_
    refine zM ?_
    refine zP (q_addi rfl rfl rfl (by omega)) ?_
    refine zS ?_
    refine aops_nil ?_
    exact ⟨⟨j + 1, hjl⟩, weak_scrub' rfl (zz4 ⟨(cgB (by rw [all_take (zipV_get hy)]; simp_all [keepP])), rfl, (cgI (by dsimp only; omega)), rfl, trivial⟩) ⟨rfl, rfl, rfl, rfl, rfl, (ok_arr (fun _ => rfl) _), trivial⟩, by dsimp only; omega⟩
   refine awp_skip ?_
   change AWP _ _ _ _  _
   refine awp_region ?_
   refine zM ?_
   refine zP (q_addi rfl rfl rfl (by omega)) ?_
   refine zS ?_
   refine aops_nil ?_
   exact ⟨⟨j + 1, hjl⟩, weak_scrub' rfl (zz4 ⟨(cgB (by rw [all_take (zipV_get hy)]; simp_all [keepP])), rfl, (cgI (by dsimp only; omega)), rfl, trivial⟩) ⟨rfl, rfl, rfl, rfl, rfl, (ok_arr (fun _ => rfl) _), trivial⟩, by dsimp only; omega⟩
  have hgej : vs.length ≤ j := by simpa using h18
  rw [List.take_of_length_le (show vs.zipIdx.length ≤ j by simp; omega)]
  refine awp_exit ?_
  change AWP _ _ _ _  _
  refine zG ?_
  refine zV ?_
  refine c_cond rfl (fun h15 => ?_) (fun h15 => ?_)
  ·
   have hK : keepM l vs x k = true := h15
   refine awp_region ?_
   refine zM ?_
   refine zM ?_
   refine zP (q_bslice rfl rfl rfl rfl (by exact rfl) (by decide) (by decide)) ?_
   refine s_append_own hN rfl rfl rfl (by simp) rfl rfl rfl (by have := mxl_len l vs k; simp [chunk_1]; omega) rfl rfl rfl rfl ?_
   refine zS ?_
   refine aops_nil ?_
   change AWP _ _ _ _  _
   refine awp_region ?_
   refine zM ?_
   refine zP (q_addi rfl rfl rfl (by omega)) ?_
   refine zS ?_
   refine aops_nil ?_
   exact ⟨⟨k + 1, hlt, trivial⟩, weak_scrub' rfl (zz2 ⟨(cgO (by rw [mxl_succ hx, hK]; simp [chunk_1])), rfl, (cgI (by dsimp only; omega)), rfl, trivial⟩) ⟨rfl, rfl, rfl, (cgA (by rw [mxl_succ hx, hK]; simp [chunk_1, iv1])), rfl, (ok_arr (fun _ => rfl) _), trivial⟩, by dsimp only; omega⟩
  have hK : keepM l vs x k = false := h15
  refine awp_skip ?_
  change AWP _ _ _ _  _
  refine awp_region ?_
  refine zM ?_
  refine zP (q_addi rfl rfl rfl (by omega)) ?_
  refine zS ?_
  refine aops_nil ?_
  exact ⟨⟨k + 1, hlt, trivial⟩, weak_scrub' rfl (zz2 ⟨(cgO (by rw [mxl_succ hx, hK]; simp [chunk_1])), rfl, (cgI (by dsimp only; omega)), rfl, trivial⟩) ⟨rfl, rfl, rfl, (cgA (by rw [mxl_succ hx, hK]; simp [chunk_1, iv1])), rfl, (ok_arr (fun _ => rfl) _), trivial⟩, by dsimp only; omega⟩
 have hge : vs.length ≤ k := by simpa using h11
 obtain rfl : k = vs.length := by omega
 refine awp_exit ?_
 change AWP _ _ _ _  _
 refine zG ?_
 refine zM ?_
 refine zS ?_
 refine zT ?_
 refine awp_weak (weak_frow 4 1 rfl rfl (by simp) (all_okE (fun _ => rfl) _) (fzs_iv2 _) rfl) ?_
 refine zR ?_
 rw [maximalV, if_pos h1]
end Go.Proofs.YtciojbjoijedjaaGreat
