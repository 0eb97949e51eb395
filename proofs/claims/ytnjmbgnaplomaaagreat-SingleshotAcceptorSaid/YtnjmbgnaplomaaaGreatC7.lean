/-
  Contracts of the reference: the order of a lattice's elements.
  Contracts: the law JoinCompares.
-/
import Derived.Test.YtnjmbgnaplomaaaGreatC6
import Derived.Test.YtnjmbgnaplomaaaGreatB13
import Derived.Test.YtnjmbgnaplomaaaGreatB16
namespace Go.Proofs.YtnjmbgnaplomaaaGreat
open Go.RowKit
set_option maxRecDepth 100000 in
set_option maxHeartbeats 1000000 in
theorem rUnder_fc (x y : En) : FC Tryz.prog 114 [.agg (enC x), .agg (enC y)] (bl (underR x y)) := by
 refine fc_of_awp [4] Tryz.func114 rfl rfl 24 Tryz.ntmps114 (Nat.le_of_ble_eq_true rfl) ?_
 intro E hN
 refine zG ?_; refine zX ?_; refine zX ?_; refine zS ?_; refine zA ?_; refine zF ?_; refine zL ?_; refine zF ?_; refine zL ?_; refine zB ?_
 refine zM ?_
 refine zc 10 ?_ ?_ <;> intro h9
 ·
  refine uF (w11 h9) ?_; refine uL (w11 h9) ?_; refine uF (w11 h9) ?_; refine uL (w11 h9) ?_
  refine uP (w11 h9) (q_call (rsameC_fc _ _) rfl rfl rfl) ?_; refine zh1 h9 ?_; refine zM ?_
  refine zc 17 ?_ ?_ <;> intro h14
  ·
   iterate 5 refine uK (w10 h14) ?_
   refine zh1 h14 ?_; refine zS ?_; refine zQ ?_
   exact retB (by simp_all [underR])
  refine uF (w00 h14) ?_; refine uL (w00 h14) ?_; refine uF (w00 h14) ?_; refine uL (w00 h14) ?_
  refine uP (w00 h14) (q_call (rbelow_fc _ _) rfl rfl rfl) ?_; refine zh0 h14 ?_; refine zS ?_; refine zQ ?_
  exact retB (by simp_all [underR])
 iterate 5 refine uK (w01 h9) ?_
 refine zh0 h9 ?_; refine zM ?_; refine zF ?_; refine zL ?_; refine zF ?_; refine zL ?_; refine zP (q_call (rbelow_fc _ _) rfl rfl rfl) ?_
 refine zh0 rfl ?_; refine zS ?_; refine zQ ?_
 exact retB (by simp_all [underR])
set_option maxRecDepth 100000 in
set_option maxHeartbeats 1000000 in
theorem rkey_fc (v : Val) (s : Nm) : FC Tryz.prog 77 [.agg (valL v), sv s] (i64 (indexN s v.nm 0)) := by
 refine fc_of_awp [4] Tryz.func77 rfl rfl 21 Tryz.ntmps77 (Nat.le_of_ble_eq_true rfl) ?_
 intro E hN
 refine zG ?_; refine zX ?_; refine zT ?_; refine zH ?_; refine zT ?_; refine awp_block ?_
 refine awp_loop (fun x : {k : Nat // k ≤ (v.nm).length ∧ indexN s (v.nm.drop k) k = indexN s v.nm 0} => ⟨[(1, sv s), (2, .ptr 0 0), (5, i64 (x.1 : Nat))], [(0, .var 41 (valL v))], 1⟩) (fun x => (v.nm).length - x.1) (⟨0, Nat.zero_le _, by simp⟩) ?_ ?_
 ·
  exact weak_scrub' rfl (zz3 trivial) ⟨rfl, rfl, rfl, trivial⟩
 rintro ⟨k, hk, hg⟩
 dsimp only
 refine zH ?_; refine zM ?_; refine zF ?_; refine zL ?_; refine zE ?_; refine zB ?_; refine zN ?_
 refine zq ?_ ?_ <;> intro h10
 ·
  refine a_lm 8 rfl (fun hl8 => ?_)
  have hlt : k < (v.nm).length := by simpa using h10
  obtain ⟨x, hx⟩ := get_lt hlt
  have hs : indexN s v.nm 0 = if s == x then (k : Int) else indexN s (v.nm.drop (k + 1)) (k + 1) := by rw [← hg, drop_get hx]; rfl
  refine zW ?_; refine awp_seq ?_; refine awp_block ?_; refine zG ?_; refine zF ?_; refine zL ?_; refine zM ?_
  refine zP (q_elem rfl rfl rfl k rfl _ (map_get hx) rfl) ?_; refine zL ?_; refine zM ?_; refine zB ?_; refine zN ?_
  refine zq ?_ ?_ <;> intro h15
  ·
   have hxs : x = s := by simpa using h15
   refine zG ?_; refine zM ?_; refine zS ?_; refine zQ ?_
   exact retI (by rw [hs, if_pos (by simp [hxs])])
  have hn : indexN s (v.nm.drop (k + 1)) (k + 1) = indexN s v.nm 0 := by
   have hxs : x ≠ s := by simpa using h15
   rw [hs, if_neg (by simp [Ne.symm hxs])]
  refine awp_skip ?_; change AWP _ _ _ _  _; refine awp_region ?_; refine zM ?_; refine zP (q_addi rfl rfl rfl (by omega)) ?_; refine zS ?_
  refine aops_nil ?_
  exact ⟨⟨k + 1, hlt, hn⟩, weak_scrub' rfl (zz2 ⟨(cgI (by dsimp only; omega)), rfl, trivial⟩) ⟨rfl, rfl, rfl, trivial⟩, by dsimp only; omega⟩
 have hge : (v.nm).length ≤ k := by simpa using h10
 refine awp_exit ?_; change AWP _ _ _ _  _; refine zG ?_; refine zS ?_; refine zQ ?_
 exact retI (by rw [← hg, List.drop_of_length_le hge]; rfl)
set_option maxRecDepth 100000 in
set_option maxHeartbeats 1000000 in
theorem rcover_fc (e : En) (l : List En) (hx0 : validC (-1) e.1 = true) (hl0 : ∀ y ∈ l, validC (-1) y.1 = true) : FC Tryz.prog 78 [.agg (enC e), ens l] (bl (coveredB l e)) := by
 refine fc_of_awp [4] Tryz.func78 rfl rfl 18 Tryz.ntmps78 (Nat.le_of_ble_eq_true rfl) ?_
 intro E hN
 refine a_lm 1 rfl (fun hl1 => ?_)
 rw [← coverR_eq hx0 hl0]
 refine zG ?_; refine zX ?_; refine zT ?_; refine zH ?_; refine zT ?_; refine awp_block ?_
 refine awp_loop (fun x : {k : Nat // k ≤ (l).length ∧ (l.drop k).any (underR e) = l.any (underR e)} => ⟨[(1, ens l), (2, .ptr 0 0), (5, i64 (x.1 : Nat))], [(0, .var 114 (enC e))], 1⟩) (fun x => (l).length - x.1) (⟨0, Nat.zero_le _, by simp⟩) ?_ ?_
 ·
  exact weak_scrub' rfl (zz3 trivial) ⟨rfl, rfl, rfl, trivial⟩
 rintro ⟨k, hk, hg⟩
 dsimp only
 refine zH ?_; refine zM ?_; refine zM ?_; refine zE ?_; refine zB ?_; refine zN ?_
 refine zq ?_ ?_ <;> intro h8
 ·
  have hlt : k < l.length := by simpa using h8
  obtain ⟨y, hy⟩ := get_lt hlt
  refine zW ?_; refine awp_seq ?_; refine awp_block ?_; refine awp_seq ?_; refine awp_draw 5 (by kernel_rfl) (by kernel_rfl) ?_; refine zl ?_
  refine zm ?_; refine zm ?_; refine zp (q_elem rfl rfl rfl k rfl _ (map_get hy) rfl) ?_; refine zl ?_; change AOps _ _ _ _ _ _
  refine zP (q_call (rUnder_fc e y) rfl rfl rfl) ?_; refine zN ?_
  refine zq ?_ ?_ <;> intro h12
  ·
   have h4 := h12
   refine zG ?_; refine zS ?_; refine zQ ?_
   exact retB (any_yes hg hy h4).symm
  have h4 := h12
  refine awp_skip ?_; change AWP _ _ _ _  _; refine awp_region ?_; refine zM ?_; refine zP (q_addi rfl rfl rfl (by omega)) ?_; refine zS ?_
  refine aops_nil ?_
  exact ⟨⟨k + 1, hlt, any_go hg hy h4⟩, weak_scrub' rfl (zz2 ⟨(cgI (by dsimp only; omega)), rfl, trivial⟩) ⟨rfl, rfl, rfl, trivial⟩, by dsimp only; omega⟩
 have hge : (l).length ≤ k := by simpa using h8
 refine awp_exit ?_; change AWP _ _ _ _  _; refine zG ?_; refine zS ?_; refine zQ ?_
 exact retB (any_end hg hge).symm
set_option maxRecDepth 100000 in
set_option maxHeartbeats 1000000 in
theorem rleq_s (l : Lat) (hO : OkL l) (ih : ∀ q ∈ l.ps, ∀ x y, elemB x q = true → elemB y q = true → SmV 1000000 x → FC Tryz.prog 55 [.agg (latL q), .agg (valL x), .agg (valL y)] (bl (leqB q x y))) (a b : Val) (ha : elemB a l = true) (hb : elemB b l = true) (sa : SmV 1000000 a) : FC Tryz.prog 55 [.agg (latL l), .agg (valL a), .agg (valL b)] (bl (leqB l a b)) := by
 refine fc_of_awp [6] Tryz.func55 rfl rfl 166 Tryz.ntmps55 (Nat.le_of_ble_eq_true rfl) ?_
 intro E hN
 refine zG ?_; refine zX ?_; refine zX ?_; refine zX ?_; refine zT ?_; refine zH ?_; refine zF ?_; refine zL ?_; refine zN ?_; refine awp_block ?_
 refine zH ?_; refine zB ?_; refine zT ?_
 refine zq ?_ ?_ <;> intro h9
 ·
  refine zW ?_; refine c_true rfl h9 ?_; refine zG ?_; refine zF ?_; refine zL ?_; refine zF ?_; refine zL ?_; refine zB ?_; refine zS ?_; refine zQ ?_
  exact retB (by rw [leqB_eq]; simp_all)
 refine awp_region ?_; refine zB ?_; refine zT ?_
 refine zq ?_ ?_ <;> intro h15
 ·
  refine zG ?_; refine zF ?_; refine zL ?_; refine zF ?_; refine zL ?_; refine zB ?_; refine zS ?_; refine zQ ?_
  exact retB (by rw [leqB_eq]; simp_all)
 refine zG ?_; refine zB ?_; refine zT ?_
 refine zq ?_ ?_ <;> intro h21
 ·
  refine zG ?_; refine zF ?_; refine zL ?_; refine zF ?_; refine zL ?_; refine zB ?_; refine zS ?_; refine zQ ?_
  exact retB (by rw [leqB_eq]; simp_all)
 refine zH ?_; refine zB ?_; refine zT ?_
 refine zq ?_ ?_ <;> intro h27
 ·
  refine zW ?_; refine c_true rfl h27 ?_; refine zG ?_; refine zF ?_; refine zL ?_; refine zF ?_; refine zL ?_
  refine zP (q_call (rSubset_fc _ _ sa.nm) rfl rfl rfl) ?_; refine zS ?_; refine zQ ?_
  exact retB (by rw [leqB_eq]; simp_all)
 refine awp_region ?_; refine zB ?_; refine zT ?_
 refine zq ?_ ?_ <;> intro h33
 ·
  refine zG ?_; refine zF ?_; refine zL ?_; refine zF ?_; refine zL ?_; refine zP (q_call (rSubset_fc _ _ sa.nm) rfl rfl rfl) ?_; refine zS ?_
  refine zQ ?_
  exact retB (by rw [leqB_eq]; simp_all)
 refine zG ?_; refine zB ?_; refine zT ?_
 refine zq ?_ ?_ <;> intro h39
 ·
  refine zG ?_; refine zF ?_; refine zL ?_; refine zB ?_; refine zM ?_
  refine zc 41 ?_ ?_ <;> intro h42
  ·
   iterate 3 refine uK (w10 h42) ?_
   refine zh1 h42 ?_; refine zM ?_
   iterate 3 refine zK ?_
   refine zh1 rfl ?_; refine zS ?_; refine zQ ?_
   exact retB (by rw [leqB_eq]; simp_all)
  refine uF (w00 h42) ?_; refine uL (w00 h42) ?_; refine uP (w00 h42) (q_bin rfl rfl rfl) ?_; refine zh0 h42 ?_; refine zM ?_
  refine zc 46 ?_ ?_ <;> intro h45
  ·
   iterate 3 refine uK (w10 h45) ?_
   refine zh1 h45 ?_; refine zS ?_; refine zQ ?_
   exact retB (by rw [leqB_eq]; simp_all)
  refine uL (w00 h45) ?_; refine uL (w00 h45) ?_; refine uP (w00 h45) (q_call (rEqual_fc _ _) rfl rfl rfl) ?_; refine zh0 h45 ?_; refine zS ?_
  refine zQ ?_
  exact retB (by rw [leqB_eq]; simp_all)
 refine zG ?_; refine zB ?_; refine zT ?_
 refine zq ?_ ?_ <;> intro h49
 ·
  refine awp_seq ?_; refine awp_seq ?_
  have hk7 : l.k = 7 := by simp_all
  obtain ⟨q1, q2, hps⟩ := shape_72 hO.shape hk7
  obtain ⟨x1, x2, hpa, hx1, hx2⟩ := two_of ha hk7 hps
  obtain ⟨y1, y2, hpb, hy1, hy2⟩ := two_of hb hk7 hps
  have hE : leqB l a b = if eqV x1 y1 then leqB q2 x2 y2 else leqB q1 x1 y1 := by rw [leqB_eq, hk7, hps, hpa, hpb]; simp [leqX]
  have hq1' : l.ps[0]? = some q1 := by rw [hps]; rfl
  have hq2' : l.ps[1]? = some q2 := by rw [hps]; rfl
  have hx1' : a.ps[0]? = some x1 := by rw [hpa]; rfl
  have hx2' : a.ps[1]? = some x2 := by rw [hpa]; rfl
  have hy1' : b.ps[0]? = some y1 := by rw [hpb]; rfl
  have hy2' : b.ps[1]? = some y2 := by rw [hpb]; rfl
  refine awp_draw 8 (by kernel_rfl) (by kernel_rfl) ?_; refine zf ?_; refine zl ?_; refine zp (q_elem rfl rfl rfl 0 rfl _ (val_get hx1') rfl) ?_
  refine zl ?_; refine zf ?_; refine zl ?_; refine zp (q_elem rfl rfl rfl 0 rfl _ (val_get hy1') rfl) ?_; refine zl ?_; change AOps _ _ _ _ _ _
  refine zP (q_call (rEqual_fc _ _) rfl rfl rfl) ?_; refine zN ?_
  refine zq ?_ ?_ <;> intro h58
  ·
   have h13 := h58
   refine awp_seq ?_; refine awp_draw 13 (by kernel_rfl) (by kernel_rfl) ?_; refine zf ?_; refine zl ?_
   refine zp (q_elem rfl rfl rfl 1 rfl _ (lat_get hq2') rfl) ?_; refine zl ?_; refine zf ?_; refine zl ?_
   refine zp (q_elem rfl rfl rfl 1 rfl _ (val_get hx2') rfl) ?_; refine zl ?_; refine zf ?_; refine zl ?_
   refine zp (q_elem rfl rfl rfl 1 rfl _ (val_get hy2') rfl) ?_; refine zl ?_
   refine zp (q_call (ih q2 (by rw [hps]; simp) x2 y2 hx2 hy2 (sa.part x2 (by rw [hpa]; simp))) rfl rfl rfl) ?_
   change AOps _ _ _ _ _ _; refine zS ?_; refine zQ ?_
   exact retB (by rw [hE, if_pos h13])
  have h13 := h58
  refine zW ?_; refine awp_seq ?_; refine awp_draw 13 (by kernel_rfl) (by kernel_rfl) ?_; refine zf ?_; refine zl ?_
  refine zp (q_elem rfl rfl rfl 0 rfl _ (lat_get hq1') rfl) ?_; refine zl ?_; refine zf ?_; refine zl ?_
  refine zp (q_elem rfl rfl rfl 0 rfl _ (val_get hx1') rfl) ?_; refine zl ?_; refine zf ?_; refine zl ?_
  refine zp (q_elem rfl rfl rfl 0 rfl _ (val_get hy1') rfl) ?_; refine zl ?_
  refine zp (q_call (ih q1 (by rw [hps]; simp) x1 y1 hx1 hy1 (sa.part x1 (by rw [hpa]; simp))) rfl rfl rfl) ?_
  change AOps _ _ _ _ _ _; refine zS ?_; refine zQ ?_
  exact retB (by rw [hE, if_neg (by simp [h13])])
 refine zG ?_; refine zB ?_; refine zT ?_
 refine zq ?_ ?_ <;> intro h85
 ·
  refine zH ?_; refine zT ?_; refine awp_block ?_
  have hk5 : l.k = 5 := by simp_all
  obtain ⟨q, r, hps⟩ := shape_5 hO.shape hk5
  have hqm : q ∈ l.ps := by rw [hps]; exact List.mem_cons_self
  have hq0 : l.ps[0]? = some q := by rw [hps]; rfl
  obtain ⟨hla, hea⟩ := el_5 ha hk5 hps
  obtain ⟨hlb, heb⟩ := el_5 hb hk5 hps
  have hE : leqB l a b = (a.nm.zip a.ps).all (leqE q b) := by rw [leqB_eq, hk5, hps]; simp [leqM_all]
  refine awp_loop (fun x : {k : Nat // k ≤ (a.nm).length ∧ ((a.nm.zip a.ps).drop k).all (leqE q b) = (a.nm.zip a.ps).all (leqE q b)} => ⟨[(3, .ptr 0 0), (4, .ptr 1 0), (5, .ptr 2 0), (7, i64 (x.1 : Nat))], [(0, .var 26 (latL l)), (1, .var 41 (valL a)), (2, .var 41 (valL b))], 3⟩) (fun x => (a.nm).length - x.1) (⟨0, Nat.zero_le _, by simp⟩) ?_ ?_
  ·
   exact weak_scrub' rfl (zz4 trivial) ⟨rfl, rfl, rfl, rfl, rfl, rfl, rfl, rfl, rfl, trivial⟩
  rintro ⟨k, hk, hg⟩
  dsimp only
  refine zH ?_; refine zM ?_; refine zF ?_; refine zL ?_; refine zE ?_; refine zB ?_; refine zN ?_
  refine zq ?_ ?_ <;> intro h93
  ·
   refine a_lm 92 rfl (fun hl8 => ?_)
   have hlt : k < (a.nm).length := by simpa using h93
   obtain ⟨x, hx⟩ := get_lt hlt
   obtain ⟨p, hp⟩ := get_lt (show k < a.ps.length by omega)
   refine zW ?_; refine awp_seq ?_; refine awp_block ?_; refine awp_seq ?_; refine awp_draw 7 (by kernel_rfl) (by kernel_rfl) ?_; refine zl ?_
   refine zf ?_; refine zl ?_; refine zm ?_; refine zp (q_elem rfl rfl rfl k rfl _ (map_get hx) rfl) ?_; refine zl ?_
   refine zp (q_call (rkey_fc b x) rfl rfl rfl) ?_; change AOps _ _ _ _ _ _; refine zT ?_; refine awp_seq ?_
   refine awp_draw 19 (by kernel_rfl) (by kernel_rfl) ?_; refine zm ?_; refine zp (q_bin rfl rfl rfl) ?_; refine zm ?_
   refine zd 106 ?_ ?_ <;> intro h100
   ·
    have hpo := partOf_none (s := x) (b := b) (by simpa using h100)
    iterate 16 refine vK (w10 h100) ?_
    change AOps _ _ _ _ _ _; refine zh1 h100 ?_; refine zN ?_; refine c_true rfl rfl ?_; refine zG ?_; refine zS ?_; refine zQ ?_
    exact retB (by rw [hE, all_no hg (zip_get2 hx hp) (by simp only [leqE, hpo]; first | done | simp_all)])
   obtain ⟨j, hj, hjl⟩ : ∃ j : Nat, indexN x b.nm 0 = (j : Int) ∧ j < b.ps.length := by
    rcases indexN_lt x b.nm 0 with h1 | ⟨j, -, h2, h3⟩
    ·simp [h1] at h100
    exact ⟨j, h3, by omega⟩
   obtain ⟨y, hy⟩ := get_lt hjl
   have hpo := partOf_some hj hy
   refine vP (w00 h100) (q_fieldAddr rfl rfl rfl rfl) ?_; refine vP (w00 h100) (q_load rfl rfl rfl rfl rfl) ?_
   refine vP (w00 h100) (q_elem rfl rfl rfl 0 rfl _ (lat_get hq0) rfl) ?_; refine vP (w00 h100) (q_load rfl rfl rfl rfl rfl) ?_
   refine vP (w00 h100) (q_fieldAddr rfl rfl rfl rfl) ?_; refine vP (w00 h100) (q_load rfl rfl rfl rfl rfl) ?_
   refine vP (w00 h100) (q_move rfl rfl) ?_; refine vP (w00 h100) (q_elem rfl rfl rfl k rfl _ (val_get hp) rfl) ?_
   refine vP (w00 h100) (q_load rfl rfl rfl rfl rfl) ?_; refine vP (w00 h100) (q_fieldAddr rfl rfl rfl rfl) ?_
   refine vP (w00 h100) (q_load rfl rfl rfl rfl rfl) ?_; refine vP (w00 h100) (q_move rfl rfl) ?_
   refine vP (w00 h100) (q_elem rfl rfl rfl j hj _ (val_get hy) rfl) ?_; refine vP (w00 h100) (q_load rfl rfl rfl rfl rfl) ?_
   refine vP (w00 h100) (q_call (ih q hqm p y (hea p (List.mem_of_getElem? hp)) (heb y (List.mem_of_getElem? hy)) (sa.part p (List.mem_of_getElem? hp))) rfl rfl rfl) ?_
   refine vP (w00 h100) (q_not rfl rfl) ?_; change AOps _ _ _ _ _ _; refine zh0 h100 ?_; refine zN ?_
   refine zq ?_ ?_ <;> intro h113
   ·
    refine zG ?_; refine zS ?_; refine zQ ?_
    exact retB (by rw [hE, all_no hg (zip_get2 hx hp) (by simp only [leqE, hpo]; first | done | simp_all)])
   refine awp_skip ?_; change AWP _ _ _ _  _; refine awp_region ?_; refine zM ?_; refine zP (q_addi rfl rfl rfl (by omega)) ?_; refine zS ?_
   refine aops_nil ?_
   exact ⟨⟨k + 1, hlt, all_go hg (zip_get2 hx hp) (by simp only [leqE, hpo]; simp_all)⟩, weak_scrub' rfl (zz3 ⟨(cgI (by dsimp only; omega)), rfl, trivial⟩) ⟨rfl, rfl, rfl, rfl, rfl, rfl, rfl, rfl, rfl, trivial⟩, by dsimp only; omega⟩
  have hge : (a.nm).length ≤ k := by simpa using h93
  refine awp_exit ?_; change AWP _ _ _ _  _; refine zG ?_; refine zS ?_; refine zQ ?_
  exact retB (by rw [hE, all_end hg (by simp; omega)])
 refine zG ?_; refine zB ?_; refine zT ?_
 refine zq ?_ ?_ <;> intro h115
 ·
  refine zH ?_; refine zT ?_; refine awp_block ?_
  have hk6 : l.k = 6 := by simp_all
  obtain ⟨hla, hza⟩ := el_Z ha (.inl hk6)
  obtain ⟨hlb, hzb⟩ := el_Z hb (.inl hk6)
  have hE : leqB l a b = leqZ l.ps a.ps b.ps := by rw [leqB_eq, hk6]; rfl
  refine awp_loop (fun x : {k : Nat // k ≤ (a.ps).length ∧ leqZ (l.ps.drop k) (a.ps.drop k) (b.ps.drop k) = leqZ l.ps a.ps b.ps} => ⟨[(3, .ptr 0 0), (4, .ptr 1 0), (5, .ptr 2 0), (9, i64 (x.1 : Nat))], [(0, .var 26 (latL l)), (1, .var 41 (valL a)), (2, .var 41 (valL b))], 3⟩) (fun x => (a.ps).length - x.1) (⟨0, Nat.zero_le _, by simp⟩) ?_ ?_
  ·
   exact weak_scrub' rfl (zz4 trivial) ⟨rfl, rfl, rfl, rfl, rfl, rfl, rfl, rfl, rfl, trivial⟩
  rintro ⟨k, hk, hg⟩
  dsimp only
  refine zH ?_; refine zM ?_; refine zF ?_; refine zL ?_; refine zE ?_; refine zB ?_; refine zN ?_
  refine zq ?_ ?_ <;> intro h123
  ·
   refine a_lm 128 rfl (fun hl8 => ?_)
   have hlt : k < a.ps.length := by simpa using h123
   obtain ⟨q, hq⟩ := get_lt (show k < l.ps.length by omega)
   obtain ⟨x, hx⟩ := get_lt (show k < a.ps.length by omega)
   obtain ⟨y, hy⟩ := get_lt (show k < b.ps.length by omega)
   have hqm : q ∈ l.ps := List.mem_of_getElem? hq
   have hs := lz_go hg hq hx hy
   refine zW ?_; refine awp_seq ?_; refine awp_block ?_; refine awp_seq ?_; refine awp_draw 16 (by kernel_rfl) (by kernel_rfl) ?_; refine zf ?_
   refine zl ?_; refine zm ?_; refine zp (q_elem rfl rfl rfl k rfl _ (lat_get hq) rfl) ?_; refine zl ?_; refine zf ?_; refine zl ?_; refine zm ?_
   refine zp (q_elem rfl rfl rfl k rfl _ (val_get hx) rfl) ?_; refine zl ?_; refine zf ?_; refine zl ?_; refine zm ?_
   refine zp (q_elem rfl rfl rfl k rfl _ (val_get hy) rfl) ?_; refine zl ?_
   refine zp (q_call (ih q hqm x y (elemZ_get hza hx hq) (elemZ_get hzb hy hq) (sa.part x (List.mem_of_getElem? hx))) rfl rfl rfl) ?_
   change AOps _ _ _ _ _ _; refine zP (q_not rfl rfl) ?_; refine zN ?_
   refine zq ?_ ?_ <;> intro h136
   ·
    refine zG ?_; refine zS ?_; refine zQ ?_
    exact retB (by rw [hE, hs]; simp_all)
   refine awp_skip ?_; change AWP _ _ _ _  _; refine awp_region ?_; refine zM ?_; refine zP (q_addi rfl rfl rfl (by omega)) ?_; refine zS ?_
   refine aops_nil ?_
   exact ⟨⟨k + 1, hlt, by simp_all⟩, weak_scrub' rfl (zz3 ⟨(cgI (by dsimp only; omega)), rfl, trivial⟩) ⟨rfl, rfl, rfl, rfl, rfl, rfl, rfl, rfl, rfl, trivial⟩, by dsimp only; omega⟩
  have hge : (a.ps).length ≤ k := by simpa using h123
  refine awp_exit ?_; change AWP _ _ _ _  _; refine zG ?_; refine zS ?_; refine zQ ?_
  exact retB (by rw [hE, lz_end hg (by omega)])
 refine awp_skip ?_; change AWP _ _ _ _  _; refine zH ?_; refine zT ?_; refine awp_block ?_
 have hk9 : l.k = 9 := by
  have := kinds hO
  simp only [beq_eq_false_iff_ne] at *
  omega
 have rga := (el_reg ha hk9).2.2.2
 have rgb := (el_reg hb hk9).2.2.2
 have hE : leqB l a b = a.es.all (coveredB b.es) := by rw [leqB_eq, hk9]; rfl
 refine awp_loop (fun x : {k : Nat // k ≤ (a.es).length ∧ (a.es.drop k).all (coveredB b.es) = a.es.all (coveredB b.es)} => ⟨[(3, .ptr 0 0), (4, .ptr 1 0), (5, .ptr 2 0), (10, i64 (x.1 : Nat))], [(0, .var 26 (latL l)), (1, .var 41 (valL a)), (2, .var 41 (valL b))], 3⟩) (fun x => (a.es).length - x.1) (⟨0, Nat.zero_le _, by simp⟩) ?_ ?_
 ·
  exact weak_scrub' rfl (zz4 trivial) ⟨rfl, rfl, rfl, rfl, rfl, rfl, rfl, rfl, rfl, trivial⟩
 rintro ⟨k, hk, hg⟩
 dsimp only
 refine zH ?_; refine zM ?_; refine zF ?_; refine zL ?_; refine zE ?_; refine zB ?_; refine zN ?_
 refine zq ?_ ?_ <;> intro h145
 ·
  refine a_lm 152 rfl (fun hl8 => ?_)
  have hlt : k < (a.es).length := by simpa using h145
  obtain ⟨x, hx⟩ := get_lt hlt
  refine zW ?_; refine awp_seq ?_; refine awp_block ?_; refine awp_seq ?_; refine awp_draw 8 (by kernel_rfl) (by kernel_rfl) ?_; refine zf ?_
  refine zl ?_; refine zm ?_; refine zp (q_elem rfl rfl rfl k rfl _ (map_get hx) rfl) ?_; refine zl ?_; refine zf ?_; refine zl ?_
  refine zp (q_call (rcover_fc x b.es (rga.valid x (List.mem_of_getElem? hx)) rgb.valid) rfl rfl rfl) ?_; change AOps _ _ _ _ _ _
  refine zP (q_not rfl rfl) ?_; refine zN ?_
  refine zq ?_ ?_ <;> intro h152
  ·
   refine zG ?_; refine zS ?_; refine zQ ?_
   exact retB (by rw [hE, all_no hg hx (by simp_all)])
  refine awp_skip ?_; change AWP _ _ _ _  _; refine awp_region ?_; refine zM ?_; refine zP (q_addi rfl rfl rfl (by omega)) ?_; refine zS ?_
  refine aops_nil ?_
  exact ⟨⟨k + 1, hlt, all_go hg hx (by simp_all)⟩, weak_scrub' rfl (zz3 ⟨(cgI (by dsimp only; omega)), rfl, trivial⟩) ⟨rfl, rfl, rfl, rfl, rfl, rfl, rfl, rfl, rfl, trivial⟩, by dsimp only; omega⟩
 have hge : (a.es).length ≤ k := by simpa using h145
 refine awp_exit ?_; change AWP _ _ _ _  _; refine zG ?_; refine zS ?_; refine zQ ?_
 exact retB (by rw [hE, all_end hg hge])
theorem rleq_fc (l : Lat) (hO : OkL l) (a b : Val) (ha : elemB a l = true) (hb : elemB b l = true) (sa : SmV 1000000 a) : FC Tryz.prog 55 [.agg (latL l), .agg (valL a), .agg (valL b)] (bl (leqB l a b)) := rleq_s l hO (fun q hq x y hx hy sx => rleq_fc q (hO.part q hq) x y hx hy sx) a b ha hb sa
termination_by l
decreasing_by exact Lat.sizeOf_ps ‹_›
theorem check_eq (l : Lat) (a b : Val) : (checkJ l [a, b] == 0) = (validV l a && validV l b) := by
 unfold checkJ elementsB validV
 cases h : checkX l == 0
 ·simp_all
 have h0 : checkX l = 0 := by simpa using h
 simp [h0]
 cases elemB a l <;> cases elemB b l <;> simp
theorem leqJ_eq (l : Lat) (a b : Val) : leqJ l a b = (validV l a && validV l b && leqB l a b) := by rw [leqJ, check_eq]
theorem valid_el {l : Lat} {a : Val} (h : validV l a = true) : OkL l ∧ elemB a l = true := by
 unfold validV at h
 rw [Bool.and_eq_true] at h
 exact ⟨check_ok (by simpa using h.1), h.2⟩
set_option maxRecDepth 100000 in
set_option maxHeartbeats 1000000 in
theorem rLeqJ_fc (l : Lat) (a b : Val) (sa : SmV 1000000 a) : FC Tryz.prog 33 [.agg (latL l), .agg (valL a), .agg (valL b)] (bl (leqJ l a b)) := by
 refine fc_of_awp [6] Tryz.func33 rfl rfl 21 Tryz.ntmps33 (Nat.le_of_ble_eq_true rfl) ?_
 intro E hN
 refine zG ?_; refine zX ?_; refine zX ?_; refine zX ?_; refine zS ?_; refine zA ?_; refine zL ?_; refine zL ?_
 refine zP (q_call (rValidV_fc _ _) rfl rfl rfl) ?_; refine zM ?_
 refine zc 10 ?_ ?_ <;> intro h9
 ·
  refine uL (w11 h9) ?_; refine uL (w11 h9) ?_; refine uP (w11 h9) (q_call (rValidV_fc _ _) rfl rfl rfl) ?_; refine zh1 h9 ?_; refine zM ?_
  refine zc 15 ?_ ?_ <;> intro h12
  ·
   have hok : OkL l ∧ elemB a l = true ∧ elemB b l = true := by
    have h1 : validV l a = true ∧ validV l b = true := by simp_all
    exact ⟨(valid_el h1.1).1, (valid_el h1.1).2, (valid_el h1.2).2⟩
   refine uL (w11 h12) ?_; refine uL (w11 h12) ?_; refine uL (w11 h12) ?_
   refine uP (w11 h12) (q_call (rleq_fc l hok.1 a b hok.2.1 hok.2.2 sa) rfl rfl rfl) ?_; refine zh1 h12 ?_; refine zS ?_; refine zQ ?_
   exact retB (by rw [leqJ_eq]; simp_all)
  iterate 4 refine uK (w01 h12) ?_
  refine zh0 h12 ?_; refine zS ?_; refine zQ ?_
  exact retB (by rw [leqJ_eq]; simp_all)
 iterate 3 refine uK (w01 h9) ?_
 refine zh0 h9 ?_; refine zM ?_
 iterate 4 refine zK ?_
 refine zh0 rfl ?_; refine zS ?_; refine zQ ?_
 exact retB (by rw [leqJ_eq]; simp_all)
end Go.Proofs.YtnjmbgnaplomaaaGreat

namespace Go.Proofs.YtnjmbgnaplomaaaGreat
open Go.RowKit
end Go.Proofs.YtnjmbgnaplomaaaGreat
