/-
  Contracts: descriptions of lattices are checked: Check.
-/
import Derived.Test.YtaecccdkjmipeaaGreatB2
namespace Go.Proofs.YtaecccdkjmipeaaGreat
open Go.RowKit
theorem zip_len (l : List Nm) : l.zipIdx.length = l.length := by simp
theorem shape_7 {l : Lat} (h : shapeX l = 0) (hk : l.k = 7) : ∃ a r, l.ps = a :: r := by
 unfold shapeX at h
 have hkn : knownB l.k = true := by rw [hk]; decide
 rw [if_pos hkn] at h
 have hb : badB l = false := by
  cases hb : badB l
  ·rfl
  rw [hb] at h; simp [whenE] at h
 cases hp : l.ps with
 | cons a r => exact ⟨a, r, rfl⟩
 | nil =>
  simp [badB, partsN, hk, hp] at hb
section
variable {g : Lat → Int → Int × Int} {l : List Lat} {k : Nat} {x : Lat} {m : Int} {v : Int × Int}
theorem vl_go (hg : visitL g (l.drop k) m = v) (h : l[k]? = some x) (h0 : ((g x m).1 != 0) = false) : visitL g (l.drop (k + 1)) (g x m).2 = v := by
 rw [drop_get h] at hg
 unfold visitL at hg
 rwa [if_pos (by simpa using h0)] at hg
theorem vl_stop (hg : visitL g (l.drop k) m = v) (h : l[k]? = some x) (h0 : ((g x m).1 != 0) = true) : g x m = v := by
 rw [drop_get h] at hg
 unfold visitL at hg
 rwa [if_neg (by simpa using h0)] at hg
theorem vl_end (hg : visitL g (l.drop k) m = v) (h : l.length ≤ k) : (0, m) = v := by
 rw [List.drop_of_length_le h] at hg; exact hg
end

set_option maxRecDepth 100000 in
set_option maxHeartbeats 1000000 in
theorem chains_fc (l : Lat) (hl : l.k = 7 → ∃ a r, l.ps = a :: r) : FC Tryz.prog 107 [.agg (latL l)] (i64 (chainsX l)) := by
 refine fc_of_awp [2] Tryz.func107 rfl rfl 15 Tryz.ntmps107 (Nat.le_of_ble_eq_true rfl) ?_
 intro E hN
 refine rn11 ?_
 refine zc 6 ?_ ?_ <;> intro h5
 ·
  obtain ⟨a, r, hp⟩ := hl (by simpa using h5)
  have ha : l.ps[0]? = some a := by rw [hp]; rfl
  refine uF (w11 h5) ?_; refine uL (w11 h5) ?_; refine uP (w11 h5) (q_elem rfl rfl rfl 0 rfl _ (lat_get ha) rfl) ?_; refine uL (w11 h5) ?_
  refine uP (w11 h5) (q_call (chain_fc a) rfl rfl rfl) ?_; refine uP (w11 h5) (q_not rfl rfl) ?_; refine zh1 h5 ?_
  refine zP (q_call (when_fc _ _) rfl rfl rfl) ?_; refine zS ?_; refine zQ ?_
  exact retI (by first | (simp only [chainsX, hp, *]; simp; done) | (simp only [chainsX, *]; simp))
 iterate 6 refine uK (w01 h5) ?_
 refine zh0 h5 ?_; refine zP (q_call (when_fc _ _) rfl rfl rfl) ?_; refine zS ?_; refine zQ ?_
 exact retI (by first | (simp only [chainsX, hp, *]; simp; done) | (simp only [chainsX, *]; simp))
set_option maxRecDepth 100000 in
set_option maxHeartbeats 1000000 in
theorem spelling_fc (l : Lat) : FC Tryz.prog 105 [.agg (latL l)] (i64 (spellX l)) := by
 refine fc_of_awp [2] Tryz.func105 rfl rfl 75 Tryz.ntmps105 (Nat.le_of_ble_eq_true rfl) ?_
 intro E hN
 refine rn14 ?_
 refine awp_loop (fun x : {k : Nat // k ≤ (l.nm).length ∧ (l.nm.zipIdx.drop k).all (nameOk l) = l.nm.zipIdx.all (nameOk l)} => ⟨[(1, .ptr 0 0), (8, svs l.nm), (9, i64 l.nm.length), (10, i64 (x.1 : Nat))], [(0, .var 26 (latL l))], 1⟩) (fun x => (l.nm).length - x.1) (⟨0, Nat.zero_le _, by simp⟩) ?_ ?_
 ·
  exact weak_scrub' rfl (zz2 ⟨(cgI (by simp)), rfl, (zz1 trivial)⟩) ⟨rfl, rfl, rfl, trivial⟩
 rintro ⟨k, hk, hg⟩
 dsimp only
 refine a_lm 8 rfl (fun hl8 => ?_)
 refine rn5 ?_
 refine zq ?_ ?_ <;> intro h9
 ·
  have hlt : k < (l.nm).length := by simpa using h9
  obtain ⟨x, hx⟩ := get_lt hlt
  refine rn6 ?_; refine zP (q_elem rfl rfl rfl k rfl _ (map_get hx) rfl) ?_; refine rn7 ?_; refine zP (q_call (valid_fc _) rfl rfl rfl) ?_
  refine rn2 ?_
  refine zc 18 ?_ ?_ <;> intro h12
  ·
   iterate 4 refine uK (w10 (m0 (n1 h12))) ?_
   refine rn6 ?_; refine uK (w10 (m0 (n1 h12))) ?_; refine zh1 (m0 (n1 h12)) ?_; refine zN ?_; refine c_true rfl rfl ?_; refine rn3 ?_; refine zQ ?_
   exact retI (by rw [spellX, all_no hg (zip_get hx) (by simp_all [nameOk])]; simp)
  refine uF (w00 (m1 (n0 h12))) ?_; refine uL (w00 (m1 (n0 h12))) ?_; refine uP (w00 (m1 (n0 h12))) (q_bin rfl rfl rfl) ?_
  refine uM (w00 (m1 (n0 h12))) ?_
  refine zc 22 ?_ ?_ <;> intro h15
  ·
   refine uF (w11 h15) ?_; refine uL (w11 h15) ?_; refine uM (w11 h15) ?_
   refine uP (w11 h15) (q_to rfl rfl rfl k rfl (by omega) (by exact fun _ => rfl)) ?_; refine uM (w11 h15) ?_
   refine uP (w11 h15) (q_call (contains_fc _ _) rfl rfl rfl) ?_; refine uP (w00 (m1 (n0 h12))) (q_pick1 rfl rfl h15 rfl) ?_
   refine zh0 (m1 (n0 h12)) ?_; refine zN ?_
   refine zq ?_ ?_ <;> intro h19
   ·
    refine rn3 ?_; refine zQ ?_
    exact retI (by rw [spellX, all_no hg (zip_get hx) (by simp_all [nameOk])]; simp)
   refine rn2 ?_; refine zP (q_addi rfl rfl rfl (by omega)) ?_; refine zM ?_; refine aops_nil ?_
   exact ⟨⟨k + 1, hlt, all_go hg (zip_get hx) (by simp_all [nameOk])⟩, weak_scrub' rfl (zz3 ⟨(cgI (by dsimp only; omega)), rfl, trivial⟩) ⟨rfl, rfl, rfl, trivial⟩, by dsimp only; omega⟩
  iterate 6 refine uK (w01 h15) ?_
  refine uP (w00 (m1 (n0 h12))) (q_pick0 rfl rfl h15 rfl) ?_; refine zh0 (m1 (n0 h12)) ?_; refine zN ?_; refine c_false rfl rfl ?_; refine rn2 ?_
  refine zP (q_addi rfl rfl rfl (by omega)) ?_; refine zM ?_; refine aops_nil ?_
  exact ⟨⟨k + 1, hlt, all_go hg (zip_get hx) (by simp_all [nameOk])⟩, weak_scrub' rfl (zz3 ⟨(cgI (by dsimp only; omega)), rfl, trivial⟩) ⟨rfl, rfl, rfl, trivial⟩, by dsimp only; omega⟩
 have hge : (l.nm).length ≤ k := by simpa using h9
 have hA := all_end hg (by rw [zip_len]; exact hge)
 refine rn2 ?_; refine c_cut (⟨[(1, .ptr 0 0), (40, bl (l.k != 6 && !sortedB l.nm))], [(0, .var 26 (latL l))], 1⟩) ?_ ?_
 ·
  refine rn5 ?_
  refine zc 35 ?_ ?_ <;> intro h24
  ·
   refine uF (w11 h24) ?_; refine uL (w11 h24) ?_; refine uP (w11 h24) (q_call (sorted_fc _) rfl rfl rfl) ?_; refine uP (w11 h24) (q_not rfl rfl) ?_
   refine zh1 h24 ?_; refine aops_nil ?_
   exact weak_scrub' rfl (zz1 ⟨(cgB (by simp_all)), rfl, trivial⟩) ⟨rfl, rfl, rfl, trivial⟩
  iterate 4 refine uK (w01 h24) ?_
  refine zh0 h24 ?_; refine aops_nil ?_
  exact weak_scrub' rfl (zz1 ⟨(cgB (by simp_all)), rfl, trivial⟩) ⟨rfl, rfl, rfl, trivial⟩
 refine zq ?_ ?_ <;> intro h28
 ·
  refine rn3 ?_; refine zQ ?_
  exact retI (by rw [spellX, hA]; simp_all)
 refine rn10 ?_
 refine awp_loop (fun x : {k : Nat // k ≤ (l.rs).length ∧ (l.rs.drop k).all (ruleOk l.nm) = l.rs.all (ruleOk l.nm)} => ⟨[(1, .ptr 0 0), (42, rus l.rs), (43, i64 l.rs.length), (44, i64 (x.1 : Nat))], [(0, .var 26 (latL l))], 1⟩) (fun x => (l.rs).length - x.1) (⟨0, Nat.zero_le _, by simp⟩) ?_ ?_
 ·
  exact weak_scrub' rfl (zz2 ⟨(cgI (by simp)), rfl, (zz1 trivial)⟩) ⟨rfl, rfl, rfl, trivial⟩
 rintro ⟨k, hk, hg⟩
 dsimp only
 refine a_lm 42 rfl (fun hl8 => ?_)
 refine rn5 ?_
 refine zq ?_ ?_ <;> intro h35
 ·
  have hlt : k < (l.rs).length := by simpa using h35
  obtain ⟨x, hx⟩ := get_lt hlt
  refine rn5 ?_; refine zP (q_elem rfl rfl rfl k rfl _ (map_get hx) rfl) ?_; refine rn11 ?_
  refine zc 52 ?_ ?_ <;> intro h43
  ·
   iterate 4 refine uK (w10 h43) ?_
   refine zh1 h43 ?_; refine rn7 ?_; refine zh1 rfl ?_; refine rn7 ?_; refine zh1 rfl ?_; refine zN ?_; refine c_true rfl rfl ?_; refine rn3 ?_
   refine zQ ?_
   exact retI (by rw [spellX, all_no hg hx (by simp_all [ruleOk])]; simp)
  refine uF (w00 h43) ?_; refine uL (w00 h43) ?_; refine uP (w00 h43) (q_call (sorted_fc _) rfl rfl rfl) ?_; refine uP (w00 h43) (q_not rfl rfl) ?_
  refine zh0 h43 ?_; refine zM ?_
  refine zc 58 ?_ ?_ <;> intro h46
  ·
   iterate 6 refine uK (w10 (m0 (n1 h46))) ?_
   refine zh1 (m0 (n1 h46)) ?_; refine rn7 ?_; refine zh1 rfl ?_; refine zN ?_; refine c_true rfl rfl ?_; refine rn3 ?_; refine zQ ?_
   exact retI (by rw [spellX, all_no hg hx (by simp_all [ruleOk])]; simp)
  refine uF (w00 (m1 (n0 h46))) ?_; refine uL (w00 (m1 (n0 h46))) ?_; refine uF (w00 (m1 (n0 h46))) ?_; refine uL (w00 (m1 (n0 h46))) ?_
  refine uP (w00 (m1 (n0 h46))) (q_call (subset_fc _ _) rfl rfl rfl) ?_; refine uP (w00 (m1 (n0 h46))) (q_not rfl rfl) ?_; refine zh0 (m1 (n0 h46)) ?_
  refine zM ?_
  refine zc 66 ?_ ?_ <;> intro h51
  ·
   iterate 6 refine uK (w10 (m0 (n1 h51))) ?_
   refine zh1 (m0 (n1 h51)) ?_; refine zN ?_; refine c_true rfl rfl ?_; refine rn3 ?_; refine zQ ?_
   exact retI (by rw [spellX, all_no hg hx (by simp_all [ruleOk])]; simp)
  refine uF (w00 (m1 (n0 h51))) ?_; refine uL (w00 (m1 (n0 h51))) ?_; refine uF (w00 (m1 (n0 h51))) ?_; refine uL (w00 (m1 (n0 h51))) ?_
  refine uP (w00 (m1 (n0 h51))) (q_call (has_fc _ _) rfl rfl rfl) ?_; refine uP (w00 (m1 (n0 h51))) (q_not rfl rfl) ?_; refine zh0 (m1 (n0 h51)) ?_
  refine zN ?_
  refine zq ?_ ?_ <;> intro h56
  ·
   refine rn3 ?_; refine zQ ?_
   exact retI (by rw [spellX, all_no hg hx (by simp_all [ruleOk])]; simp)
  refine rn2 ?_; refine zP (q_addi rfl rfl rfl (by omega)) ?_; refine zM ?_; refine aops_nil ?_
  exact ⟨⟨k + 1, hlt, all_go hg hx (by simp_all [ruleOk])⟩, weak_scrub' rfl (zz3 ⟨(cgI (by dsimp only; omega)), rfl, trivial⟩) ⟨rfl, rfl, rfl, trivial⟩, by dsimp only; omega⟩
 have hge : (l.rs).length ≤ k := by simpa using h35
 refine rn4 ?_; refine zQ ?_
 exact retI (by rw [spellX, hA, all_end hg hge]; simp_all <;> (intros; simp_all))
set_option maxRecDepth 100000 in
set_option maxHeartbeats 1000000 in
theorem orE_fc (l : List Int) : FC Tryz.prog 103 [ivs l] (i64 (orE l)) := by
 refine fc_of_awp [2] Tryz.func103 rfl rfl 18 Tryz.ntmps103 (Nat.le_of_ble_eq_true rfl) ?_
 intro E hN
 refine a_lm 0 rfl (fun hl0 => ?_)
 refine rn16 ?_
 refine awp_loop (fun x : {k : Nat // k ≤ (l).length ∧ orE (l.drop k) = orE l} => ⟨[(3, i64 0), (6, ivs l), (7, i64 l.length), (8, i64 (x.1 : Nat))], [], 0⟩) (fun x => (l).length - x.1) (⟨0, Nat.zero_le _, by simp⟩) ?_ ?_
 ·
  exact weak_scrub' rfl (zz2 ⟨(cgI (by simp)), rfl, (zz1 trivial)⟩) trivial
 rintro ⟨k, hk, hg⟩
 dsimp only
 refine rn5 ?_
 refine zq ?_ ?_ <;> intro h6
 ·
  have hlt : k < (l).length := by simpa using h6
  obtain ⟨x, hx⟩ := get_lt hlt
  have hs : orE l = if x == 0 then orE (l.drop (k + 1)) else x := by rw [← hg, drop_get hx]; rfl
  refine rn5 ?_; refine zP (q_elem rfl rfl rfl k rfl _ (map_get hx) rfl) ?_; refine rn9 ?_
  refine zq ?_ ?_ <;> intro h9
  ·
   refine rn4 ?_; refine zQ ?_
   exact retI (by rw [hs, if_neg (by simp_all)])
  have hn : orE (l.drop (k + 1)) = orE l := by rw [hs, if_pos (by simpa using h9)]
  refine rn2 ?_; refine zP (q_addi rfl rfl rfl (by omega)) ?_; refine zM ?_; refine aops_nil ?_
  exact ⟨⟨k + 1, hlt, hn⟩, weak_scrub' rfl (zz3 ⟨(cgI (by dsimp only; omega)), rfl, trivial⟩) trivial, by dsimp only; omega⟩
 have hge : (l).length ≤ k := by simpa using h6
 refine rn5 ?_; refine zQ ?_
 exact retI (by rw [← hg, List.drop_of_length_le hge]; rfl)
set_option maxRecDepth 100000 in
set_option maxHeartbeats 1000000 in
theorem visit_0 (l : Lat) (n d : Int) (hd : d = 7) : GC Tryz.prog 68 [.ptr idB 0, .agg (latL l), i64 d] [(idB, .var 101 [i64 n])] (i64 (visitF 0 l n).1) [(idB, .var 101 [i64 (visitF 0 l n).2])] := by
 subst hd
 refine gc_of_awp [6] Tryz.func68 rfl rfl 62 Tryz.ntmps68 (Nat.le_of_ble_eq_true rfl) ?_
 intro E hN
 refine rn11 ?_
 refine zc 14 ?_ ?_ <;> intro h5
 ·
  iterate 5 refine uK (w10 h5) ?_
  refine zh1 h5 ?_; refine zN ?_; refine c_true rfl rfl ?_; refine rn4 ?_; refine awp_ret ?_
  change (resX _ _).fzt = some _ ∧ _
  refine ret_g1 rfl ?_ rfl ?_ rfl
  all_goals rfl
 exact absurd h5 (by decide)
section
variable {f : Nat} {l : Lat} {n : Int}
theorem v_big (h : n ≥ 64) : visitF (f + 1) l n = (6, n) := by unfold visitF; rw [if_pos h]
theorem v_shape (h : n < 64) (h1 : (shapeX l != 0) = true) : visitF (f + 1) l n = (shapeX l, n + 1) := by
 unfold visitF; rw [if_neg (by omega), if_pos h1]
theorem v_or (h : n < 64) (h1 : (shapeX l != 0) = false) (h2 : (orE [limitsX l, spellX l, rangesX l, chainsX l] != 0) = true) : visitF (f + 1) l n = (orE [limitsX l, spellX l, rangesX l, chainsX l], n + 1) := by
 unfold visitF; rw [if_neg (by omega), if_neg (by rw [h1]; decide), if_pos h2]
theorem v_list (h : n < 64) (h1 : (shapeX l != 0) = false) (h2 : (orE [limitsX l, spellX l, rangesX l, chainsX l] != 0) = false) : visitF (f + 1) l n = visitL (visitF f) l.ps (n + 1) := by
 unfold visitF; rw [if_neg (by omega), if_neg (by rw [h1]; decide), if_neg (by rw [h2]; decide)]
end

set_option maxRecDepth 100000 in
set_option maxHeartbeats 1000000 in
theorem visit_s (f : Nat) (hf : f + 1 ≤ 6) (ih : ∀ (l : Lat) (n d : Int), d = 7 - (f : Int) → 0 ≤ n → GC Tryz.prog 68 [.ptr idB 0, .agg (latL l), i64 d] [(idB, .var 101 [i64 n])] (i64 (visitF f l n).1) [(idB, .var 101 [i64 (visitF f l n).2])]) (l : Lat) (n d : Int) (hd : d = 7 - ((f + 1 : Nat) : Int)) (hn : 0 ≤ n) : GC Tryz.prog 68 [.ptr idB 0, .agg (latL l), i64 d] [(idB, .var 101 [i64 n])] (i64 (visitF (f + 1) l n).1) [(idB, .var 101 [i64 (visitF (f + 1) l n).2])] := by
 refine gc_of_awp [6] Tryz.func68 rfl rfl 62 Tryz.ntmps68 (Nat.le_of_ble_eq_true rfl) ?_
 intro E hN
 refine rn11 ?_
 refine zc 14 ?_ ?_ <;> intro h5
 ·
  exact absurd h5 (by simp; omega)
 refine uM (w00 h5) ?_; refine uP (w00 h5) (q_nil rfl rfl rfl) ?_; refine uF (w00 h5) ?_; refine uL (w00 h5) ?_
 refine uP (w00 h5) (q_bin rfl rfl rfl) ?_; refine zh0 h5 ?_; refine zN ?_
 refine zq ?_ ?_ <;> intro h8
 ·
  have h64 : n ≥ 64 := by simpa using h8
  refine rn4 ?_; refine awp_ret ?_
  change (resX _ _).fzt = some _ ∧ _
  refine ret_g1 rfl ?_ rfl ?_ rfl
  ·exact retI (by rw [v_big h64])
  show AObj.var _ [i64 _] = AObj.var _ [i64 _]
  rw [v_big h64]
 have h64 : n < 64 := by simpa using h8
 refine rn4 ?_; refine zP (q_nil rfl rfl rfl) ?_; refine rn2 ?_; refine zP (q_addi rfl rfl rfl (by omega)) ?_; refine zP (q_nil rfl rfl rfl) ?_
 refine rn7 ?_; refine zP (q_call (shape_fc _) rfl rfl rfl) ?_; refine rn7 ?_
 refine zq ?_ ?_ <;> intro h16
 ·
  have h5 := h16
  refine rn5 ?_; refine awp_ret ?_
  change (resX _ _).fzt = some _ ∧ _
  refine ret_g1 rfl ?_ rfl ?_ rfl
  ·exact retI (by rw [v_shape h64 h5])
  show AObj.var _ [i64 _] = AObj.var _ [i64 _]
  rw [v_shape h64 h5]
 have h5 := h16
 refine rn3 ?_; refine awp_draw 10 (by kernel_rfl) (by kernel_rfl) ?_; refine zl ?_; refine zp (q_call (limits_fc _) rfl rfl rfl) ?_; refine zl ?_
 refine zp (q_call (spelling_fc _) rfl rfl rfl) ?_; refine zl ?_; refine zp (q_call (ranges_fc _) rfl rfl rfl) ?_; refine zl ?_
 refine zp (q_call (chains_fc _ (fun h => shape_7 (by simpa using h5) h)) rfl rfl rfl) ?_
 refine zp (q_bslice rfl rfl rfl rfl (by exact rfl) (by decide) (by decide)) ?_
 refine zp (q_call (orE_fc [limitsX l, spellX l, rangesX l, chainsX l]) rfl rfl rfl) ?_; change AOps _ _ _ _ _ _; refine rn7 ?_
 refine zq ?_ ?_ <;> intro h27
 ·
  have h8 := h27
  refine rn5 ?_; refine awp_ret ?_
  change (resX _ _).fzt = some _ ∧ _
  refine ret_g1 rfl ?_ rfl ?_ rfl
  ·exact retI (by rw [v_or h64 h5 h8])
  show AObj.var _ [i64 _] = AObj.var _ [i64 _]
  rw [v_or h64 h5 h8]
 have h8 := h27
 refine rn10 ?_
 refine awp_loop (fun x : {q : Nat × Int // q.1 ≤ l.ps.length ∧ 0 ≤ q.2 ∧ visitL (visitF f) (l.ps.drop q.1) q.2 = visitL (visitF f) l.ps (n + 1)} => ⟨[(0, .ptr idB 0), (2, i64 d), (47, lats l.ps), (48, i64 l.ps.length), (49, i64 (x.1.1 : Nat))], [(idB, .var 101 [i64 x.1.2])], 1⟩) (fun x => l.ps.length - x.1.1) (⟨(0, n + 1), Nat.zero_le _, by show 0 ≤ n + 1; omega, by simp⟩) ?_ ?_
 ·
  exact weak_scrub' rfl (zz3 ⟨(cgI (by simp)), rfl, (zz1 trivial)⟩) ⟨rfl, rfl, rfl, trivial⟩
 rintro ⟨⟨k, m⟩, hk, hm, hg⟩
 dsimp only at hk hm hg ⊢
 refine a_lm 47 rfl (fun hl8 => ?_)
 refine rn5 ?_
 refine zq ?_ ?_ <;> intro h34
 ·
  have hlt : k < (l.ps).length := by simpa using h34
  obtain ⟨x, hx⟩ := get_lt hlt
  refine rn5 ?_; refine zP (q_elem rfl rfl rfl k rfl _ (lat_get hx) rfl) ?_; refine rn9 ?_; refine zP (q_addi rfl rfl rfl (by omega)) ?_
  refine s_gcall1 hN idB (ih x m _ (by omega) hm) (.fn _ _ _ _ rfl rfl) rfl rfl rfl rfl rfl rfl rfl rfl rfl rfl rfl ?_; refine rn7 ?_
  refine zq ?_ ?_ <;> intro h42
  ·
   have h14 := h42
   refine rn5 ?_; refine awp_ret ?_
   change (resX _ _).fzt = some _ ∧ _
   refine ret_g1 rfl ?_ rfl ?_ rfl
   ·exact retI (by rw [v_list h64 h5 h8, ← hg, vl_stop rfl hx h14])
   show AObj.var _ [i64 _] = AObj.var _ [i64 _]
   rw [v_list h64 h5 h8, ← hg, vl_stop rfl hx h14]
  have h14 := h42
  refine rn2 ?_; refine zP (q_addi rfl rfl rfl (by omega)) ?_; refine zM ?_; refine aops_nil ?_
  exact ⟨⟨(k + 1, (visitF f x m).2), hlt, visitF_ge _ _ _ hm, vl_go hg hx h14⟩, weak_scrub' rfl (zz4 ⟨(cgI (by dsimp only; omega)), rfl, trivial⟩) ⟨rfl, rfl, rfl, trivial⟩, by dsimp only; omega⟩
 have hge : (l.ps).length ≤ k := by simpa using h34
 refine rn5 ?_; refine awp_ret ?_
 change (resX _ _).fzt = some _ ∧ _
 refine ret_g1 rfl ?_ rfl ?_ rfl
 ·exact retI (by rw [v_list h64 h5 h8, ← vl_end hg hge])
 show AObj.var _ [i64 _] = AObj.var _ [i64 _]
 rw [v_list h64 h5 h8, ← vl_end hg hge]
theorem visit_gc : ∀ (f : Nat) (l : Lat) (n d : Int), f ≤ 6 → d = 7 - (f : Int) → 0 ≤ n → GC Tryz.prog 68 [.ptr idB 0, .agg (latL l), i64 d] [(idB, .var 101 [i64 n])] (i64 (visitF f l n).1) [(idB, .var 101 [i64 (visitF f l n).2])]
 | 0, l, n, d, _, hd, _ => visit_0 l n d (by simpa using hd)
 | f + 1, l, n, d, hf, hd, hn => visit_s f hf (fun l n d h1 h2 => visit_gc f l n d (by omega) h1 h2) l n d hd hn

set_option maxRecDepth 100000 in
set_option maxHeartbeats 1000000 in
theorem check_fc (l : Lat) : FC Tryz.prog 46 [.agg (latL l)] (i64 (checkX l)) := by
 refine fc_of_awp [2] Tryz.func46 rfl rfl 7 Tryz.ntmps46 (Nat.le_of_ble_eq_true rfl) ?_
 intro E hN
 refine rn14 ?_
 refine s_gcall1 hN 1 (visit_gc 6 l 0 1 (by decide) rfl (by decide)) (.fn _ _ _ _ rfl rfl) rfl rfl rfl rfl rfl rfl rfl rfl rfl rfl rfl ?_; refine zS ?_
 refine zQ ?_
 rfl
end Go.Proofs.YtaecccdkjmipeaaGreat
