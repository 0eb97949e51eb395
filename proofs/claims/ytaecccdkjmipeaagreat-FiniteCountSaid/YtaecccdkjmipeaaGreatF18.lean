/-
  Contracts: lattice.Finite at any description (seat r5).
  Contracts: finite.Values, Count, given the contract of all (seat r5).
-/
import Derived.Test.YtaecccdkjmipeaaGreatF17
import Derived.Test.YtaecccdkjmipeaaGreatF7
namespace Go.Proofs.YtaecccdkjmipeaaGreat
open Go.RowKit
mutual
def finB : Lat → Bool
 | .mk k _ _ nm ps _ => k != 9 && !((k == 4 || k == 8 || k == 5) && nm.length == 0) && finAll ps
def finAll : List Lat → Bool
 | [] => true
 | p :: r => finB p && finAll r
end
theorem finAll_all : ∀ l : List Lat, finAll l = l.all finB
 | [] => rfl
 | p :: r => by rw [finAll, finAll_all r]; rfl
theorem finB_eq (l : Lat) : finB l = (l.k != 9 && !((l.k == 4 || l.k == 8 || l.k == 5) && l.nm.length == 0) && l.ps.all finB) := by
 cases l with
 | mk k lo hi nm ps rs => rw [finB, finAll_all]; rfl
set_option maxRecDepth 100000 in
set_option maxHeartbeats 1000000 in
theorem fin_s (l : Lat) (ih : ∀ q ∈ l.ps, FC Tryz.prog 47 [.agg (latL q)] (bl (finB q))) (h6 : l.ps.length ≤ 1000000) : FC Tryz.prog 47 [.agg (latL l)] (bl (finB l)) := by
 refine fc_of_awp [2] Tryz.func47 rfl rfl 28 Tryz.ntmps47 (Nat.le_of_ble_eq_true rfl) ?_
 intro E hN
 refine rn17 ?_
 refine zq ?_ ?_ <;> intro h5
 ·
  refine rn3 ?_; refine zQ ?_
  exact retB (by rw [finB_eq]; simp_all)
 refine rn6 ?_
 refine zq ?_ ?_ <;> intro h6
 ·
  refine zW ?_; refine c_true rfl h6 ?_; refine rn7 ?_
  refine zq ?_ ?_ <;> intro h10
  ·
   refine rn3 ?_; refine zQ ?_
   exact retB (by rw [finB_eq]; simp_all)
  refine rn10 ?_
  refine awp_loop (fun x : {k : Nat // k ≤ (l.ps).length ∧ (l.ps.drop k).all finB = l.ps.all finB} => ⟨[(18, .sl (l.ps.map latC) none), (19, i64 l.ps.length), (20, i64 (x.1 : Nat))], [], 1⟩) (fun x => (l.ps).length - x.1) (⟨0, Nat.zero_le _, by simp⟩) ?_ ?_
  ·
   exact weak_scrub' rfl (zz1 ⟨(cgI (by simp)), rfl, (zz1 trivial)⟩) trivial
  rintro ⟨k, hk, hg⟩
  dsimp only
  refine rn5 ?_
  refine zq ?_ ?_ <;> intro h17
  ·
   have hlt : k < (l.ps).length := by simpa using h17
   obtain ⟨x, hx⟩ := get_lt hlt
   refine rn5 ?_; refine zP (q_elem rfl rfl rfl k rfl _ (lat_get hx) rfl) ?_; refine rn7 ?_
   refine zP (q_call (ih x (List.mem_of_getElem? hx)) rfl rfl rfl) ?_; refine rn2 ?_
   refine zq ?_ ?_ <;> intro h23
   ·
    refine rn3 ?_; refine zQ ?_
    exact retB (by rw [finB_eq, all_no hg hx (by simp_all), Bool.and_false])
   refine rn2 ?_; refine zP (q_addi rfl rfl rfl (by omega)) ?_; refine zM ?_; refine aops_nil ?_
   exact ⟨⟨k + 1, hlt, all_go hg hx (by simp_all)⟩, weak_scrub' rfl (zz2 ⟨(cgI (by dsimp only; omega)), rfl, trivial⟩) trivial, by dsimp only; omega⟩
  have hge : (l.ps).length ≤ k := by simpa using h17
  refine rn4 ?_; refine zQ ?_
  exact retB (by rw [finB_eq, all_end hg hge]; simp_all)
 refine rn5 ?_
 refine zq ?_ ?_ <;> intro h25
 ·
  refine zW ?_; refine c_true rfl h25 ?_; refine rn7 ?_
  refine zq ?_ ?_ <;> intro h29
  ·
   refine rn3 ?_; refine zQ ?_
   exact retB (by rw [finB_eq]; simp_all)
  refine rn10 ?_
  refine awp_loop (fun x : {k : Nat // k ≤ (l.ps).length ∧ (l.ps.drop k).all finB = l.ps.all finB} => ⟨[(18, .sl (l.ps.map latC) none), (19, i64 l.ps.length), (20, i64 (x.1 : Nat))], [], 1⟩) (fun x => (l.ps).length - x.1) (⟨0, Nat.zero_le _, by simp⟩) ?_ ?_
  ·
   exact weak_scrub' rfl (zz1 ⟨(cgI (by simp)), rfl, (zz1 trivial)⟩) trivial
  rintro ⟨k, hk, hg⟩
  dsimp only
  refine rn5 ?_
  refine zq ?_ ?_ <;> intro h36
  ·
   have hlt : k < (l.ps).length := by simpa using h36
   obtain ⟨x, hx⟩ := get_lt hlt
   refine rn5 ?_; refine zP (q_elem rfl rfl rfl k rfl _ (lat_get hx) rfl) ?_; refine rn7 ?_
   refine zP (q_call (ih x (List.mem_of_getElem? hx)) rfl rfl rfl) ?_; refine rn2 ?_
   refine zq ?_ ?_ <;> intro h42
   ·
    refine rn3 ?_; refine zQ ?_
    exact retB (by rw [finB_eq, all_no hg hx (by simp_all), Bool.and_false])
   refine rn2 ?_; refine zP (q_addi rfl rfl rfl (by omega)) ?_; refine zM ?_; refine aops_nil ?_
   exact ⟨⟨k + 1, hlt, all_go hg hx (by simp_all)⟩, weak_scrub' rfl (zz2 ⟨(cgI (by dsimp only; omega)), rfl, trivial⟩) trivial, by dsimp only; omega⟩
  have hge : (l.ps).length ≤ k := by simpa using h36
  refine rn4 ?_; refine zQ ?_
  exact retB (by rw [finB_eq, all_end hg hge]; simp_all)
 refine rn4 ?_
 refine zq ?_ ?_ <;> intro h44
 ·
  refine rn7 ?_
  refine zq ?_ ?_ <;> intro h48
  ·
   refine rn3 ?_; refine zQ ?_
   exact retB (by rw [finB_eq]; simp_all)
  refine rn10 ?_
  refine awp_loop (fun x : {k : Nat // k ≤ (l.ps).length ∧ (l.ps.drop k).all finB = l.ps.all finB} => ⟨[(18, .sl (l.ps.map latC) none), (19, i64 l.ps.length), (20, i64 (x.1 : Nat))], [], 1⟩) (fun x => (l.ps).length - x.1) (⟨0, Nat.zero_le _, by simp⟩) ?_ ?_
  ·
   exact weak_scrub' rfl (zz1 ⟨(cgI (by simp)), rfl, (zz1 trivial)⟩) trivial
  rintro ⟨k, hk, hg⟩
  dsimp only
  refine rn5 ?_
  refine zq ?_ ?_ <;> intro h55
  ·
   have hlt : k < (l.ps).length := by simpa using h55
   obtain ⟨x, hx⟩ := get_lt hlt
   refine rn5 ?_; refine zP (q_elem rfl rfl rfl k rfl _ (lat_get hx) rfl) ?_; refine rn7 ?_
   refine zP (q_call (ih x (List.mem_of_getElem? hx)) rfl rfl rfl) ?_; refine rn2 ?_
   refine zq ?_ ?_ <;> intro h61
   ·
    refine rn3 ?_; refine zQ ?_
    exact retB (by rw [finB_eq, all_no hg hx (by simp_all), Bool.and_false])
   refine rn2 ?_; refine zP (q_addi rfl rfl rfl (by omega)) ?_; refine zM ?_; refine aops_nil ?_
   exact ⟨⟨k + 1, hlt, all_go hg hx (by simp_all)⟩, weak_scrub' rfl (zz2 ⟨(cgI (by dsimp only; omega)), rfl, trivial⟩) trivial, by dsimp only; omega⟩
  have hge : (l.ps).length ≤ k := by simpa using h55
  refine rn4 ?_; refine zQ ?_
  exact retB (by rw [finB_eq, all_end hg hge]; simp_all)
 refine rn10 ?_
 refine awp_loop (fun x : {k : Nat // k ≤ (l.ps).length ∧ (l.ps.drop k).all finB = l.ps.all finB} => ⟨[(18, .sl (l.ps.map latC) none), (19, i64 l.ps.length), (20, i64 (x.1 : Nat))], [], 1⟩) (fun x => (l.ps).length - x.1) (⟨0, Nat.zero_le _, by simp⟩) ?_ ?_
 ·
  exact weak_scrub' rfl (zz1 ⟨(cgI (by simp)), rfl, (zz1 trivial)⟩) trivial
 rintro ⟨k, hk, hg⟩
 dsimp only
 refine rn5 ?_
 refine zq ?_ ?_ <;> intro h69
 ·
  have hlt : k < (l.ps).length := by simpa using h69
  obtain ⟨x, hx⟩ := get_lt hlt
  refine rn5 ?_; refine zP (q_elem rfl rfl rfl k rfl _ (lat_get hx) rfl) ?_; refine rn7 ?_
  refine zP (q_call (ih x (List.mem_of_getElem? hx)) rfl rfl rfl) ?_; refine rn2 ?_
  refine zq ?_ ?_ <;> intro h75
  ·
   refine rn3 ?_; refine zQ ?_
   exact retB (by rw [finB_eq, all_no hg hx (by simp_all), Bool.and_false])
  refine rn2 ?_; refine zP (q_addi rfl rfl rfl (by omega)) ?_; refine zM ?_; refine aops_nil ?_
  exact ⟨⟨k + 1, hlt, all_go hg hx (by simp_all)⟩, weak_scrub' rfl (zz2 ⟨(cgI (by dsimp only; omega)), rfl, trivial⟩) trivial, by dsimp only; omega⟩
 have hge : (l.ps).length ≤ k := by simpa using h69
 refine rn4 ?_; refine zQ ?_
 exact retB (by rw [finB_eq, all_end hg hge]; simp_all)
theorem fin_fc (l : Lat) (hO : OkL l) : FC Tryz.prog 47 [.agg (latL l)] (bl (finB l)) := fin_s l (fun q hq => fin_fc q (hO.part q hq)) (by have := hO.small; omega)
termination_by l
decreasing_by exact Lat.sizeOf_ps hq
end Go.Proofs.YtaecccdkjmipeaaGreat

namespace Go.Proofs.YtaecccdkjmipeaaGreat
open Go.RowKit
set_option maxRecDepth 100000 in
set_option maxHeartbeats 1000000 in
theorem valuesE1_fc (l : Lat) (hc : ¬ checkX l = 0) : FC Tryz.prog 14 [.agg (latL l)] (.tup [.sl [] none, i64 1]) := by
 refine fc_of_awp [2, 3] Tryz.func14 rfl rfl 22 Tryz.ntmps14 (Nat.le_of_ble_eq_true rfl) ?_
 intro E hN
 refine rn10 ?_; refine zP (q_call (check_fc l) rfl rfl rfl) ?_; refine zP (q_binb (b := true) rfl rfl rfl (by simpa using hc)) ?_; refine zN ?_
 refine c_true rfl rfl ?_; refine rn4 ?_; refine zQ ?_
 rfl
set_option maxRecDepth 100000 in
set_option maxHeartbeats 1000000 in
theorem valuesE2_fc (l : Lat) (hc : checkX l = 0) (hF : finB l = false) : FC Tryz.prog 14 [.agg (latL l)] (.tup [.sl [] none, i64 4]) := by
 refine fc_of_awp [2, 3] Tryz.func14 rfl rfl 22 Tryz.ntmps14 (Nat.le_of_ble_eq_true rfl) ?_
 intro E hN
 refine rn10 ?_
 refine zP (q_call (by have h := check_fc l; rw [hc] at h; exact h) rfl rfl rfl) ?_
 refine rn2 ?_; refine c_false rfl rfl ?_; refine rn5 ?_; refine zP (q_call (fcb (c := false) (fin_fc l (check_ok hc)) hF) rfl rfl rfl) ?_
 refine rn2 ?_; refine c_true rfl rfl ?_; refine rn4 ?_; refine zQ ?_
 rfl
set_option maxRecDepth 100000 in
set_option maxHeartbeats 1000000 in
theorem valuesE3_fc (l : Lat) (hc : checkX l = 0) (hF : finB l = true) (hA : FC Tryz.prog 48 [.agg (latL l)] (.tup [.sl [] none, bl false])) : FC Tryz.prog 14 [.agg (latL l)] (.tup [.sl [] none, i64 6]) := by
 refine fc_of_awp [2, 3] Tryz.func14 rfl rfl 22 Tryz.ntmps14 (Nat.le_of_ble_eq_true rfl) ?_
 intro E hN
 refine rn10 ?_
 refine zP (q_call (by have h := check_fc l; rw [hc] at h; exact h) rfl rfl rfl) ?_
 refine rn2 ?_; refine c_false rfl rfl ?_; refine rn5 ?_; refine zP (q_call (fcb (c := true) (fin_fc l (check_ok hc)) hF) rfl rfl rfl) ?_
 refine rn2 ?_; refine c_false rfl rfl ?_; refine rn4 ?_; refine zP (q_call hA rfl rfl rfl) ?_; refine rn12 ?_; refine c_true rfl rfl ?_; refine rn4 ?_
 refine zQ ?_
 rfl
set_option maxRecDepth 100000 in
set_option maxHeartbeats 1000000 in
theorem valuesG_fc (l : Lat) (hc : checkX l = 0) (hF : finB l = true) (L L' : List Val) (hA : GV 48 [.agg (latL l)] L 0 1) (h6 : L.length ≤ 1000000) (hp' : L'.Perm L) (hs' : L'.Pairwise (fun x y => 0 ≤ cmpVal y x)) : FC Tryz.prog 14 [.agg (latL l)] (.tup [vals L', i64 0]) := by
 refine fc_of_awp [2, 3] Tryz.func14 rfl rfl 22 Tryz.ntmps14 (Nat.le_of_ble_eq_true rfl) ?_
 intro E hN
 refine rn10 ?_
 refine zP (q_call (by have h := check_fc l; rw [hc] at h; exact h) rfl rfl rfl) ?_
 refine rn2 ?_; refine c_false rfl rfl ?_; refine rn5 ?_; refine zP (q_call (fcb (c := true) (fin_fc l (check_ok hc)) hF) rfl rfl rfl) ?_
 refine rn2 ?_; refine c_false rfl rfl ?_; refine rn4 ?_
 refine s_xcall hN [] hA (.fn _ _ _ _ rfl rfl) rfl rfl rfl trivial rfl ⟨in_fz (fzs_vals _), trivial⟩ rfl (Hn := [(1, .arr 30 4 (L.map valC))]) (ren_arr (fzs_vals _)) rfl rfl rfl rfl rfl rfl ?_
 refine rn12 ?_; refine c_false rfl rfl ?_; refine rn4 ?_
 refine s_sort (sf := 49) hN shc_sortVa rfl (by decide) valC L cmpVal (fun g => cmpVal_ok.swo g) (fun v => by rw [valC_eq]; rfl) (fun v => by rw [valC_eq]; rfl) Tryz.isAgg30 Tryz.sizeOf30 (fun x _ y _ => cmpValC_fc x y) rfl rfl rfl rfl (by omega) rfl rfl rfl rfl (fun l2 hp hs2 => ?_)
 obtain rfl : l2 = L' := valsort (hp.trans hp'.symm) hs2 hs'
 refine rn2 ?_; refine awp_weak (weak_frow 4 1 rfl rfl (by simp [hp'.length_eq]) (okE_vals _) (fzs_vals _) rfl) ?_; refine rn4 ?_; refine zQ ?_
 rfl
set_option maxRecDepth 100000 in
set_option maxHeartbeats 1000000 in
theorem countG_fc (l : Lat) (L : List Val) (e : Int) (hv : FC Tryz.prog 14 [.agg (latL l)] (.tup [vals L, i64 e])) : FC Tryz.prog 13 [.agg (latL l)] (.tup [i64 L.length, i64 e]) := by
 refine fc_of_awp [2, 3] Tryz.func13 rfl rfl 14 Tryz.ntmps13 (Nat.le_of_ble_eq_true rfl) ?_
 intro E hN
 refine rn9 ?_; refine zP (q_call hv rfl rfl rfl) ?_; refine rn13 ?_; refine zQ ?_
 show AV.tup [i64 ((L.map valC).length : Nat), i64 e] = _
 rw [List.length_map]
end Go.Proofs.YtaecccdkjmipeaaGreat
