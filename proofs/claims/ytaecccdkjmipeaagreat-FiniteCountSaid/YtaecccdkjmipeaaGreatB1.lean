/-
  Contracts: names.
  Contracts: sets of names.
-/
import Derived.Test.YtaecccdkjmipeaaGreatA4
import Derived.Test.YtaecccdkjmipeaaGreatTAB
namespace Go.Proofs.YtaecccdkjmipeaaGreat
open Go.RowKit
def wordB (c : Int) : Bool := (decide (97 ≤ c) && decide (c ≤ 122)) || (decide (48 ≤ c) && decide (c ≤ 57)) || c == 45
def headB : Nm → Bool
 | c :: _ => decide (97 ≤ (c.toNat : Int)) && decide ((c.toNat : Int) ≤ 122)
 | [] => false
/-- a valid name -/
def validB (s : Nm) : Bool := decide (s.length ≤ 16) && headB s && s.all fun c => wordB c.toNat
/-- strictly increasing -/
def sortedB : List Nm → Bool
 | a :: b :: r => Op.bytesLess a b && sortedB (b :: r)
 | _ => true

set_option maxRecDepth 100000 in
set_option maxHeartbeats 1000000 in
theorem wordByte_fc (c : Int) : FC Tryz.prog 173 [.p (.int .u8 c)] (bl (wordB c)) := by
 refine fc_of_awp [2] Tryz.func173 rfl rfl 21 Tryz.ntmps173 (Nat.le_of_ble_eq_true rfl) ?_
 intro E hN
 refine rn9 ?_
 refine zc 5 ?_ ?_ <;> intro h2
 ·
  refine uM (w11 h2) ?_; refine uP (w11 h2) (q_bin rfl rfl rfl) ?_; refine zh1 h2 ?_; refine zM ?_
  refine zc 9 ?_ ?_ <;> intro h3
  ·
   iterate 3 refine uK (w10 h3) ?_
   refine rn2 ?_; refine uK (w10 h3) ?_; refine zh1 h3 ?_; refine rn3 ?_; refine zh1 rfl ?_; refine zS ?_; refine zQ ?_
   simp [wordB, *]
  refine uM (w00 h3) ?_; refine uP (w00 h3) (q_bin rfl rfl rfl) ?_; refine uM (w00 h3) ?_
  refine zc 12 ?_ ?_ <;> intro h4
  ·
   refine uM (w11 h4) ?_; refine uP (w11 h4) (q_bin rfl rfl rfl) ?_; refine uP (w00 h3) (q_pick1 rfl rfl h4 rfl) ?_; refine zh0 h3 ?_; refine zM ?_
   refine zc 17 ?_ ?_ <;> intro h5
   ·
    iterate 2 refine uK (w10 h5) ?_
    refine zh1 h5 ?_; refine zS ?_; refine zQ ?_
    simp [wordB, *]
   refine uM (w00 h5) ?_; refine uP (w00 h5) (q_bin rfl rfl rfl) ?_; refine zh0 h5 ?_; refine zS ?_; refine zQ ?_
   simp [wordB, *]
  iterate 2 refine uK (w01 h4) ?_
  refine uP (w00 h3) (q_pick0 rfl rfl h4 rfl) ?_; refine zh0 h3 ?_; refine rn3 ?_; refine zh0 rfl ?_; refine zS ?_; refine zQ ?_
  simp [wordB, *]
 iterate 2 refine uK (w01 h2) ?_
 refine zh0 h2 ?_; refine rn4 ?_
 refine zc 12 ?_ ?_ <;> intro h8
 ·
  refine uM (w11 h8) ?_; refine uP (w11 h8) (q_bin rfl rfl rfl) ?_; refine zh1 h8 ?_; refine zh0 rfl ?_; refine zM ?_
  refine zc 17 ?_ ?_ <;> intro h9
  ·
   iterate 2 refine uK (w10 h9) ?_
   refine zh1 h9 ?_; refine zS ?_; refine zQ ?_
   simp [wordB, *]
  refine uM (w00 h9) ?_; refine uP (w00 h9) (q_bin rfl rfl rfl) ?_; refine zh0 h9 ?_; refine zS ?_; refine zQ ?_
  simp [wordB, *]
 iterate 2 refine uK (w01 h8) ?_
 refine zh0 h8 ?_; refine zh0 rfl ?_; refine rn3 ?_; refine zh0 rfl ?_; refine zS ?_; refine zQ ?_
 simp [wordB, *]
set_option maxRecDepth 100000 in
set_option maxHeartbeats 1000000 in
theorem valid_fc (s : Nm) : FC Tryz.prog 147 [sv s] (bl (validB s)) := by
 refine fc_of_awp [2] Tryz.func147 rfl rfl 33 Tryz.ntmps147 (Nat.le_of_ble_eq_true rfl) ?_
 intro E hN
 refine rn11 ?_
 refine zc 7 ?_ ?_ <;> intro h3
 ·
  iterate 3 refine uK (w10 h3) ?_
  refine zh1 h3 ?_; refine rn4 ?_; refine zh1 rfl ?_; refine rn4 ?_; refine zh1 rfl ?_; refine zN ?_; refine c_true rfl rfl ?_; refine rn3 ?_
  refine zQ ?_
  exact retB (by first | (simp_all [validB]; done) | (simp_all [validB]; intros; omega) | (have e : s = [] := (by simp_all); subst e; rfl))
 obtain ⟨c0, hc0, hh⟩ : ∃ c, s[0]? = some c ∧ headB s = (decide (97 ≤ (c.toNat : Int)) && decide ((c.toNat : Int) ≤ 122)) := by
  cases s with
  | nil => simp at h3
  | cons c r => exact ⟨c, rfl, rfl⟩
 refine uM (w00 h3) ?_; refine uE (w00 h3) ?_; refine uP (w00 h3) (q_bin rfl rfl rfl) ?_; refine zh0 h3 ?_; refine zM ?_
 refine zc 12 ?_ ?_ <;> intro h5
 ·
  iterate 3 refine uK (w10 h5) ?_
  refine zh1 h5 ?_; refine rn4 ?_; refine zh1 rfl ?_; refine zN ?_; refine c_true rfl rfl ?_; refine rn3 ?_; refine zQ ?_
  exact retB (by first | (simp_all [validB]; done) | (simp_all [validB]; intros; omega) | (have e : s = [] := (by simp_all); subst e; rfl))
 have h16 : (s.length : Int) ≤ 16 := by simpa using h5
 refine uM (w00 h5) ?_; refine uP (w00 h5) (q_byte rfl rfl rfl 0 rfl _ hc0) ?_; refine uP (w00 h5) (q_bin rfl rfl rfl) ?_; refine zh0 h5 ?_
 refine zM ?_
 refine zc 17 ?_ ?_ <;> intro h7
 ·
  iterate 3 refine uK (w10 h7) ?_
  refine zh1 h7 ?_; refine zN ?_; refine c_true rfl rfl ?_; refine rn3 ?_; refine zQ ?_
  exact retB (by first | (simp_all [validB]; done) | (simp_all [validB]; intros; omega) | (have e : s = [] := (by simp_all); subst e; rfl))
 refine uM (w00 h7) ?_; refine uP (w00 h7) (q_byte rfl rfl rfl 0 rfl _ hc0) ?_; refine uP (w00 h7) (q_bin rfl rfl rfl) ?_; refine zh0 h7 ?_
 refine zN ?_
 refine zq ?_ ?_ <;> intro h9
 ·
  refine rn3 ?_; refine zQ ?_
  exact retB (by first | (simp_all [validB]; done) | (simp_all [validB]; intros; omega) | (have e : s = [] := (by simp_all); subst e; rfl))
 refine rn9 ?_
 refine awp_loop (fun x : {k : Nat // k ≤ (s).length ∧ (s.drop k).all (fun c => wordB c.toNat) = s.all (fun c => wordB c.toNat)} => ⟨[(0, sv s), (23, i64 s.length), (24, i64 (x.1 : Nat))], [], 0⟩) (fun x => (s).length - x.1) (⟨0, Nat.zero_le _, by simp⟩) ?_ ?_
 ·
  exact weak_scrub' rfl (zz3 trivial) trivial
 rintro ⟨k, hk, hg⟩
 dsimp only
 refine rn5 ?_
 refine zq ?_ ?_ <;> intro h13
 ·
  have hlt : k < (s).length := by simpa using h13
  obtain ⟨x, hx⟩ := get_lt hlt
  refine rn12 ?_; refine zP (q_byte rfl rfl rfl _ rfl _ (by assumption)) ?_; refine zP (q_call (wordByte_fc _) rfl rfl rfl) ?_; refine rn2 ?_
  refine zq ?_ ?_ <;> intro h15
  ·
   refine rn3 ?_; refine zQ ?_
   exact retB (by rw [validB, all_no hg hx (by simp_all)]; simp)
  refine rn2 ?_; refine zP (q_addi rfl rfl rfl (by omega)) ?_; refine zM ?_; refine aops_nil ?_
  exact ⟨⟨k + 1, hlt, all_go hg hx (by simp_all)⟩, weak_scrub' rfl (zz2 ⟨(cgI (by dsimp only; omega)), rfl, trivial⟩) trivial, by dsimp only; omega⟩
 have hge : (s).length ≤ k := by simpa using h13
 refine rn4 ?_; refine zQ ?_
 exact retB (by rw [validB, all_end hg hge, hh]; simp_all; omega)
end Go.Proofs.YtaecccdkjmipeaaGreat

namespace Go.Proofs.YtaecccdkjmipeaaGreat
open Go.RowKit
theorem sorted_go {l : List Nm} {k : Nat} {a b : Nm} (hk : 1 ≤ k) (hg : sortedB (l.drop (k - 1)) = sortedB l) (ha : l[k - 1]? = some a) (hb : l[k]? = some b) : sortedB l = (Op.bytesLess a b && sortedB (l.drop k)) := by
 rw [← hg, drop_get ha, show k - 1 + 1 = k by omega, drop_get hb]; rfl
theorem sorted_end {l : List Nm} {k : Nat} (hg : sortedB (l.drop (k - 1)) = sortedB l) (h : l.length ≤ k) : sortedB l = true := by
 rw [← hg]
 have : (l.drop (k - 1)).length ≤ 1 := by simp; omega
 match h2 : l.drop (k - 1), this with
 | [], _ => rfl
 | [_], _ => rfl
 | _ :: _ :: _, h => simp at h
def indexN (s : Nm) : List Nm → Nat → Int
 | [], _ => -1
 | x :: l, i => if s == x then (i : Int) else indexN s l (i + 1)
def hasB (l : List Nm) (s : Nm) : Bool := l.any (s == ·)
theorem index_has (s : Nm) : ∀ (l : List Nm) (i : Nat), decide (indexN s l i ≥ 0) = hasB l s
 | [], i => by simp [indexN, hasB]
 | x :: l, i => by
  unfold indexN hasB
  by_cases h : (s == x) = true
  ·rw [if_pos h, List.any_cons, h]; simp
  rw [if_neg h, List.any_cons, index_has s l (i + 1)]; simp [hasB, h]
def subsetB (a b : List Nm) : Bool := a.all (hasB b)

set_option maxRecDepth 100000 in
set_option maxHeartbeats 1000000 in
theorem sorted_fc (l : List Nm) : FC Tryz.prog 149 [svs l] (bl (sortedB l)) := by
 refine fc_of_awp [2] Tryz.func149 rfl rfl 20 Tryz.ntmps149 (Nat.le_of_ble_eq_true rfl) ?_
 intro E hN
 refine a_lm 0 rfl (fun hl0 => ?_)
 refine rn10 ?_
 refine awp_loop (fun x : {k : Nat // 1 ≤ k ∧ sortedB (l.drop (k - 1)) = sortedB l} => ⟨[(0, svs l), (3, i64 (x.1 : Nat))], [], 0⟩) (fun x => l.length - x.1) (⟨1, Nat.le_refl _, rfl⟩) ?_ ?_
 ·
  exact weak_scrub' rfl (zz2 trivial) trivial
 ·rintro ⟨k, hk, hg⟩
  dsimp only
  refine rn8 ?_
  refine zq ?_ ?_ <;> intro h4
  ·
   have hlt : k < l.length := by simpa using h4
   obtain ⟨x, hx⟩ := get_lt hlt
   obtain ⟨y, hy⟩ := get_lt (show k - 1 < l.length by omega)
   have hs := sorted_go hk hg hy hx
   refine rn4 ?_; refine awp_draw 9 (by kernel_rfl) (by kernel_rfl) ?_; refine rn2 ?_; refine zp (q_subi rfl rfl rfl (by omega)) ?_
   refine zp (q_elem rfl rfl rfl (k - 1) (by omega) _ (map_get hy) rfl) ?_; refine rn3 ?_; refine zp (q_elem rfl rfl rfl k rfl _ (map_get hx) rfl) ?_
   refine zl ?_; change AOps _ _ _ _ _ _; refine rn2 ?_
   refine zq ?_ ?_ <;> intro h10
   ·
    refine rn3 ?_; refine zQ ?_
    exact retB (by rw [hs]; simp_all)
   ·
    have hn : sortedB (l.drop (k + 1 - 1)) = sortedB l := by
     rw [hs, Nat.add_sub_cancel]; simp_all
    refine rn3 ?_; refine zP (q_addi rfl rfl rfl (by omega)) ?_; refine zS ?_; refine aops_nil ?_
    
    exact ⟨⟨k + 1, by omega, hn⟩, weak_scrub' rfl (zz1 ⟨(cgI (by dsimp only; omega)), rfl, trivial⟩) trivial, by dsimp only; omega⟩
  have hge : l.length ≤ k := by simpa using h4
  refine rn4 ?_; refine zQ ?_
  exact retB (sorted_end hg hge).symm
set_option maxRecDepth 100000 in
set_option maxHeartbeats 1000000 in
theorem index_fc (l : List Nm) (s : Nm) : FC Tryz.prog 170 [svs l, sv s] (i64 (indexN s l 0)) := by
 refine fc_of_awp [4] Tryz.func170 rfl rfl 19 Tryz.ntmps170 (Nat.le_of_ble_eq_true rfl) ?_
 intro E hN
 refine a_lm 0 rfl (fun hl0 => ?_)
 refine rn12 ?_
 refine awp_loop (fun x : {k : Nat // k ≤ (l).length ∧ indexN s (l.drop k) k = indexN s l 0} => ⟨[(0, svs l), (1, sv s), (7, i64 l.length), (8, i64 (x.1 : Nat))], [], 0⟩) (fun x => (l).length - x.1) (⟨0, Nat.zero_le _, by simp⟩) ?_ ?_
 ·
  exact weak_scrub' rfl (zz2 ⟨(cgI (by simp)), rfl, (zz1 trivial)⟩) trivial
 rintro ⟨k, hk, hg⟩
 dsimp only
 refine rn5 ?_
 refine zq ?_ ?_ <;> intro h6
 ·
  have hlt : k < (l).length := by simpa using h6
  obtain ⟨x, hx⟩ := get_lt hlt
  have hs : indexN s l 0 = if s == x then (k : Int) else indexN s (l.drop (k + 1)) (k + 1) := by rw [← hg, drop_get hx]; rfl
  refine rn13 ?_; refine zP (q_elem rfl rfl rfl k rfl _ (map_get hx) rfl) ?_; refine rn3 ?_
  refine zq ?_ ?_ <;> intro h9
  ·
   refine rn4 ?_; refine zQ ?_
   exact retI (by rw [hs, if_pos (by simp_all)])
  have hn : indexN s (l.drop (k + 1)) (k + 1) = indexN s l 0 := by rw [hs, if_neg (by simp_all)]
  refine rn2 ?_; refine zP (q_addi rfl rfl rfl (by omega)) ?_; refine zM ?_; refine aops_nil ?_
  exact ⟨⟨k + 1, hlt, hn⟩, weak_scrub' rfl (zz3 ⟨(cgI (by dsimp only; omega)), rfl, trivial⟩) trivial, by dsimp only; omega⟩
 have hge : (l).length ≤ k := by simpa using h6
 refine rn4 ?_; refine zQ ?_
 exact retI (by rw [← hg, List.drop_of_length_le hge]; rfl)
set_option maxRecDepth 100000 in
set_option maxHeartbeats 1000000 in
theorem contains_fc (l : List Nm) (s : Nm) : FC Tryz.prog 148 [svs l, sv s] (bl (hasB l s)) := by
 refine fc_of_awp [4] Tryz.func148 rfl rfl 9 Tryz.ntmps148 (Nat.le_of_ble_eq_true rfl) ?_
 intro E hN
 refine rn8 ?_; refine zP (q_call (index_fc l s) rfl rfl rfl) ?_; refine rn2 ?_; refine zQ ?_
 exact retB (index_has s l 0)
set_option maxRecDepth 100000 in
set_option maxHeartbeats 1000000 in
theorem has_fc (l : List Nm) (s : Nm) : FC Tryz.prog 109 [svs l, sv s] (bl (hasB l s)) := by
 refine fc_of_awp [4] Tryz.func109 rfl rfl 8 Tryz.ntmps109 (Nat.le_of_ble_eq_true rfl) ?_
 intro E hN
 refine rn8 ?_; refine zP (q_call (contains_fc l s) rfl rfl rfl) ?_; refine zS ?_; refine zQ ?_
 rfl
set_option maxRecDepth 100000 in
set_option maxHeartbeats 1000000 in
theorem subset_fc (a b : List Nm) : FC Tryz.prog 108 [svs a, svs b] (bl (subsetB a b)) := by
 refine fc_of_awp [4] Tryz.func108 rfl rfl 18 Tryz.ntmps108 (Nat.le_of_ble_eq_true rfl) ?_
 intro E hN
 refine a_lm 0 rfl (fun hl0 => ?_)
 refine rn12 ?_
 refine awp_loop (fun x : {k : Nat // k ≤ (a).length ∧ (a.drop k).all (hasB b) = a.all (hasB b)} => ⟨[(1, svs b), (7, svs a), (8, i64 a.length), (9, i64 (x.1 : Nat))], [], 0⟩) (fun x => (a).length - x.1) (⟨0, Nat.zero_le _, by simp⟩) ?_ ?_
 ·
  exact weak_scrub' rfl (zz2 ⟨(cgI (by simp)), rfl, (zz1 trivial)⟩) trivial
 rintro ⟨k, hk, hg⟩
 dsimp only
 refine rn5 ?_
 refine zq ?_ ?_ <;> intro h7
 ·
  have hlt : k < (a).length := by simpa using h7
  obtain ⟨x, hx⟩ := get_lt hlt
  refine rn5 ?_; refine zP (q_elem rfl rfl rfl k rfl _ (map_get hx) rfl) ?_; refine rn7 ?_; refine zP (q_call (has_fc b _) rfl rfl rfl) ?_
  refine rn2 ?_
  refine zq ?_ ?_ <;> intro h10
  ·
   refine rn3 ?_; refine zQ ?_
   exact retB (all_no hg hx (by simp_all)).symm
  refine rn2 ?_; refine zP (q_addi rfl rfl rfl (by omega)) ?_; refine zM ?_; refine aops_nil ?_
  exact ⟨⟨k + 1, hlt, all_go hg hx (by simp_all)⟩, weak_scrub' rfl (zz3 ⟨(cgI (by dsimp only; omega)), rfl, trivial⟩) trivial, by dsimp only; omega⟩
 have hge : (a).length ≤ k := by simpa using h7
 refine rn4 ?_; refine zQ ?_
 exact retB (all_end hg hge).symm
end Go.Proofs.YtaecccdkjmipeaaGreat
