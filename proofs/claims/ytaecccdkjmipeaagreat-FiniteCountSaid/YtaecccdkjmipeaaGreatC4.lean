/-
  Contracts of the reference: Check.
  Contracts of the reference: the walk through a description.
-/
import Derived.Test.YtaecccdkjmipeaaGreatC3
import Derived.Test.YtaecccdkjmipeaaGreatA3
namespace Go.Proofs.YtaecccdkjmipeaaGreat
open Go.RowKit
theorem zipN_get {l : List Nm} {k : Nat} {x : Nm} (h : l[k]? = some x) : l.zipIdx[k]? = some (x, k) := by simp [h]
def oneN (l : Lat) (q : Nm × Nat) : Bool := validB q.1 && !hasB (l.nm.take q.2) q.1
def ruleA (nm : List Nm) (r : Ru) : Bool := !((r.i.length : Int) == 0) && riseB r.i && hasB nm r.t
theorem ruleR_A {nm : List Nm} {r : Ru} : ruleR nm r = (ruleA nm r && r.i.all (hasB nm)) := rfl
set_option maxRecDepth 100000 in
set_option maxHeartbeats 1000000 in
theorem named_fc (l : Lat) : FC Tryz.prog 138 [.agg (latL l)] (bl (namesR l)) := by
 refine fc_of_awp [2] Tryz.func138 rfl rfl 86 Tryz.ntmps138 (Nat.le_of_ble_eq_true rfl) ?_
 intro E hN
 refine rn12 ?_
 refine zq ?_ ?_ <;> intro h5
 ·
  have h6 : (l.k == 6) = true := h5
  refine rn6 ?_
  refine awp_loop (fun x : {k : Nat // k ≤ (l.nm).length ∧ (l.nm.zipIdx.drop k).all (oneN l) = l.nm.zipIdx.all (oneN l)} => ⟨[(1, .ptr 0 0), (3, i64 (x.1 : Nat))], [(0, .var 26 (latL l))], 1⟩) (fun x => (l.nm).length - x.1) (⟨0, Nat.zero_le _, by simp⟩) ?_ ?_
  ·
   exact weak_scrub' rfl (zz2 trivial) ⟨rfl, rfl, rfl, trivial⟩
  rintro ⟨k, hk, hg⟩
  dsimp only
  refine rn9 ?_
  refine zq ?_ ?_ <;> intro h11
  ·
   refine a_lm 12 rfl (fun hlen => ?_)
   have hlt : k < (l.nm).length := by simpa using h11
   obtain ⟨x, hx⟩ := get_lt hlt
   refine rn4 ?_; refine awp_draw 18 (by kernel_rfl) (by kernel_rfl) ?_; refine rn3 ?_; refine zp (q_elem rfl rfl rfl k rfl _ (map_get hx) rfl) ?_
   refine zl ?_; refine zp (q_call (r9Name_fc x) rfl rfl rfl) ?_; refine rn2 ?_
   refine zd 24 ?_ ?_ <;> intro h16
   ·
    have ho0 : oneN l (x, k) = false := by unfold oneN; rw [n1 h16]; rfl
    iterate 10 refine vK (w10 (m0 (n1 h16))) ?_
    change AOps _ _ _ _ _ _; refine zh1 (m0 (n1 h16)) ?_; refine zN ?_; refine c_true rfl rfl ?_; refine rn3 ?_; refine zQ ?_
    exact retB (by unfold namesR; rw [if_pos h6]; exact (all_no hg (zipN_get hx) ho0).symm)
   have hv1 : validB x = true := n0 h16
   refine vP (w00 (m1 (n0 h16))) (q_fieldAddr rfl rfl rfl rfl) ?_; refine vP (w00 (m1 (n0 h16))) (q_load rfl rfl rfl rfl rfl) ?_
   refine vP (w00 (m1 (n0 h16))) (q_move rfl rfl) ?_; refine vP (w00 (m1 (n0 h16))) (q_to rfl rfl rfl k rfl (by omega) (by exact fun _ => rfl)) ?_
   refine vP (w00 (m1 (n0 h16))) (q_fieldAddr rfl rfl rfl rfl) ?_; refine vP (w00 (m1 (n0 h16))) (q_load rfl rfl rfl rfl rfl) ?_
   refine vP (w00 (m1 (n0 h16))) (q_move rfl rfl) ?_; refine vP (w00 (m1 (n0 h16))) (q_elem rfl rfl rfl k rfl _ (map_get hx) rfl) ?_
   refine vP (w00 (m1 (n0 h16))) (q_load rfl rfl rfl rfl rfl) ?_; refine vP (w00 (m1 (n0 h16))) (q_call (r9In_fc (l.nm.take k) x) rfl rfl rfl) ?_
   change AOps _ _ _ _ _ _; refine zh0 (m1 (n0 h16)) ?_; refine zN ?_
   refine zq ?_ ?_ <;> intro h24
   ·
    have ho0 : oneN l (x, k) = false := by unfold oneN; rw [hv1]; simp only [Bool.true_and, Bool.not_eq_false']; exact h24
    refine rn3 ?_; refine zQ ?_
    exact retB (by unfold namesR; rw [if_pos h6]; exact (all_no hg (zipN_get hx) ho0).symm)
   have ho1 : oneN l (x, k) = true := by unfold oneN; rw [hv1]; simp only [Bool.true_and, Bool.not_eq_true']; exact h24
   refine rn3 ?_; refine zP (q_addi rfl rfl rfl (by omega)) ?_; refine zS ?_; refine aops_nil ?_
   exact ⟨⟨k + 1, hlt, all_go hg (zipN_get hx) ho1⟩, weak_scrub' rfl (zz1 ⟨(cgI (by dsimp only; omega)), rfl, trivial⟩) ⟨rfl, rfl, rfl, trivial⟩, by dsimp only; omega⟩
  have hge : (l.nm).length ≤ k := by simpa using h11
  refine rn4 ?_; refine zQ ?_
  exact retB (by unfold namesR; rw [if_pos h6]; exact (all_end hg (by simpa using hge)).symm)
 have h6 : (l.k == 6) = false := h5
 refine rn6 ?_; refine zP (q_call (rise_fc l.nm) rfl rfl rfl) ?_; refine rn2 ?_
 refine zq ?_ ?_ <;> intro h28
 ·
  have h8 := n1 h28
  refine rn3 ?_; refine zQ ?_
  exact retB (by unfold namesR; rw [h6, h8]; rfl)
 have h8 := n0 h28
 refine rn7 ?_
 refine awp_loop (fun x : {k : Nat // k ≤ (l.rs).length ∧ (l.rs.drop k).all (ruleR l.nm) = l.rs.all (ruleR l.nm)} => ⟨[(1, .ptr 0 0), (4, i64 (x.1 : Nat))], [(0, .var 26 (latL l))], 1⟩) (fun x => (l.rs).length - x.1) (⟨0, Nat.zero_le _, by simp⟩) ?_ ?_
 ·
  exact weak_scrub' rfl (zz2 trivial) ⟨rfl, rfl, rfl, trivial⟩
 rintro ⟨k, hk, hg⟩
 dsimp only
 refine rn9 ?_
 refine zq ?_ ?_ <;> intro h34
 ·
  refine a_lm 42 rfl (fun hlen => ?_)
  have hlt : k < (l.rs).length := by simpa using h34
  obtain ⟨x, hx⟩ := get_lt hlt
  refine rn8 ?_; refine zP (q_elem rfl rfl rfl k rfl _ (map_get hx) rfl) ?_; refine rn12 ?_
  refine zc 56 ?_ ?_ <;> intro h44
  ·
   iterate 4 refine uK (w10 h44) ?_
   refine zh1 h44 ?_; refine rn7 ?_; refine zh1 rfl ?_; refine zN ?_; refine c_true rfl rfl ?_; refine rn3 ?_; refine zQ ?_
   exact retB (by unfold namesR; rw [h6, h8, all_no hg hx (by rw [ruleR_A, show ruleA l.nm x = false by first | exact hra | (unfold ruleA; simp_all)]; rfl)]; rfl)
  refine uF (w00 h44) ?_; refine uL (w00 h44) ?_; refine uP (w00 h44) (q_call (rise_fc x.i) rfl rfl rfl) ?_; refine uP (w00 h44) (q_not rfl rfl) ?_
  refine zh0 h44 ?_; refine zM ?_
  refine zc 62 ?_ ?_ <;> intro h47
  ·
   iterate 6 refine uK (w10 (m0 (n1 h47))) ?_
   refine zh1 (m0 (n1 h47)) ?_; refine zN ?_; refine c_true rfl rfl ?_; refine rn3 ?_; refine zQ ?_
   exact retB (by unfold namesR; rw [h6, h8, all_no hg hx (by rw [ruleR_A, show ruleA l.nm x = false by first | exact hra | (unfold ruleA; simp_all)]; rfl)]; rfl)
  refine uF (w00 (m1 (n0 h47))) ?_; refine uL (w00 (m1 (n0 h47))) ?_; refine uF (w00 (m1 (n0 h47))) ?_; refine uL (w00 (m1 (n0 h47))) ?_
  refine uP (w00 (m1 (n0 h47))) (q_call (r9In_fc l.nm x.t) rfl rfl rfl) ?_; refine uP (w00 (m1 (n0 h47))) (q_not rfl rfl) ?_
  refine zh0 (m1 (n0 h47)) ?_; refine zN ?_
  refine zq ?_ ?_ <;> intro h52
  ·
   have hra : ruleA l.nm x = false := by unfold ruleA; simp_all
   refine rn3 ?_; refine zQ ?_
   exact retB (by unfold namesR; rw [h6, h8, all_no hg hx (by rw [ruleR_A, show ruleA l.nm x = false by first | exact hra | (unfold ruleA; simp_all)]; rfl)]; rfl)
  have hra : ruleA l.nm x = true := by unfold ruleA; simp_all
  refine rn6 ?_
  refine awp_loop (fun z : {j : Nat // j ≤ x.i.length ∧ (x.i.drop j).all (hasB l.nm) = x.i.all (hasB l.nm)} => ⟨[(1, .ptr 0 0), (4, i64 (k : Nat)), (5, .ptr 1 0), (6, i64 (z.1 : Nat))], [(0, .var 26 (latL l)), (1, .var 133 (ruC x))], 2⟩) (fun z => x.i.length - z.1) (⟨0, Nat.zero_le _, rfl⟩) ?_ ?_
  ·
   exact weak_scrub' rfl (zz4 trivial) ⟨rfl, rfl, rfl, rfl, rfl, rfl, trivial⟩
  rintro ⟨j, hj, hgj⟩
  dsimp only
  skip
  refine rn9 ?_
  refine zq ?_ ?_ <;> intro h60
  ·
   refine a_lm 72 rfl (fun hlen => ?_)
   have hjl : j < x.i.length := by have e := h60; simp at e; omega
   obtain ⟨y, hy⟩ := get_lt hjl
   refine rn4 ?_; refine awp_draw 8 (by kernel_rfl) (by kernel_rfl) ?_; refine rn5 ?_; refine zp (q_elem rfl rfl rfl j rfl _ (map_get hy) rfl) ?_
   refine zl ?_; refine zp (q_call (r9In_fc l.nm y) rfl rfl rfl) ?_; change AOps _ _ _ _ _ _; refine rn2 ?_
   refine zq ?_ ?_ <;> intro h67
   ·
    have h19 := n1 h67
    refine rn3 ?_; refine zQ ?_
    exact retB (by unfold namesR; rw [h6, h8, all_no hg hx (by rw [ruleR_A, hra, all_no hgj hy h19]; rfl)]; rfl)
   have h19 := h67
   refine rn3 ?_; refine zP (q_addi rfl rfl rfl (by omega)) ?_; refine zS ?_; refine aops_nil ?_
   exact ⟨⟨j + 1, hjl, all_go hgj hy (n0 h19)⟩, weak_scrub' rfl (zz3 ⟨(cgI (by dsimp only; omega)), rfl, trivial⟩) ⟨rfl, rfl, rfl, rfl, rfl, rfl, trivial⟩, by dsimp only; omega⟩
  have hje : x.i.length ≤ j := by have e := h60; simp at e; omega
  refine rn3 ?_; refine zP (q_addi rfl rfl rfl (by omega)) ?_; refine zS ?_; refine aops_nil ?_
  exact ⟨⟨k + 1, hlt, all_go hg hx (by rw [ruleR_A, hra, all_end hgj hje]; rfl)⟩, weak_scrub' rfl (zz1 ⟨(cgI (by dsimp only; omega)), rfl, trivial⟩) ⟨rfl, rfl, rfl, trivial⟩, by dsimp only; omega⟩
 have hge : (l.rs).length ≤ k := by simpa using h34
 refine rn4 ?_; refine zQ ?_
 exact retB (by unfold namesR; rw [h6, h8, all_end hg hge]; rfl)
/-- the error of a node at a depth -/
def nodeE (l : Lat) (d n : Int) : Int := if d > 6 ∨ n ≥ 64 then 6 else if shapeX l ≠ 0 then 1 else orE [limitsX l, spellX l, rangesX l, chainsX l]
section
variable {l : Lat} {d n : Int}
theorem nd_big (h : d > 6 ∨ n ≥ 64) : nodeE l d n = 6 := by unfold nodeE; rw [if_pos h]
theorem nd_shape (h : ¬ (d > 6 ∨ n ≥ 64)) (hs : (shapeX l == 0) = false) : nodeE l d n = 1 := by unfold nodeE; rw [if_neg h, if_pos (by simpa using hs)]
theorem nd_or (h : ¬ (d > 6 ∨ n ≥ 64)) (hs : shapeX l = 0) : nodeE l d n = orE [limitsX l, spellX l, rangesX l, chainsX l] := by unfold nodeE; rw [if_neg h, if_neg (by rw [hs]; decide)]
theorem or_1 {a b c e : Int} (h : a ≠ 0) : orE [a, b, c, e] = a := by simp [orE, h]
theorem or_2 {a b c e : Int} (h1 : a = 0) (h : b ≠ 0) : orE [a, b, c, e] = b := by simp [orE, h, h1]
theorem or_3 {a b c e : Int} (h1 : a = 0) (h2 : b = 0) (h : c ≠ 0) : orE [a, b, c, e] = c := by simp [orE, h, h1, h2]
theorem or_4 {a b c e : Int} (h1 : a = 0) (h2 : b = 0) (h3 : c = 0) : orE [a, b, c, e] = e := by
 by_cases h : e = 0 <;> simp [orE, h, h1, h2, h3]
theorem lim_1 (h : ((decide ((l.nm.length : Int) > mostN l.k)) || decide ((l.rs.length : Int) > 32)) = true) : limitsX l = 6 := by unfold limitsX; rw [h]; rfl
theorem lim_0 (h : ((decide ((l.nm.length : Int) > mostN l.k)) || decide ((l.rs.length : Int) > 32)) = false) : limitsX l = 0 := by unfold limitsX; rw [h]; rfl
theorem rng_eq : rangesX l = whenE (decide (l.lo > l.hi) || decide (l.lo < -1000000000) || decide (l.hi > 1000000000)) 5 := by
 unfold rangesX
 congr 1
 by_cases h1 : l.lo > l.hi
 ·simp [h1]
 by_cases h2 : l.lo < -1000000000
 ·simp [h2]
 by_cases h3 : l.hi > 1000000000
 ·simp [h3]
 have h4 : ¬ l.lo > 1000000000 := by omega
 have h5 : ¬ l.hi < -1000000000 := by omega
 simp [h1, h2, h3, h4, h5]
end
set_option maxRecDepth 100000 in
set_option maxHeartbeats 1000000 in
theorem node_fc (l : Lat) (d n : Int) : FC Tryz.prog 94 [.agg (latL l), i64 d, i64 n] (i64 (nodeE l d n)) := by
 refine fc_of_awp [6] Tryz.func94 rfl rfl 69 Tryz.ntmps94 (Nat.le_of_ble_eq_true rfl) ?_
 intro E hN
 refine rn16 ?_
 refine zq ?_ ?_ <;> intro h7
 ·
  refine rn3 ?_; refine c_cut (⟨[(1, i64 d), (2, i64 n), (3, .ptr 0 0), (7, i64 (mostN l.k))], [(0, .var 26 (latL l))], 1⟩) ?_ ?_
  ·
   refine rn6 ?_
   refine zq ?_ ?_ <;> intro h10
   ·
    refine rn2 ?_; refine aops_nil ?_
    exact weak_scrub' rfl (zz3 ⟨(cgI (by unfold mostN; simp_all)), rfl, trivial⟩) ⟨rfl, rfl, rfl, trivial⟩
   refine awp_skip ?_
   exact weak_scrub' rfl (zz3 ⟨(cgI (by unfold mostN; simp_all)), rfl, trivial⟩) ⟨rfl, rfl, rfl, trivial⟩
  refine rn7 ?_
  refine zc 17 ?_ ?_ <;> intro h13
  ·
   iterate 2 refine uK (w10 h13) ?_
   refine zh1 h13 ?_; refine zT ?_; refine c_true rfl rfl ?_; refine rn3 ?_; refine zQ ?_
   exact retI (nd_big (by first | (left; simp_all; done) | (right; simp_all; done))).symm
  refine uM (w00 h13) ?_; refine uP (w00 h13) (q_bin rfl rfl rfl) ?_; refine zh0 h13 ?_; refine zT ?_
  refine zq ?_ ?_ <;> intro h14
  ·
   have hb : d > 6 ∨ n ≥ 64 := by first | (left; simp_all; done) | (right; simp_all; done)
   refine rn3 ?_; refine zQ ?_
   exact retI (nd_big (by first | (left; simp_all; done) | (right; simp_all; done))).symm
  have hb : ¬ (d > 6 ∨ n ≥ 64) := by first | (simp_all; done) | (simp_all; omega)
  refine rn3 ?_; refine zP (q_call (r9shape_fc l) rfl rfl rfl) ?_; refine rn3 ?_
  refine zq ?_ ?_ <;> intro h16
  ·
   have hs := n1 h16
   refine rn3 ?_; refine zQ ?_
   exact retI (nd_shape hb hs).symm
  have hs : shapeX l = 0 := by simpa using n0 h16
  refine rn8 ?_
  refine zc 31 ?_ ?_ <;> intro h20
  ·
   iterate 4 refine uK (w10 h20) ?_
   refine zh1 h20 ?_; refine zT ?_; refine c_true rfl rfl ?_; refine rn3 ?_; refine zQ ?_
   exact retI (by rw [nd_or hb hs, or_1 (by rw [lim_1 (by simp_all)]; decide), lim_1 (by simp_all)])
  refine uF (w00 h20) ?_; refine uL (w00 h20) ?_; refine uE (w00 h20) ?_; refine uP (w00 h20) (q_bin rfl rfl rfl) ?_; refine zh0 h20 ?_; refine zT ?_
  refine zq ?_ ?_ <;> intro h24
  ·
   refine rn3 ?_; refine zQ ?_
   exact retI (by rw [nd_or hb hs, or_1 (by rw [lim_1 (by simp_all)]; decide), lim_1 (by simp_all)])
  have hlim : ((decide ((l.nm.length : Int) > mostN l.k)) || decide ((l.rs.length : Int) > 32)) = false := by simp_all
  have hl0 := lim_0 hlim
  have hl1 : (l.nm.length : Int) ≤ mostN l.k ∧ (l.rs.length : Int) ≤ 32 := by simp at hlim; omega
  refine rn3 ?_; refine zP (q_call (named_fc l) rfl rfl rfl) ?_; refine rn3 ?_
  refine zq ?_ ?_ <;> intro h26
  ·
   have hsp : spellX l = 3 := by
    have e := n1 h26
    rw [namesR_eq hs] at e
    unfold spellX at e ⊢
    split
    ·rename_i h; rw [if_pos h] at e; cases e
    rfl
   refine rn3 ?_; refine zQ ?_
   exact retI (by rw [nd_or hb hs, or_2 hl0 (by rw [hsp]; decide), hsp])
  have hsp : spellX l = 0 := by
   have e := n0 h26
   rw [namesR_eq hs] at e
   simpa using e
  refine rn8 ?_
  refine zc 47 ?_ ?_ <;> intro h31
  ·
   iterate 3 refine uK (w10 h31) ?_
   refine zh1 h31 ?_; refine rn4 ?_; refine zh1 rfl ?_; refine zT ?_; refine c_true rfl rfl ?_; refine rn3 ?_; refine zQ ?_
   exact retI (by have e : rangesX l = 5 := (by rw [rng_eq]; (first | (simp_all; done) | simp_all [whenE])); rw [nd_or hb hs, or_3 hl0 hsp (by rw [e]; decide), e])
  refine uF (w00 h31) ?_; refine uL (w00 h31) ?_; refine uP (w00 h31) (q_bin rfl rfl rfl) ?_; refine zh0 h31 ?_; refine zM ?_
  refine zc 52 ?_ ?_ <;> intro h34
  ·
   iterate 3 refine uK (w10 h34) ?_
   refine zh1 h34 ?_; refine zT ?_; refine c_true rfl rfl ?_; refine rn3 ?_; refine zQ ?_
   exact retI (by have e : rangesX l = 5 := (by rw [rng_eq]; (first | (simp_all; done) | simp_all [whenE])); rw [nd_or hb hs, or_3 hl0 hsp (by rw [e]; decide), e])
  refine uF (w00 h34) ?_; refine uL (w00 h34) ?_; refine uP (w00 h34) (q_bin rfl rfl rfl) ?_; refine zh0 h34 ?_; refine zT ?_
  refine zq ?_ ?_ <;> intro h37
  ·
   refine rn3 ?_; refine zQ ?_
   exact retI (by have e : rangesX l = 5 := (by rw [rng_eq]; (first | (simp_all; done) | simp_all [whenE])); rw [nd_or hb hs, or_3 hl0 hsp (by rw [e]; decide), e])
  have hrg : rangesX l = 0 := by rw [rng_eq]; (first | (simp_all; done) | simp_all [whenE])
  refine rn6 ?_
  refine zc 61 ?_ ?_ <;> intro h40
  ·
   have h7 : l.k = 7 := by simpa using h40
   obtain ⟨a, r, hps⟩ := shape_7 hs h7
   have ha : l.ps[0]? = some a := by rw [hps]; rfl
   refine uF (w11 h40) ?_; refine uL (w11 h40) ?_; refine uP (w11 h40) (q_elem rfl rfl rfl 0 rfl _ (lat_get ha) rfl) ?_; refine uL (w11 h40) ?_
   refine uP (w11 h40) (q_call (r9Chain_fc a) rfl rfl rfl) ?_; refine uP (w11 h40) (q_not rfl rfl) ?_; refine zh1 h40 ?_; refine zT ?_
   refine zq ?_ ?_ <;> intro h45
   ·
    refine rn3 ?_; refine zQ ?_
    exact retI (by rw [nd_or hb hs, or_4 hl0 hsp hrg]; unfold chainsX; rw [hps]; (first | (simp_all; done) | simp_all [whenE]))
   refine rn4 ?_; refine zQ ?_
   exact retI (by rw [nd_or hb hs, or_4 hl0 hsp hrg]; unfold chainsX; (first | (simp_all; done) | simp_all [whenE]))
  iterate 6 refine uK (w01 h40) ?_
  refine zh0 h40 ?_; refine zT ?_; refine c_false rfl rfl ?_; refine rn4 ?_; refine zQ ?_
  exact retI (by rw [nd_or hb hs, or_4 hl0 hsp hrg]; unfold chainsX; (first | (simp_all; done) | simp_all [whenE]))
 refine zW ?_; refine c_cut (⟨[(1, i64 d), (2, i64 n), (3, .ptr 0 0), (7, i64 (mostN l.k))], [(0, .var 26 (latL l))], 1⟩) ?_ ?_
 ·
  refine rn6 ?_
  refine zq ?_ ?_ <;> intro h48
  ·
   refine rn2 ?_; refine aops_nil ?_
   exact weak_scrub' rfl (zz3 ⟨(cgI (by unfold mostN; simp_all)), rfl, trivial⟩) ⟨rfl, rfl, rfl, trivial⟩
  refine awp_skip ?_
  exact weak_scrub' rfl (zz3 ⟨(cgI (by unfold mostN; simp_all)), rfl, trivial⟩) ⟨rfl, rfl, rfl, trivial⟩
 refine rn7 ?_
 refine zc 17 ?_ ?_ <;> intro h51
 ·
  iterate 2 refine uK (w10 h51) ?_
  refine zh1 h51 ?_; refine zT ?_; refine c_true rfl rfl ?_; refine rn3 ?_; refine zQ ?_
  exact retI (nd_big (by first | (left; simp_all; done) | (right; simp_all; done))).symm
 refine uM (w00 h51) ?_; refine uP (w00 h51) (q_bin rfl rfl rfl) ?_; refine zh0 h51 ?_; refine zT ?_
 refine zq ?_ ?_ <;> intro h52
 ·
  have hb : d > 6 ∨ n ≥ 64 := by first | (left; simp_all; done) | (right; simp_all; done)
  refine rn3 ?_; refine zQ ?_
  exact retI (nd_big (by first | (left; simp_all; done) | (right; simp_all; done))).symm
 have hb : ¬ (d > 6 ∨ n ≥ 64) := by first | (simp_all; done) | (simp_all; omega)
 refine rn3 ?_; refine zP (q_call (r9shape_fc l) rfl rfl rfl) ?_; refine rn3 ?_
 refine zq ?_ ?_ <;> intro h54
 ·
  have hs := n1 h54
  refine rn3 ?_; refine zQ ?_
  exact retI (nd_shape hb hs).symm
 have hs : shapeX l = 0 := by simpa using n0 h54
 refine rn8 ?_
 refine zc 31 ?_ ?_ <;> intro h58
 ·
  iterate 4 refine uK (w10 h58) ?_
  refine zh1 h58 ?_; refine zT ?_; refine c_true rfl rfl ?_; refine rn3 ?_; refine zQ ?_
  exact retI (by rw [nd_or hb hs, or_1 (by rw [lim_1 (by simp_all)]; decide), lim_1 (by simp_all)])
 refine uF (w00 h58) ?_; refine uL (w00 h58) ?_; refine uE (w00 h58) ?_; refine uP (w00 h58) (q_bin rfl rfl rfl) ?_; refine zh0 h58 ?_; refine zT ?_
 refine zq ?_ ?_ <;> intro h62
 ·
  refine rn3 ?_; refine zQ ?_
  exact retI (by rw [nd_or hb hs, or_1 (by rw [lim_1 (by simp_all)]; decide), lim_1 (by simp_all)])
 have hlim : ((decide ((l.nm.length : Int) > mostN l.k)) || decide ((l.rs.length : Int) > 32)) = false := by simp_all
 have hl0 := lim_0 hlim
 have hl1 : (l.nm.length : Int) ≤ mostN l.k ∧ (l.rs.length : Int) ≤ 32 := by simp at hlim; omega
 refine rn3 ?_; refine zP (q_call (named_fc l) rfl rfl rfl) ?_; refine rn3 ?_
 refine zq ?_ ?_ <;> intro h64
 ·
  have hsp : spellX l = 3 := by
   have e := n1 h64
   rw [namesR_eq hs] at e
   unfold spellX at e ⊢
   split
   ·rename_i h; rw [if_pos h] at e; cases e
   rfl
  refine rn3 ?_; refine zQ ?_
  exact retI (by rw [nd_or hb hs, or_2 hl0 (by rw [hsp]; decide), hsp])
 have hsp : spellX l = 0 := by
  have e := n0 h64
  rw [namesR_eq hs] at e
  simpa using e
 refine rn8 ?_
 refine zc 47 ?_ ?_ <;> intro h69
 ·
  iterate 3 refine uK (w10 h69) ?_
  refine zh1 h69 ?_; refine rn4 ?_; refine zh1 rfl ?_; refine zT ?_; refine c_true rfl rfl ?_; refine rn3 ?_; refine zQ ?_
  exact retI (by have e : rangesX l = 5 := (by rw [rng_eq]; (first | (simp_all; done) | simp_all [whenE])); rw [nd_or hb hs, or_3 hl0 hsp (by rw [e]; decide), e])
 refine uF (w00 h69) ?_; refine uL (w00 h69) ?_; refine uP (w00 h69) (q_bin rfl rfl rfl) ?_; refine zh0 h69 ?_; refine zM ?_
 refine zc 52 ?_ ?_ <;> intro h72
 ·
  iterate 3 refine uK (w10 h72) ?_
  refine zh1 h72 ?_; refine zT ?_; refine c_true rfl rfl ?_; refine rn3 ?_; refine zQ ?_
  exact retI (by have e : rangesX l = 5 := (by rw [rng_eq]; (first | (simp_all; done) | simp_all [whenE])); rw [nd_or hb hs, or_3 hl0 hsp (by rw [e]; decide), e])
 refine uF (w00 h72) ?_; refine uL (w00 h72) ?_; refine uP (w00 h72) (q_bin rfl rfl rfl) ?_; refine zh0 h72 ?_; refine zT ?_
 refine zq ?_ ?_ <;> intro h75
 ·
  refine rn3 ?_; refine zQ ?_
  exact retI (by have e : rangesX l = 5 := (by rw [rng_eq]; (first | (simp_all; done) | simp_all [whenE])); rw [nd_or hb hs, or_3 hl0 hsp (by rw [e]; decide), e])
 have hrg : rangesX l = 0 := by rw [rng_eq]; (first | (simp_all; done) | simp_all [whenE])
 refine rn6 ?_
 refine zc 61 ?_ ?_ <;> intro h78
 ·
  have h7 : l.k = 7 := by simpa using h78
  obtain ⟨a, r, hps⟩ := shape_7 hs h7
  have ha : l.ps[0]? = some a := by rw [hps]; rfl
  refine uF (w11 h78) ?_; refine uL (w11 h78) ?_; refine uP (w11 h78) (q_elem rfl rfl rfl 0 rfl _ (lat_get ha) rfl) ?_; refine uL (w11 h78) ?_
  refine uP (w11 h78) (q_call (r9Chain_fc a) rfl rfl rfl) ?_; refine uP (w11 h78) (q_not rfl rfl) ?_; refine zh1 h78 ?_; refine zT ?_
  refine zq ?_ ?_ <;> intro h83
  ·
   refine rn3 ?_; refine zQ ?_
   exact retI (by rw [nd_or hb hs, or_4 hl0 hsp hrg]; unfold chainsX; rw [hps]; (first | (simp_all; done) | simp_all [whenE]))
  refine rn4 ?_; refine zQ ?_
  exact retI (by rw [nd_or hb hs, or_4 hl0 hsp hrg]; unfold chainsX; (first | (simp_all; done) | simp_all [whenE]))
 iterate 6 refine uK (w01 h78) ?_
 refine zh0 h78 ?_; refine zT ?_; refine c_false rfl rfl ?_; refine rn4 ?_; refine zQ ?_
 exact retI (by rw [nd_or hb hs, or_4 hl0 hsp hrg]; unfold chainsX; (first | (simp_all; done) | simp_all [whenE]))
end Go.Proofs.YtaecccdkjmipeaaGreat

namespace Go.Proofs.YtaecccdkjmipeaaGreat
open Go.RowKit
/-- what the reference's walk returns: the count only if there is no error -/
def resW (v : Int × Int) : AV := .tup [if v.1 = 0 then i64 v.2 else .bot, i64 v.1]
theorem resW_err {v : Int × Int} {e : Int} (h : v.1 = e) (he : e ≠ 0) : AV.tup [.bot, i64 e] = resW v := by unfold resW; rw [h, if_neg he]
theorem resW_ok {v : Int × Int} {m : Int} (h : (0, m) = v) : AV.tup [i64 m, i64 0] = resW v := by unfold resW; rw [← h, if_pos rfl]
section
variable {f : Nat} {l : Lat} {n d : Int}
theorem visit_err (hd : d ≤ 6) (h : nodeE l d n ≠ 0) : (visitF (f + 1) l n).1 = nodeE l d n := by
 unfold nodeE at h ⊢
 by_cases h1 : n ≥ 64
 ·rw [v_big h1, if_pos (.inr h1)]
 rw [if_neg (by omega)] at h ⊢
 cases h2 : shapeX l != 0 with
 | true =>
  rw [v_shape (by omega) h2, if_pos (by simpa using h2)]
  show shapeX l = 1
  have : shapeX l ≠ 0 := by simpa using h2
  unfold shapeX at this ⊢
  split
  ·rename_i hk; rw [if_pos hk] at this; unfold whenE at this ⊢; split
   ·rfl
   rename_i hb; rw [if_neg hb] at this; exact absurd rfl this
  rfl
 | false =>
  have h3 : shapeX l = 0 := by simpa using h2
  rw [if_neg (by rw [h3]; decide)] at h ⊢
  rw [v_or (by omega) h2 (by simpa using h)]
theorem visit_ok (hd : d ≤ 6) (h : nodeE l d n = 0) : visitF (f + 1) l n = visitL (visitF f) l.ps (n + 1) := by
 unfold nodeE at h
 by_cases h1 : n ≥ 64
 ·rw [if_pos (.inr h1)] at h; cases h
 rw [if_neg (by omega)] at h
 by_cases h2 : shapeX l = 0
 ·rw [if_neg (by rw [h2]; decide)] at h
  exact v_list (by omega) (by rw [h2]; rfl) (by rw [h]; rfl)
 rw [if_pos h2] at h; cases h
end

set_option maxRecDepth 100000 in
set_option maxHeartbeats 1000000 in
theorem walk_0 (l : Lat) (n d : Int) (hd : d = 7) : FC Tryz.prog 57 [.agg (latL l), i64 d, i64 n] (resW (visitF 0 l n)) := by
 have hE : nodeE l d n = 6 := nd_big (.inl (by omega))
 refine fc_of_awp [6, 7] Tryz.func57 rfl rfl 48 Tryz.ntmps57 (Nat.le_of_ble_eq_true rfl) ?_
 intro E hN
 refine rn12 ?_; refine zP (q_call (node_fc l d n) rfl rfl rfl) ?_; refine rn5 ?_
 refine zP (q_binb (b := true) rfl rfl rfl (by rw [hE]; rfl)) ?_
 refine zN ?_; refine c_true rfl rfl ?_; refine rn7 ?_
 refine awp_weak (st' := ⟨[(7, i64 (nodeE l d n))], [], 1⟩) (weak_scrub' rfl (zz1 trivial) trivial) ?_; refine zR ?_
 rw [hE]; exact resW_err rfl (by decide)
set_option maxRecDepth 100000 in
set_option maxHeartbeats 1000000 in
theorem walk_s (f : Nat) (hf : f + 1 ≤ 6) (ih : ∀ (l : Lat) (n d : Int), d = 7 - (f : Int) → 0 ≤ n → FC Tryz.prog 57 [.agg (latL l), i64 d, i64 n] (resW (visitF f l n))) (l : Lat) (n d : Int) (hd : d = 7 - ((f + 1 : Nat) : Int)) (hn : 0 ≤ n) : FC Tryz.prog 57 [.agg (latL l), i64 d, i64 n] (resW (visitF (f + 1) l n)) := by
 refine fc_of_awp [6, 7] Tryz.func57 rfl rfl 48 Tryz.ntmps57 (Nat.le_of_ble_eq_true rfl) ?_
 intro E hN
 refine rn12 ?_; refine zP (q_call (node_fc l d n) rfl rfl rfl) ?_; refine rn7 ?_
 refine zq ?_ ?_ <;> intro h7
 ·
  have h2 : nodeE l d n ≠ 0 := by simpa using h7
  refine rn7 ?_; refine awp_weak (st' := ⟨[(7, i64 (nodeE l d n))], [], 1⟩) (weak_scrub' rfl (zz1 trivial) trivial) ?_; refine zR ?_
  exact resW_err (visit_err (by omega) h2) h2
 have h2 : nodeE l d n = 0 := by simpa using h7
 have hn64 : n < 64 := by
  unfold nodeE at h2
  by_cases h1 : n ≥ 64
  ·rw [if_pos (.inr h1)] at h2; cases h2
  omega
 have hvo := visit_ok (f := f) (l := l) (n := n) (d := d) (by omega) h2
 refine rn4 ?_; refine zP (q_addi rfl rfl rfl (by omega)) ?_; refine rn8 ?_
 refine awp_loop (fun z : {q : Nat × Int // q.1 ≤ l.ps.length ∧ 0 ≤ q.2 ∧ visitL (visitF f) (l.ps.drop q.1) q.2 = visitL (visitF f) l.ps (n + 1)} => ⟨[(1, i64 d), (3, .ptr 0 0), (9, i64 z.1.2), (10, i64 (z.1.1 : Nat))], [(0, .var 26 (latL l))], 1⟩) (fun z => l.ps.length - z.1.1) (⟨(0, n + 1), Nat.zero_le _, by show 0 ≤ n + 1; omega, by simp⟩) ?_ ?_
 ·
  exact weak_scrub' rfl (zz4 trivial) ⟨rfl, rfl, rfl, trivial⟩
 rintro ⟨⟨k, m⟩, hk, hm, hg⟩
 dsimp only at hk hm hg ⊢
 refine rn9 ?_
 refine zq ?_ ?_ <;> intro h16
 ·
  refine a_lm 25 rfl (fun hlen => ?_)
  have hlt : k < (l.ps).length := by simpa using h16
  obtain ⟨x, hx⟩ := get_lt hlt
  refine rn8 ?_; refine zP (q_elem rfl rfl rfl k rfl _ (lat_get hx) rfl) ?_; refine rn2 ?_; refine zP (q_addi rfl rfl rfl (by omega)) ?_; refine zM ?_
  refine zP (q_call (ih x m _ (by omega) hm) rfl rfl rfl) ?_; refine rn12 ?_
  refine zq ?_ ?_ <;> intro h25
  ·
   have he : (visitF f x m).1 ≠ 0 := by simpa using h25
   refine rn7 ?_; refine awp_weak (st' := ⟨[(7, i64 ((visitF f x m).1))], [], 1⟩) (weak_scrub' rfl (zz1 trivial) trivial) ?_; refine zR ?_
   exact resW_err (by rw [hvo, ← vl_stop hg hx (by simpa using he)]) he
  have he : (visitF f x m).1 = 0 := by simpa using h25
  rw [if_pos he]
  refine rn7 ?_; refine zP (q_addi rfl rfl rfl (by omega)) ?_; refine zS ?_; refine aops_nil ?_
  exact ⟨⟨(k + 1, (visitF f x m).2), hlt, visitF_ge _ _ _ hm, vl_go hg hx (by rw [he]; rfl)⟩, weak_scrub' rfl (zz3 ⟨(cgI (by dsimp only; omega)), rfl, trivial⟩) ⟨rfl, rfl, rfl, trivial⟩, by dsimp only; omega⟩
 have hge : (l.ps).length ≤ k := by simpa using h16
 refine rn6 ?_; refine zQ ?_
 exact resW_ok (by rw [hvo]; exact vl_end hg hge)
theorem walkR_fc : ∀ (f : Nat) (l : Lat) (n d : Int), f ≤ 6 → d = 7 - (f : Int) → 0 ≤ n → FC Tryz.prog 57 [.agg (latL l), i64 d, i64 n] (resW (visitF f l n))
 | 0, l, n, d, _, hd, _ => walk_0 l n d (by simpa using hd)
 | f + 1, l, n, d, hf, hd, hn => walk_s f hf (fun l n d h1 h2 => walkR_fc f l n d (by omega) h1 h2) l n d hd hn
set_option maxRecDepth 100000 in
set_option maxHeartbeats 1000000 in
theorem r9Check_fc (l : Lat) : FC Tryz.prog 20 [.agg (latL l)] (i64 (checkX l)) := by
 refine fc_of_awp [2] Tryz.func20 rfl rfl 11 Tryz.ntmps20 (Nat.le_of_ble_eq_true rfl) ?_
 intro E hN
 refine rn8 ?_; refine zP (q_call (walkR_fc 6 l 0 1 (by decide) rfl (by decide)) rfl rfl rfl) ?_; refine rn10 ?_; refine zQ ?_
 rfl
end Go.Proofs.YtaecccdkjmipeaaGreat
