/-
  Contracts: elements of a lattice.
-/
import Derived.Test.YtaecccdkjmipeaaGreatB6
namespace Go.Proofs.YtaecccdkjmipeaaGreat
open Go.RowKit
mutual
/-- is it an element of this lattice? -/
def elemB : Val → Lat → Bool
 | .mk N nm ps es, l =>
  if l.k == 1 then usedB (.mk N nm ps es) true false false false && (N == 0 || N == 1)
  else if l.k == 2 || l.k == 3 then usedB (.mk N nm ps es) true false false false && decide (l.lo ≤ N) && decide (N ≤ l.hi)
  else if l.k == 4 then usedB (.mk N nm ps es) false true false false && allowedB l.nm nm
  else if l.k == 10 then usedB (.mk N nm ps es) false true false false && allowedB l.nm nm && closedB l.rs nm
  else if l.k == 8 then (if N == 0 || N == 2 then usedB (.mk N nm ps es) true false false false else if N == 1 then usedB (.mk N nm ps es) true true false false && (nm.length : Int) == 1 && allowedB l.nm nm else false)
  else if l.k == 9 then usedB (.mk N nm ps es) false false false true && regB es
  else if l.k == 5 then usedB (.mk N nm ps es) false true true false && ((nm.length : Int) == ps.length) && allowedB l.nm nm && (match l.ps with | a :: _ => elemA ps a | [] => false)
  else usedB (.mk N nm ps es) false false true false && ((ps.length : Int) == l.ps.length) && elemZ ps l.ps
def elemA : List Val → Lat → Bool
 | [], _ => true
 | p :: r, a => (elemB p a && !eqV p (bottomV a)) && elemA r a
def elemZ : List Val → List Lat → Bool
 | [], _ => true
 | p :: r, q :: s => elemB p q && elemZ r s
 | _ :: _, [] => false
end
def elemP (a : Lat) (p : Val) : Bool := elemB p a && !eqV p (bottomV a)
theorem elemA_all (a : Lat) : ∀ l : List Val, elemA l a = l.all (elemP a)
 | [] => by simp [elemA]
 | p :: r => by rw [elemA, List.all_cons, elemA_all a r]; rfl
theorem elemB_eq (v : Val) (l : Lat) : elemB v l =
  if l.k == 1 then usedB v true false false false && (v.N == 0 || v.N == 1)
  else if l.k == 2 || l.k == 3 then usedB v true false false false && decide (l.lo ≤ v.N) && decide (v.N ≤ l.hi)
  else if l.k == 4 then usedB v false true false false && allowedB l.nm v.nm
  else if l.k == 10 then usedB v false true false false && allowedB l.nm v.nm && closedB l.rs v.nm
  else if l.k == 8 then (if v.N == 0 || v.N == 2 then usedB v true false false false else if v.N == 1 then usedB v true true false false && (v.nm.length : Int) == 1 && allowedB l.nm v.nm else false)
  else if l.k == 9 then usedB v false false false true && regB v.es
  else if l.k == 5 then usedB v false true true false && ((v.nm.length : Int) == v.ps.length) && allowedB l.nm v.nm && (match l.ps with | a :: _ => elemA v.ps a | [] => false)
  else usedB v false false true false && ((v.ps.length : Int) == l.ps.length) && elemZ v.ps l.ps := by
 cases v with
 | mk N nm ps es => rw [elemB]; rfl
section
variable {vs : List Val} {ls : List Lat} {k : Nat} {x : Val} {q : Lat} {b : Bool}
theorem ez_go (hg : elemZ (vs.drop k) (ls.drop k) = b) (hx : vs[k]? = some x) (hq : ls[k]? = some q) : b = (elemB x q && elemZ (vs.drop (k + 1)) (ls.drop (k + 1))) := by
 rw [← hg, drop_get hx, drop_get hq, elemZ]
theorem ez_end (hg : elemZ (vs.drop k) (ls.drop k) = b) (h : vs.length ≤ k) : b = true := by
 rw [← hg, List.drop_of_length_le h, elemZ]
end
theorem shape_5 {l : Lat} (h : shapeX l = 0) (hk : l.k = 5) : ∃ a r, l.ps = a :: r := by
 unfold shapeX at h
 rw [if_pos (by rw [hk]; decide)] at h
 have hb : badB l = false := by
  cases hb : badB l
  ·rfl
  rw [hb] at h; simp [whenE] at h
 cases hp : l.ps with
 | cons a r => exact ⟨a, r, rfl⟩
 | nil => simp [badB, partsN, hk, hp] at hb
set_option maxRecDepth 100000 in
set_option maxHeartbeats 1000000 in
theorem elem_s (v : Val) (l : Lat) (hO : OkL l) (ih : ∀ x ∈ v.ps, ∀ a, OkL a → FC Tryz.prog 191 [.agg (latL a), .agg (valL x)] (bl (elemB x a))) : FC Tryz.prog 191 [.agg (latL l), .agg (valL v)] (bl (elemB v l)) := by
 refine fc_of_awp [4] Tryz.func191 rfl rfl 183 Tryz.ntmps191 (Nat.le_of_ble_eq_true rfl) ?_
 intro E hN
 refine rn18 ?_
 refine zq ?_ ?_ <;> intro h7
 ·
  refine rn3 ?_; refine zP (q_call (used_fc _ _ _ _ _) rfl rfl rfl) ?_; refine zM ?_
  refine zc 15 ?_ ?_ <;> intro h9
  ·
   refine uF (w11 h9) ?_; refine uL (w11 h9) ?_; refine uP (w11 h9) (q_bin rfl rfl rfl) ?_; refine uM (w11 h9) ?_
   refine zc 19 ?_ ?_ <;> intro h12
   ·
    iterate 3 refine uK (w10 h12) ?_
    refine uP (w11 h9) (q_pick1 rfl rfl h12 rfl) ?_; refine zh1 h9 ?_; refine zS ?_; refine zQ ?_
    exact retB (by rw [elemB_eq]; simp_all <;> (intros; omega))
   refine uF (w00 h12) ?_; refine uL (w00 h12) ?_; refine uP (w00 h12) (q_bin rfl rfl rfl) ?_; refine uP (w11 h9) (q_pick0 rfl rfl h12 rfl) ?_
   refine zh1 h9 ?_; refine zS ?_; refine zQ ?_
   exact retB (by rw [elemB_eq]; simp_all <;> (intros; omega))
  iterate 4 refine uK (w01 h9) ?_
  refine rn3 ?_; refine uK (w01 h9) ?_; refine zh0 h9 ?_; refine zS ?_; refine zQ ?_
  exact retB (by rw [elemB_eq]; simp_all <;> (intros; omega))
 refine rn6 ?_
 refine zq ?_ ?_ <;> intro h16
 ·
  refine zW ?_; refine c_true rfl h16 ?_; refine rn3 ?_; refine zP (q_call (used_fc _ _ _ _ _) rfl rfl rfl) ?_; refine zM ?_
  refine zc 30 ?_ ?_ <;> intro h18
  ·
   refine uF (w11 h18) ?_; refine uL (w11 h18) ?_; refine uF (w11 h18) ?_; refine uL (w11 h18) ?_; refine uP (w11 h18) (q_bin rfl rfl rfl) ?_
   refine zh1 h18 ?_; refine zM ?_
   refine zc 37 ?_ ?_ <;> intro h23
   ·
    refine uF (w11 h23) ?_; refine uL (w11 h23) ?_; refine uF (w11 h23) ?_; refine uL (w11 h23) ?_; refine uP (w11 h23) (q_bin rfl rfl rfl) ?_
    refine zh1 h23 ?_; refine zS ?_; refine zQ ?_
    exact retB (by rw [elemB_eq]; simp_all <;> (intros; omega))
   iterate 5 refine uK (w01 h23) ?_
   refine zh0 h23 ?_; refine zS ?_; refine zQ ?_
   exact retB (by rw [elemB_eq]; simp_all <;> (intros; omega))
  iterate 5 refine uK (w01 h18) ?_
  refine zh0 h18 ?_; refine rn6 ?_; refine zh0 rfl ?_; refine zS ?_; refine zQ ?_
  exact retB (by rw [elemB_eq]; simp_all <;> (intros; omega))
 refine rn4 ?_
 refine zq ?_ ?_ <;> intro h29
 ·
  refine rn3 ?_; refine zP (q_call (used_fc _ _ _ _ _) rfl rfl rfl) ?_; refine zM ?_
  refine zc 30 ?_ ?_ <;> intro h31
  ·
   refine uF (w11 h31) ?_; refine uL (w11 h31) ?_; refine uF (w11 h31) ?_; refine uL (w11 h31) ?_; refine uP (w11 h31) (q_bin rfl rfl rfl) ?_
   refine zh1 h31 ?_; refine zM ?_
   refine zc 37 ?_ ?_ <;> intro h36
   ·
    refine uF (w11 h36) ?_; refine uL (w11 h36) ?_; refine uF (w11 h36) ?_; refine uL (w11 h36) ?_; refine uP (w11 h36) (q_bin rfl rfl rfl) ?_
    refine zh1 h36 ?_; refine zS ?_; refine zQ ?_
    exact retB (by rw [elemB_eq]; simp_all <;> (intros; omega))
   iterate 5 refine uK (w01 h36) ?_
   refine zh0 h36 ?_; refine zS ?_; refine zQ ?_
   exact retB (by rw [elemB_eq]; simp_all <;> (intros; omega))
  iterate 5 refine uK (w01 h31) ?_
  refine zh0 h31 ?_; refine rn6 ?_; refine zh0 rfl ?_; refine zS ?_; refine zQ ?_
  exact retB (by rw [elemB_eq]; simp_all <;> (intros; omega))
 refine rn5 ?_
 refine zq ?_ ?_ <;> intro h42
 ·
  refine rn3 ?_; refine zP (q_call (used_fc _ _ _ _ _) rfl rfl rfl) ?_; refine zM ?_
  refine zc 48 ?_ ?_ <;> intro h44
  ·
   refine uF (w11 h44) ?_; refine uL (w11 h44) ?_; refine uF (w11 h44) ?_; refine uL (w11 h44) ?_
   refine uP (w11 h44) (q_call (allowed_fc _ _) rfl rfl rfl) ?_; refine zh1 h44 ?_; refine zS ?_; refine zQ ?_
   exact retB (by rw [elemB_eq]; simp_all <;> (intros; omega))
  iterate 5 refine uK (w01 h44) ?_
  refine zh0 h44 ?_; refine zS ?_; refine zQ ?_
  exact retB (by rw [elemB_eq]; simp_all <;> (intros; omega))
 refine rn5 ?_
 refine zq ?_ ?_ <;> intro h50
 ·
  refine rn3 ?_; refine zP (q_call (used_fc _ _ _ _ _) rfl rfl rfl) ?_; refine zM ?_
  refine zc 59 ?_ ?_ <;> intro h52
  ·
   refine uF (w11 h52) ?_; refine uL (w11 h52) ?_; refine uF (w11 h52) ?_; refine uL (w11 h52) ?_
   refine uP (w11 h52) (q_call (allowed_fc _ _) rfl rfl rfl) ?_; refine zh1 h52 ?_; refine zM ?_
   refine zc 66 ?_ ?_ <;> intro h57
   ·
    refine uF (w11 h57) ?_; refine uL (w11 h57) ?_; refine uF (w11 h57) ?_; refine uL (w11 h57) ?_
    refine uP (w11 h57) (q_call (closed_fc _ _) rfl rfl rfl) ?_; refine zh1 h57 ?_; refine zS ?_; refine zQ ?_
    exact retB (by rw [elemB_eq]; simp_all <;> (intros; omega))
   iterate 5 refine uK (w01 h57) ?_
   refine zh0 h57 ?_; refine zS ?_; refine zQ ?_
   exact retB (by rw [elemB_eq]; simp_all <;> (intros; omega))
  iterate 5 refine uK (w01 h52) ?_
  refine zh0 h52 ?_; refine rn6 ?_; refine zh0 rfl ?_; refine zS ?_; refine zQ ?_
  exact retB (by rw [elemB_eq]; simp_all <;> (intros; omega))
 refine rn5 ?_
 refine zq ?_ ?_ <;> intro h63
 ·
  refine rn13 ?_
  refine zq ?_ ?_ <;> intro h66
  ·
   refine zW ?_; refine c_true rfl h66 ?_; refine rn3 ?_; refine zP (q_call (used_fc _ _ _ _ _) rfl rfl rfl) ?_; refine zS ?_; refine zQ ?_
   exact retB (by rw [elemB_eq]; simp_all <;> (intros; omega))
  refine rn4 ?_
  refine zq ?_ ?_ <;> intro h69
  ·
   refine rn3 ?_; refine zP (q_call (used_fc _ _ _ _ _) rfl rfl rfl) ?_; refine zS ?_; refine zQ ?_
   exact retB (by rw [elemB_eq]; simp_all <;> (intros; omega))
  refine rn5 ?_
  refine zq ?_ ?_ <;> intro h72
  ·
   refine rn3 ?_; refine zP (q_call (used_fc _ _ _ _ _) rfl rfl rfl) ?_; refine zM ?_
   refine zc 86 ?_ ?_ <;> intro h74
   ·
    refine uF (w11 h74) ?_; refine uL (w11 h74) ?_; refine uE (w11 h74) ?_; refine uP (w11 h74) (q_bin rfl rfl rfl) ?_; refine zh1 h74 ?_; refine zM ?_
    refine zc 92 ?_ ?_ <;> intro h78
    ·
     refine uF (w11 h78) ?_; refine uL (w11 h78) ?_; refine uF (w11 h78) ?_; refine uL (w11 h78) ?_
     refine uP (w11 h78) (q_call (allowed_fc _ _) rfl rfl rfl) ?_; refine zh1 h78 ?_; refine zS ?_; refine zQ ?_
     exact retB (by rw [elemB_eq]; simp_all <;> (intros; omega))
    iterate 5 refine uK (w01 h78) ?_
    refine zh0 h78 ?_; refine zS ?_; refine zQ ?_
    exact retB (by rw [elemB_eq]; simp_all <;> (intros; omega))
   iterate 4 refine uK (w01 h74) ?_
   refine zh0 h74 ?_; refine rn6 ?_; refine zh0 rfl ?_; refine zS ?_; refine zQ ?_
   exact retB (by rw [elemB_eq]; simp_all <;> (intros; omega))
  refine rn4 ?_; refine zQ ?_
  exact retB (by rw [elemB_eq]; simp_all <;> (intros; omega))
 refine rn5 ?_
 refine zq ?_ ?_ <;> intro h84
 ·
  refine rn3 ?_; refine zP (q_call (used_fc _ _ _ _ _) rfl rfl rfl) ?_; refine zM ?_
  refine zc 103 ?_ ?_ <;> intro h86
  ·
   refine uF (w11 h86) ?_; refine uL (w11 h86) ?_; refine uP (w11 h86) (q_call (reg_fc _) rfl rfl rfl) ?_; refine zh1 h86 ?_; refine zS ?_
   refine zQ ?_
   exact retB (by rw [elemB_eq]; simp_all <;> (intros; omega))
  iterate 3 refine uK (w01 h86) ?_
  refine zh0 h86 ?_; refine zS ?_; refine zQ ?_
  exact retB (by rw [elemB_eq]; simp_all <;> (intros; omega))
 refine rn5 ?_
 refine zq ?_ ?_ <;> intro h90
 ·
  refine rn4 ?_; refine zP (q_call (used_fc _ _ _ _ _) rfl rfl rfl) ?_; refine rn2 ?_
  refine zc 113 ?_ ?_ <;> intro h92
  ·
   iterate 7 refine uK (w10 (m0 (n1 h92))) ?_
   refine zh1 (m0 (n1 h92)) ?_; refine rn7 ?_; refine zh1 rfl ?_; refine zN ?_; refine c_true rfl rfl ?_; refine rn3 ?_; refine zQ ?_
   exact retB (by rw [elemB_eq]; simp_all <;> (intros; omega))
  refine uF (w00 (m1 (n0 h92))) ?_; refine uL (w00 (m1 (n0 h92))) ?_; refine uE (w00 (m1 (n0 h92))) ?_; refine uF (w00 (m1 (n0 h92))) ?_
  refine uL (w00 (m1 (n0 h92))) ?_; refine uE (w00 (m1 (n0 h92))) ?_; refine uP (w00 (m1 (n0 h92))) (q_bin rfl rfl rfl) ?_; refine zh0 (m1 (n0 h92)) ?_
  refine zM ?_
  refine zc 122 ?_ ?_ <;> intro h99
  ·
   iterate 6 refine uK (w10 h99) ?_
   refine zh1 h99 ?_; refine zN ?_; refine c_true rfl rfl ?_; refine rn3 ?_; refine zQ ?_
   exact retB (by rw [elemB_eq]; simp_all <;> (intros; omega))
  refine uF (w00 h99) ?_; refine uL (w00 h99) ?_; refine uF (w00 h99) ?_; refine uL (w00 h99) ?_
  refine uP (w00 h99) (q_call (allowed_fc _ _) rfl rfl rfl) ?_; refine uP (w00 h99) (q_not rfl rfl) ?_; refine zh0 h99 ?_; refine zN ?_
  refine zq ?_ ?_ <;> intro h104
  ·
   refine rn3 ?_; refine zQ ?_
   exact retB (by rw [elemB_eq]; simp_all <;> (intros; omega))
  refine rn10 ?_
  obtain ⟨a, r, hps⟩ := shape_5 hO.shape (by simp_all)
  have hOa : OkL a := hO.part a (by rw [hps]; exact List.mem_cons_self)
  have ha : l.ps[0]? = some a := by rw [hps]; rfl
  have hE : elemB v l = v.ps.all (elemP a) := by rw [elemB_eq]; simp_all [elemA_all]
  refine awp_loop (fun x : {k : Nat // k ≤ (v.ps).length ∧ (v.ps.drop k).all (elemP a) = v.ps.all (elemP a)} => ⟨[(2, .ptr 0 0), (3, .ptr 1 0), (131, vals v.ps), (132, i64 v.ps.length), (133, i64 (x.1 : Nat))], [(0, .var 26 (latL l)), (1, .var 30 (valL v))], 2⟩) (fun x => (v.ps).length - x.1) (⟨0, Nat.zero_le _, by simp⟩) ?_ ?_
  ·
   exact weak_scrub' rfl (zz3 ⟨(cgI (by simp)), rfl, (zz1 trivial)⟩) ⟨rfl, rfl, rfl, rfl, rfl, rfl, trivial⟩
  rintro ⟨k, hk, hg⟩
  dsimp only
  refine a_lm 131 rfl (fun hl8 => ?_)
  refine rn5 ?_
  refine zq ?_ ?_ <;> intro h113
  ·
   have hlt : k < (v.ps).length := by simpa using h113
   obtain ⟨x, hx⟩ := get_lt hlt
   refine rn5 ?_; refine zP (q_elem rfl rfl rfl k rfl _ (val_get hx) rfl) ?_; refine rn5 ?_; refine awp_draw 15 (by kernel_rfl) (by kernel_rfl) ?_
   refine rn2 ?_; refine zp (q_elem rfl rfl rfl 0 rfl _ (lat_get ha) rfl) ?_; refine rn2 ?_
   refine zp (q_call (ih x (List.mem_of_getElem? hx) a hOa) rfl rfl rfl) ?_; refine rn2 ?_
   refine zd 144 ?_ ?_ <;> intro h123
   ·
    iterate 7 refine vK (w10 (m0 (n1 h123))) ?_
    change AOps _ _ _ _ _ _; refine zh1 (m0 (n1 h123)) ?_; refine zN ?_; refine c_true rfl rfl ?_; refine rn3 ?_; refine zQ ?_
    exact retB (by rw [hE, all_no hg hx (by simp_all [elemP])])
   refine vP (w00 (m1 (n0 h123))) (q_load rfl rfl rfl rfl rfl) ?_; refine vP (w00 (m1 (n0 h123))) (q_fieldAddr rfl rfl rfl rfl) ?_
   refine vP (w00 (m1 (n0 h123))) (q_load rfl rfl rfl rfl rfl) ?_; refine vP (w00 (m1 (n0 h123))) (q_elem rfl rfl rfl 0 rfl _ (lat_get ha) rfl) ?_
   refine vP (w00 (m1 (n0 h123))) (q_load rfl rfl rfl rfl rfl) ?_; refine vP (w00 (m1 (n0 h123))) (q_call (bottom_fc a hOa) rfl rfl rfl) ?_
   refine vP (w00 (m1 (n0 h123))) (q_call (eqV_fc _ _) rfl rfl rfl) ?_; change AOps _ _ _ _ _ _; refine zh0 (m1 (n0 h123)) ?_; refine zN ?_
   refine zq ?_ ?_ <;> intro h130
   ·
    refine rn3 ?_; refine zQ ?_
    exact retB (by rw [hE, all_no hg hx (by simp_all [elemP])])
   refine rn2 ?_; refine zP (q_addi rfl rfl rfl (by omega)) ?_; refine zM ?_; refine aops_nil ?_
   exact ⟨⟨k + 1, hlt, all_go hg hx (by simp_all [elemP])⟩, weak_scrub' rfl (zz4 ⟨(cgI (by dsimp only; omega)), rfl, trivial⟩) ⟨rfl, rfl, rfl, rfl, rfl, rfl, trivial⟩, by dsimp only; omega⟩
  have hge : (v.ps).length ≤ k := by simpa using h113
  refine rn4 ?_; refine zQ ?_
  exact retB (by rw [hE, all_end hg hge])
 refine rn5 ?_; refine zP (q_call (used_fc _ _ _ _ _) rfl rfl rfl) ?_; refine rn2 ?_
 refine zc 157 ?_ ?_ <;> intro h133
 ·
  iterate 7 refine uK (w10 (m0 (n1 h133))) ?_
  refine zh1 (m0 (n1 h133)) ?_; refine zN ?_; refine c_true rfl rfl ?_; refine rn3 ?_; refine zQ ?_
  exact retB (by rw [elemB_eq]; simp_all <;> (intros; omega))
 refine uF (w00 (m1 (n0 h133))) ?_; refine uL (w00 (m1 (n0 h133))) ?_; refine uE (w00 (m1 (n0 h133))) ?_; refine uF (w00 (m1 (n0 h133))) ?_
 refine uL (w00 (m1 (n0 h133))) ?_; refine uE (w00 (m1 (n0 h133))) ?_; refine uP (w00 (m1 (n0 h133))) (q_bin rfl rfl rfl) ?_
 refine zh0 (m1 (n0 h133)) ?_; refine zN ?_
 refine zq ?_ ?_ <;> intro h140
 ·
  refine rn3 ?_; refine zQ ?_
  exact retB (by rw [elemB_eq]; simp_all <;> (intros; omega))
 refine rn10 ?_
 have hle : v.ps.length = l.ps.length := by simp_all <;> omega
 have hE : elemB v l = elemZ v.ps l.ps := by rw [elemB_eq]; simp_all
 refine awp_loop (fun x : {k : Nat // k ≤ (v.ps).length ∧ elemZ (v.ps.drop k) (l.ps.drop k) = elemZ v.ps l.ps} => ⟨[(2, .ptr 0 0), (3, .ptr 1 0), (167, vals v.ps), (168, i64 v.ps.length), (169, i64 (x.1 : Nat))], [(0, .var 26 (latL l)), (1, .var 30 (valL v))], 2⟩) (fun x => (v.ps).length - x.1) (⟨0, Nat.zero_le _, by simp⟩) ?_ ?_
 ·
  exact weak_scrub' rfl (zz3 ⟨(cgI (by simp)), rfl, (zz1 trivial)⟩) ⟨rfl, rfl, rfl, rfl, rfl, rfl, trivial⟩
 rintro ⟨k, hk, hg⟩
 dsimp only
 refine a_lm 167 rfl (fun hl8 => ?_)
 refine rn5 ?_
 refine zq ?_ ?_ <;> intro h149
 ·
  have hlt : k < (v.ps).length := by simpa using h149
  obtain ⟨x, hx⟩ := get_lt hlt
  obtain ⟨q, hq⟩ := get_lt (show k < l.ps.length by omega)
  have hOq : OkL q := hO.part q (List.mem_of_getElem? hq)
  have hs := ez_go hg hx hq
  refine rn6 ?_; refine zP (q_elem rfl rfl rfl k rfl _ (val_get hx) rfl) ?_; refine rn6 ?_; refine awp_draw 7 (by kernel_rfl) (by kernel_rfl) ?_
  refine rn3 ?_; refine zp (q_elem rfl rfl rfl k rfl _ (lat_get hq) rfl) ?_; refine rn2 ?_
  refine zp (q_call (ih x (List.mem_of_getElem? hx) q hOq) rfl rfl rfl) ?_; change AOps _ _ _ _ _ _; refine rn2 ?_
  refine zq ?_ ?_ <;> intro h159
  ·
   refine rn3 ?_; refine zQ ?_
   exact retB (by rw [hE, hs]; simp_all)
  refine rn2 ?_; refine zP (q_addi rfl rfl rfl (by omega)) ?_; refine zM ?_; refine aops_nil ?_
  exact ⟨⟨k + 1, hlt, by simp_all⟩, weak_scrub' rfl (zz4 ⟨(cgI (by dsimp only; omega)), rfl, trivial⟩) ⟨rfl, rfl, rfl, rfl, rfl, rfl, trivial⟩, by dsimp only; omega⟩
 have hge : (v.ps).length ≤ k := by simpa using h149
 refine rn4 ?_; refine zQ ?_
 exact retB (by rw [hE, ez_end hg hge])
theorem elem_fc (v : Val) (l : Lat) (hO : OkL l) : FC Tryz.prog 191 [.agg (latL l), .agg (valL v)] (bl (elemB v l)) := elem_s v l hO (fun x _ a ha => elem_fc x a ha)
termination_by v
decreasing_by exact Val.sizeOf_ps ‹_›
def validV (l : Lat) (v : Val) : Bool := (checkX l == 0) && elemB v l
set_option maxRecDepth 100000 in
set_option maxHeartbeats 1000000 in
theorem validV_fc (l : Lat) (v : Val) : FC Tryz.prog 178 [.agg (latL l), .agg (valL v)] (bl (validV l v)) := by
 refine fc_of_awp [4] Tryz.func178 rfl rfl 13 Tryz.ntmps178 (Nat.le_of_ble_eq_true rfl) ?_
 intro E hN
 refine rn9 ?_; refine zP (q_call (check_fc l) rfl rfl rfl) ?_; refine rn2 ?_
 refine zc 8 ?_ ?_ <;> intro h7
 ·
  have h1 : checkX l = 0 := by simpa using h7
  refine uL (w11 h7) ?_; refine uL (w11 h7) ?_; refine uP (w11 h7) (q_call (elem_fc v l (check_ok h1)) rfl rfl rfl) ?_; refine zh1 h7 ?_; refine zS ?_
  refine zQ ?_
  exact retB (by simp_all [validV])
 iterate 3 refine uK (w01 h7) ?_
 refine zh0 h7 ?_; refine zS ?_; refine zQ ?_
 exact retB (by simp_all [validV])
end Go.Proofs.YtaecccdkjmipeaaGreat
