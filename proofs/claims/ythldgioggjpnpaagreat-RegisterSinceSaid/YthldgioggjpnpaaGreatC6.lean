/-
  Contracts of the reference: is it an element of a lattice?
-/
import Derived.Test.YthldgioggjpnpaaGreatC5
namespace Go.Proofs.YthldgioggjpnpaaGreat
open Go.RowKit
set_option maxRecDepth 100000 in
set_option maxHeartbeats 1000000 in
theorem relem_s (v : Val) (l : Lat) (hO : OkL l) (ih : ∀ x ∈ v.ps, ∀ a, OkL a → FC Tryz.prog 88 [.agg (latL a), .agg (valL x)] (bl (elemB x a))) : FC Tryz.prog 88 [.agg (latL l), .agg (valL v)] (bl (elemB v l)) := by
 refine fc_of_awp [4] Tryz.func88 rfl rfl 261 Tryz.ntmps88 (Nat.le_of_ble_eq_true rfl) ?_
 intro E hN
 refine zG ?_; refine zX ?_; refine zX ?_; refine zT ?_
 refine c_cutF (⟨[(2, .ptr 0 0), (3, .ptr 1 0)], [(0, .var 46 (latL l)), (1, .var 26 (valL v))], 2⟩) (l.k = 9 ∨ v.es = []) ?_ ?_
 ·
  refine zG ?_; refine zF ?_; refine zL ?_; refine zB ?_; refine zM ?_
  refine zc 11 ?_ ?_ <;> intro h7
  ·
   refine uF (w11 h7) ?_; refine uL (w11 h7) ?_; refine uE (w11 h7) ?_; refine uP (w11 h7) (q_bin rfl rfl rfl) ?_; refine zh1 h7 ?_; refine zN ?_
   refine zq ?_ ?_ <;> intro h11
   ·
    refine zG ?_; refine zS ?_; refine zQ ?_
    exact retB (by rw [elemB_eq]; simp_all [usedB] <;> (intros; omega))
   refine awp_skip ?_
   exact ⟨(by first | (simp_all; done) | (simp_all; omega)), weak_scrub' rfl (zz2 trivial) ⟨rfl, rfl, rfl, rfl, rfl, rfl, trivial⟩⟩
  iterate 4 refine uK (w01 h7) ?_
  refine zh0 h7 ?_; refine zN ?_; refine c_false rfl rfl ?_; refine awp_skip ?_
  exact ⟨(by first | (simp_all; done) | (simp_all; omega)), weak_scrub' rfl (zz2 trivial) ⟨rfl, rfl, rfl, rfl, rfl, rfl, trivial⟩⟩
 intro hes
 refine c_cut (⟨[(2, .ptr 0 0), (3, .ptr 1 0), (5, bl (l.k == 1 || l.k == 2 || l.k == 3 || l.k == 8))], [(0, .var 46 (latL l)), (1, .var 26 (valL v))], 2⟩) ?_ ?_
 ·
  refine awp_region ?_; refine zF ?_; refine zL ?_; refine zB ?_; refine zM ?_
  refine zc 20 ?_ ?_ <;> intro h14
  ·
   iterate 3 refine uK (w10 h14) ?_
   refine zh1 h14 ?_; refine zM ?_
   iterate 3 refine zK ?_
   refine zh1 rfl ?_; refine zM ?_
   iterate 3 refine zK ?_
   refine zh1 rfl ?_; refine zS ?_; refine aops_nil ?_
   exact weak_scrub' rfl (zz2 ⟨(cgB (by simp_all)), rfl, trivial⟩) ⟨rfl, rfl, rfl, rfl, rfl, rfl, trivial⟩
  refine uF (w00 h14) ?_; refine uL (w00 h14) ?_; refine uP (w00 h14) (q_bin rfl rfl rfl) ?_; refine zh0 h14 ?_; refine zM ?_
  refine zc 25 ?_ ?_ <;> intro h17
  ·
   iterate 3 refine uK (w10 h17) ?_
   refine zh1 h17 ?_; refine zM ?_
   iterate 3 refine zK ?_
   refine zh1 rfl ?_; refine zS ?_; refine aops_nil ?_
   exact weak_scrub' rfl (zz2 ⟨(cgB (by simp_all)), rfl, trivial⟩) ⟨rfl, rfl, rfl, rfl, rfl, rfl, trivial⟩
  refine uF (w00 h17) ?_; refine uL (w00 h17) ?_; refine uP (w00 h17) (q_bin rfl rfl rfl) ?_; refine zh0 h17 ?_; refine zM ?_
  refine zc 30 ?_ ?_ <;> intro h20
  ·
   iterate 3 refine uK (w10 h20) ?_
   refine zh1 h20 ?_; refine zS ?_; refine aops_nil ?_
   exact weak_scrub' rfl (zz2 ⟨(cgB (by simp_all)), rfl, trivial⟩) ⟨rfl, rfl, rfl, rfl, rfl, rfl, trivial⟩
  refine uF (w00 h20) ?_; refine uL (w00 h20) ?_; refine uP (w00 h20) (q_bin rfl rfl rfl) ?_; refine zh0 h20 ?_; refine zS ?_; refine aops_nil ?_
  exact weak_scrub' rfl (zz2 ⟨(cgB (by simp_all)), rfl, trivial⟩) ⟨rfl, rfl, rfl, rfl, rfl, rfl, trivial⟩
 refine c_cutF (⟨[(2, .ptr 0 0), (3, .ptr 1 0)], [(0, .var 46 (latL l)), (1, .var 26 (valL v))], 2⟩) ((l.k = 1 ∨ l.k = 2 ∨ l.k = 3 ∨ l.k = 8) ∨ v.N = 0) ?_ ?_
 ·
  refine zG ?_; refine zM ?_; refine zP (q_not rfl rfl) ?_; refine zM ?_
  refine zc 37 ?_ ?_ <;> intro h24
  ·
   refine uF (w11 (m0 (n1 h24))) ?_; refine uL (w11 (m0 (n1 h24))) ?_; refine uP (w11 (m0 (n1 h24))) (q_bin rfl rfl rfl) ?_
   refine zh1 (m0 (n1 h24)) ?_; refine zN ?_
   refine zq ?_ ?_ <;> intro h27
   ·
    refine zG ?_; refine zS ?_; refine zQ ?_
    exact retB (by rw [elemB_eq]; simp_all [usedB] <;> (intros; omega))
   refine awp_skip ?_
   exact ⟨(by first | (simp_all; done) | (simp_all; omega)), weak_scrub' rfl (zz2 trivial) ⟨rfl, rfl, rfl, rfl, rfl, rfl, trivial⟩⟩
  iterate 3 refine uK (w01 (m1 (n0 h24))) ?_
  refine zh0 (m1 (n0 h24)) ?_; refine zN ?_; refine c_false rfl rfl ?_; refine awp_skip ?_
  exact ⟨(by first | (simp_all; done) | (simp_all; omega)), weak_scrub' rfl (zz2 trivial) ⟨rfl, rfl, rfl, rfl, rfl, rfl, trivial⟩⟩
 intro hN0
 refine zH ?_; refine zF ?_; refine zL ?_; refine zN ?_; refine awp_block ?_; refine zG ?_; refine zB ?_; refine zT ?_
 refine zq ?_ ?_ <;> intro h30
 ·
  refine zG ?_; refine zF ?_; refine zL ?_; refine zB ?_; refine zM ?_
  refine zc 49 ?_ ?_ <;> intro h33
  ·
   iterate 3 refine uK (w10 h33) ?_
   refine zh1 h33 ?_; refine zM ?_; refine zF ?_; refine zL ?_; refine zE ?_; refine zB ?_; refine zh1 rfl ?_; refine zM ?_
   refine zc 60 ?_ ?_ <;> intro h37
   ·
    refine uF (w11 h37) ?_; refine uL (w11 h37) ?_; refine uE (w11 h37) ?_; refine uP (w11 h37) (q_bin rfl rfl rfl) ?_; refine zh1 h37 ?_; refine zS ?_
    refine zQ ?_
    exact retB (by rw [elemB_eq]; simp_all [usedB] <;> (intros; omega))
   iterate 4 refine uK (w01 h37) ?_
   refine zh0 h37 ?_; refine zS ?_; refine zQ ?_
   exact retB (by rw [elemB_eq]; simp_all [usedB] <;> (intros; omega))
  refine uF (w00 h33) ?_; refine uL (w00 h33) ?_; refine uP (w00 h33) (q_bin rfl rfl rfl) ?_; refine zh0 h33 ?_; refine zM ?_
  refine zc 54 ?_ ?_ <;> intro h44
  ·
   refine uF (w11 h44) ?_; refine uL (w11 h44) ?_; refine uE (w11 h44) ?_; refine uP (w11 h44) (q_bin rfl rfl rfl) ?_; refine zh1 h44 ?_; refine zM ?_
   refine zc 60 ?_ ?_ <;> intro h48
   ·
    refine uF (w11 h48) ?_; refine uL (w11 h48) ?_; refine uE (w11 h48) ?_; refine uP (w11 h48) (q_bin rfl rfl rfl) ?_; refine zh1 h48 ?_; refine zS ?_
    refine zQ ?_
    exact retB (by rw [elemB_eq]; simp_all [usedB] <;> (intros; omega))
   iterate 4 refine uK (w01 h48) ?_
   refine zh0 h48 ?_; refine zS ?_; refine zQ ?_
   exact retB (by rw [elemB_eq]; simp_all [usedB] <;> (intros; omega))
  iterate 4 refine uK (w01 h44) ?_
  refine zh0 h44 ?_; refine zM ?_
  iterate 4 refine zK ?_
  refine zh0 rfl ?_; refine zS ?_; refine zQ ?_
  exact retB (by rw [elemB_eq]; simp_all [usedB] <;> (intros; omega))
 refine c_cut (⟨[(2, .ptr 0 0), (3, .ptr 1 0), (43, i64 l.k), (66, bl (l.k == 2 || l.k == 3))], [(0, .var 46 (latL l)), (1, .var 26 (valL v))], 2⟩) ?_ ?_
 ·
  refine zG ?_; refine zB ?_; refine zT ?_
  refine zq ?_ ?_ <;> intro h53
  ·
   refine awp_skip ?_
   exact weak_scrub' rfl (zz3 ⟨(cgB (by simp_all)), rfl, trivial⟩) ⟨rfl, rfl, rfl, rfl, rfl, rfl, trivial⟩
  refine awp_region ?_; refine zB ?_; refine zS ?_; refine aops_nil ?_
  exact weak_scrub' rfl (zz3 ⟨(cgB (by simp_all)), rfl, trivial⟩) ⟨rfl, rfl, rfl, rfl, rfl, rfl, trivial⟩
 refine zq ?_ ?_ <;> intro h55
 ·
  refine zG ?_; refine zF ?_; refine zL ?_; refine zF ?_; refine zL ?_; refine zB ?_; refine zM ?_
  refine zc 74 ?_ ?_ <;> intro h60
  ·
   refine uF (w11 h60) ?_; refine uL (w11 h60) ?_; refine uF (w11 h60) ?_; refine uL (w11 h60) ?_; refine uP (w11 h60) (q_bin rfl rfl rfl) ?_
   refine zh1 h60 ?_; refine zM ?_
   refine zc 81 ?_ ?_ <;> intro h65
   ·
    refine uF (w11 h65) ?_; refine uL (w11 h65) ?_; refine uE (w11 h65) ?_; refine uP (w11 h65) (q_bin rfl rfl rfl) ?_; refine zh1 h65 ?_; refine zM ?_
    refine zc 87 ?_ ?_ <;> intro h69
    ·
     refine uF (w11 h69) ?_; refine uL (w11 h69) ?_; refine uE (w11 h69) ?_; refine uP (w11 h69) (q_bin rfl rfl rfl) ?_; refine zh1 h69 ?_
     refine zS ?_; refine zQ ?_
     exact retB (by
      have hk : l.k = 2 ∨ l.k = 3 := by simp_all
      have hk9 : v.es = [] := hes.resolve_left (by omega)
      rw [elemB_eq]
      rcases hk with hk | hk <;> rw [hk] <;> simp_all [usedB] <;> (intros; omega))
    iterate 4 refine uK (w01 h69) ?_
    refine zh0 h69 ?_; refine zS ?_; refine zQ ?_
    exact retB (by
     have hk : l.k = 2 ∨ l.k = 3 := by simp_all
     have hk9 : v.es = [] := hes.resolve_left (by omega)
     rw [elemB_eq]
     rcases hk with hk | hk <;> rw [hk] <;> simp_all [usedB] <;> (intros; omega))
   iterate 4 refine uK (w01 h65) ?_
   refine zh0 h65 ?_; refine zM ?_
   iterate 4 refine zK ?_
   refine zh0 rfl ?_; refine zS ?_; refine zQ ?_
   exact retB (by
    have hk : l.k = 2 ∨ l.k = 3 := by simp_all
    have hk9 : v.es = [] := hes.resolve_left (by omega)
    rw [elemB_eq]
    rcases hk with hk | hk <;> rw [hk] <;> simp_all [usedB] <;> (intros; omega))
  iterate 5 refine uK (w01 h60) ?_
  refine zh0 h60 ?_; refine zM ?_
  iterate 4 refine zK ?_
  refine zh0 rfl ?_; refine zM ?_
  iterate 4 refine zK ?_
  refine zh0 rfl ?_; refine zS ?_; refine zQ ?_
  exact retB (by
   have hk : l.k = 2 ∨ l.k = 3 := by simp_all
   have hk9 : v.es = [] := hes.resolve_left (by omega)
   rw [elemB_eq]
   rcases hk with hk | hk <;> rw [hk] <;> simp_all [usedB] <;> (intros; omega))
 refine zG ?_; refine zB ?_; refine zT ?_
 refine zq ?_ ?_ <;> intro h74
 ·
  refine zG ?_; refine zF ?_; refine zL ?_; refine zE ?_; refine zB ?_; refine zM ?_
  refine zc 99 ?_ ?_ <;> intro h78
  ·
   refine uF (w11 h78) ?_; refine uL (w11 h78) ?_; refine uF (w11 h78) ?_; refine uL (w11 h78) ?_
   refine uP (w11 h78) (q_call (rMembers_fc _ _) rfl rfl rfl) ?_; refine zh1 h78 ?_; refine zS ?_; refine zQ ?_
   exact retB (by rw [elemB_eq]; simp_all [usedB] <;> (intros; omega))
  iterate 5 refine uK (w01 h78) ?_
  refine zh0 h78 ?_; refine zS ?_; refine zQ ?_
  exact retB (by rw [elemB_eq]; simp_all [usedB] <;> (intros; omega))
 refine zG ?_; refine zB ?_; refine zT ?_
 refine zq ?_ ?_ <;> intro h84
 ·
  refine zH ?_; refine zF ?_; refine zL ?_; refine zE ?_; refine zB ?_; refine zN ?_
  refine zq ?_ ?_ <;> intro h88
  ·
   refine zG ?_; refine zS ?_; refine zQ ?_
   exact retB (by rw [elemB_eq]; simp_all [usedB] <;> (intros; omega))
  refine zW ?_; refine zG ?_; refine zF ?_; refine zL ?_; refine zB ?_; refine zM ?_
  refine zc 115 ?_ ?_ <;> intro h91
  ·
   iterate 3 refine uK (w10 h91) ?_
   refine zh1 h91 ?_; refine zM ?_; refine zF ?_; refine zL ?_; refine zE ?_; refine zB ?_; refine zh1 rfl ?_; refine zM ?_
   refine zc 126 ?_ ?_ <;> intro h95
   ·
    iterate 4 refine uK (w10 h95) ?_
    iterate 4 refine zK ?_
    iterate 2 refine uK (w10 h95) ?_
    iterate 5 refine zK ?_
    refine uK (w10 h95) ?_; refine zh1 h95 ?_; refine zS ?_; refine zQ ?_
    exact retB (by rw [elemB_eq]; simp_all [usedB] <;> (intros; omega))
   refine uF (w00 h95) ?_; refine uL (w00 h95) ?_; refine uP (w00 h95) (q_bin rfl rfl rfl) ?_; refine uM (w00 h95) ?_
   refine zc 130 ?_ ?_ <;> intro h98
   ·
    refine uF (w11 h98) ?_; refine uL (w11 h98) ?_; refine uE (w11 h98) ?_; refine uP (w11 h98) (q_bin rfl rfl rfl) ?_
    refine uP (w00 h95) (q_pick1 rfl rfl h98 rfl) ?_; refine uM (w00 h95) ?_
    refine zc 136 ?_ ?_ <;> intro h102
    ·
     refine uF (w11 h102) ?_; refine uL (w11 h102) ?_; refine uF (w11 h102) ?_; refine uL (w11 h102) ?_
     refine uP (w11 h102) (q_call (rMembers_fc _ _) rfl rfl rfl) ?_; refine uP (w00 h95) (q_pick1 rfl rfl h102 rfl) ?_; refine zh0 h95 ?_; refine zS ?_
     refine zQ ?_
     exact retB (by rw [elemB_eq]; simp_all [usedB] <;> (intros; omega))
    iterate 5 refine uK (w01 h102) ?_
    refine uP (w00 h95) (q_pick0 rfl rfl h102 rfl) ?_; refine zh0 h95 ?_; refine zS ?_; refine zQ ?_
    exact retB (by rw [elemB_eq]; simp_all [usedB] <;> (intros; omega))
   iterate 4 refine uK (w01 h98) ?_
   refine uP (w00 h95) (q_pick0 rfl rfl h98 rfl) ?_; refine uM (w00 h95) ?_
   iterate 5 refine zK ?_
   refine uP (w00 h95) (q_pick0 rfl rfl rfl rfl) ?_; refine zh0 h95 ?_; refine zS ?_; refine zQ ?_
   exact retB (by rw [elemB_eq]; simp_all [usedB] <;> (intros; omega))
  refine uF (w00 h91) ?_; refine uL (w00 h91) ?_; refine uP (w00 h91) (q_bin rfl rfl rfl) ?_; refine zh0 h91 ?_; refine zM ?_
  refine zc 120 ?_ ?_ <;> intro h110
  ·
   refine uF (w11 h110) ?_; refine uL (w11 h110) ?_; refine uE (w11 h110) ?_; refine uP (w11 h110) (q_bin rfl rfl rfl) ?_; refine zh1 h110 ?_
   refine zM ?_
   refine zc 126 ?_ ?_ <;> intro h114
   ·
    iterate 4 refine uK (w10 h114) ?_
    iterate 4 refine zK ?_
    iterate 2 refine uK (w10 h114) ?_
    iterate 5 refine zK ?_
    refine uK (w10 h114) ?_; refine zh1 h114 ?_; refine zS ?_; refine zQ ?_
    exact retB (by rw [elemB_eq]; simp_all [usedB] <;> (intros; omega))
   refine uF (w00 h114) ?_; refine uL (w00 h114) ?_; refine uP (w00 h114) (q_bin rfl rfl rfl) ?_; refine uM (w00 h114) ?_
   refine zc 130 ?_ ?_ <;> intro h117
   ·
    refine uF (w11 h117) ?_; refine uL (w11 h117) ?_; refine uE (w11 h117) ?_; refine uP (w11 h117) (q_bin rfl rfl rfl) ?_
    refine uP (w00 h114) (q_pick1 rfl rfl h117 rfl) ?_; refine uM (w00 h114) ?_
    refine zc 136 ?_ ?_ <;> intro h121
    ·
     refine uF (w11 h121) ?_; refine uL (w11 h121) ?_; refine uF (w11 h121) ?_; refine uL (w11 h121) ?_
     refine uP (w11 h121) (q_call (rMembers_fc _ _) rfl rfl rfl) ?_; refine uP (w00 h114) (q_pick1 rfl rfl h121 rfl) ?_; refine zh0 h114 ?_
     refine zS ?_; refine zQ ?_
     exact retB (by rw [elemB_eq]; simp_all [usedB] <;> (intros; omega))
    iterate 5 refine uK (w01 h121) ?_
    refine uP (w00 h114) (q_pick0 rfl rfl h121 rfl) ?_; refine zh0 h114 ?_; refine zS ?_; refine zQ ?_
    exact retB (by rw [elemB_eq]; simp_all [usedB] <;> (intros; omega))
   iterate 4 refine uK (w01 h117) ?_
   refine uP (w00 h114) (q_pick0 rfl rfl h117 rfl) ?_; refine uM (w00 h114) ?_
   iterate 5 refine zK ?_
   refine uP (w00 h114) (q_pick0 rfl rfl rfl rfl) ?_; refine zh0 h114 ?_; refine zS ?_; refine zQ ?_
   exact retB (by rw [elemB_eq]; simp_all [usedB] <;> (intros; omega))
  iterate 4 refine uK (w01 h110) ?_
  refine zh0 h110 ?_; refine zM ?_; refine zF ?_; refine zL ?_; refine zB ?_; refine zM ?_
  refine zc 130 ?_ ?_ <;> intro h129
  ·
   refine uF (w11 h129) ?_; refine uL (w11 h129) ?_; refine uE (w11 h129) ?_; refine uP (w11 h129) (q_bin rfl rfl rfl) ?_; refine zh1 h129 ?_
   refine zM ?_
   refine zc 136 ?_ ?_ <;> intro h133
   ·
    refine uF (w11 h133) ?_; refine uL (w11 h133) ?_; refine uF (w11 h133) ?_; refine uL (w11 h133) ?_
    refine uP (w11 h133) (q_call (rMembers_fc _ _) rfl rfl rfl) ?_; refine zh1 h133 ?_; refine zh0 rfl ?_; refine zS ?_; refine zQ ?_
    exact retB (by rw [elemB_eq]; simp_all [usedB] <;> (intros; omega))
   iterate 5 refine uK (w01 h133) ?_
   refine zh0 h133 ?_; refine zh0 rfl ?_; refine zS ?_; refine zQ ?_
   exact retB (by rw [elemB_eq]; simp_all [usedB] <;> (intros; omega))
  iterate 4 refine uK (w01 h129) ?_
  refine zh0 h129 ?_; refine zM ?_
  iterate 5 refine zK ?_
  refine zh0 rfl ?_; refine zh0 rfl ?_; refine zS ?_; refine zQ ?_
  exact retB (by rw [elemB_eq]; simp_all [usedB] <;> (intros; omega))
 refine zG ?_; refine zB ?_; refine zT ?_
 refine zq ?_ ?_ <;> intro h139
 ·
  refine zG ?_; refine zF ?_; refine zL ?_; refine zE ?_; refine zB ?_; refine zM ?_
  refine zc 150 ?_ ?_ <;> intro h143
  ·
   refine uF (w11 h143) ?_; refine uL (w11 h143) ?_; refine uE (w11 h143) ?_; refine uP (w11 h143) (q_bin rfl rfl rfl) ?_; refine zh1 h143 ?_
   refine zM ?_
   refine zc 156 ?_ ?_ <;> intro h147
   ·
    refine uF (w11 h147) ?_; refine uL (w11 h147) ?_; refine uP (w11 h147) (q_call (rEntries_fc _) rfl rfl rfl) ?_; refine zh1 h147 ?_; refine zS ?_
    refine zQ ?_
    exact retB (by rw [elemB_eq]; simp_all [usedB] <;> (intros; omega))
   iterate 3 refine uK (w01 h147) ?_
   refine zh0 h147 ?_; refine zS ?_; refine zQ ?_
   exact retB (by rw [elemB_eq]; simp_all [usedB] <;> (intros; omega))
  iterate 4 refine uK (w01 h143) ?_
  refine zh0 h143 ?_; refine zM ?_
  iterate 3 refine zK ?_
  refine zh0 rfl ?_; refine zS ?_; refine zQ ?_
  exact retB (by rw [elemB_eq]; simp_all [usedB] <;> (intros; omega))
 refine zG ?_; refine zB ?_; refine zT ?_
 refine zq ?_ ?_ <;> intro h151
 ·
  refine zG ?_; refine zF ?_; refine zL ?_; refine zE ?_; refine zB ?_; refine zM ?_
  refine zc 167 ?_ ?_ <;> intro h155
  ·
   refine uF (w11 h155) ?_; refine uL (w11 h155) ?_; refine uF (w11 h155) ?_; refine uL (w11 h155) ?_
   refine uP (w11 h155) (q_call (rMembers_fc _ _) rfl rfl rfl) ?_; refine zh1 h155 ?_; refine zM ?_
   refine zc 174 ?_ ?_ <;> intro h160
   ·
    refine uF (w11 h160) ?_; refine uL (w11 h160) ?_; refine uF (w11 h160) ?_; refine uL (w11 h160) ?_
    refine uP (w11 h160) (q_call (rClosed_fc _ _ (if_len hO)) rfl rfl rfl) ?_; refine zh1 h160 ?_; refine zS ?_; refine zQ ?_
    exact retB (by rw [elemB_eq]; simp_all [usedB] <;> (intros; omega))
   iterate 5 refine uK (w01 h160) ?_
   refine zh0 h160 ?_; refine zS ?_; refine zQ ?_
   exact retB (by rw [elemB_eq]; simp_all [usedB] <;> (intros; omega))
  iterate 5 refine uK (w01 h155) ?_
  refine zh0 h155 ?_; refine zM ?_
  iterate 5 refine zK ?_
  refine zh0 rfl ?_; refine zS ?_; refine zQ ?_
  exact retB (by rw [elemB_eq]; simp_all [usedB] <;> (intros; omega))
 refine zG ?_; refine zB ?_; refine zT ?_
 refine zq ?_ ?_ <;> intro h166
 ·
  refine zH ?_; refine zF ?_; refine zL ?_; refine zE ?_; refine zF ?_; refine zL ?_; refine zE ?_; refine zB ?_; refine zM ?_
  refine zc 190 ?_ ?_ <;> intro h173
  ·
   iterate 6 refine uK (w10 h173) ?_
   refine zh1 h173 ?_; refine zN ?_; refine c_true rfl rfl ?_; refine zG ?_; refine zS ?_; refine zQ ?_
   exact retB (by rw [elemB_eq]; simp_all [usedB] <;> (intros; omega))
  refine uF (w00 h173) ?_; refine uL (w00 h173) ?_; refine uF (w00 h173) ?_; refine uL (w00 h173) ?_
  refine uP (w00 h173) (q_call (rMembers_fc _ _) rfl rfl rfl) ?_; refine uP (w00 h173) (q_not rfl rfl) ?_; refine zh0 h173 ?_; refine zN ?_
  refine zq ?_ ?_ <;> intro h178
  ·
   refine zG ?_; refine zS ?_; refine zQ ?_
   exact retB (by rw [elemB_eq]; simp_all [usedB] <;> (intros; omega))
  refine zW ?_; refine zH ?_; refine zT ?_; refine awp_block ?_
  have hk5 : l.k = 5 := by simp_all
  obtain ⟨a, r, hps⟩ := shape_5 hO.shape hk5
  have hOa : OkL a := hO.part a (by rw [hps]; exact List.mem_cons_self)
  have ha : l.ps[0]? = some a := by rw [hps]; rfl
  have hE : elemB v l = v.ps.all (elemP a) := by rw [elemB_eq, hk5, hps]; simp_all [elemA_all, usedB]
  refine awp_loop (fun x : {k : Nat // k ≤ (v.ps).length ∧ (v.ps.drop k).all (elemP a) = v.ps.all (elemP a)} => ⟨[(2, .ptr 0 0), (3, .ptr 1 0), (6, i64 (x.1 : Nat))], [(0, .var 46 (latL l)), (1, .var 26 (valL v))], 2⟩) (fun x => (v.ps).length - x.1) (⟨0, Nat.zero_le _, by simp⟩) ?_ ?_
  ·
   exact weak_scrub' rfl (zz3 trivial) ⟨rfl, rfl, rfl, rfl, rfl, rfl, trivial⟩
  rintro ⟨k, hk, hg⟩
  dsimp only
  refine zH ?_; refine zM ?_; refine zF ?_; refine zL ?_; refine zE ?_; refine zB ?_; refine zN ?_
  refine zq ?_ ?_ <;> intro h185
  ·
   refine a_lm 200 rfl (fun hl8 => ?_)
   have hlt : k < (v.ps).length := by simpa using h185
   obtain ⟨x, hx⟩ := get_lt hlt
   refine zW ?_; refine awp_seq ?_; refine awp_block ?_; refine awp_seq ?_; refine awp_draw 23 (by kernel_rfl) (by kernel_rfl) ?_; refine zf ?_
   refine zl ?_; refine zp (q_elem rfl rfl rfl 0 rfl _ (lat_get ha) rfl) ?_; refine zl ?_; refine zf ?_; refine zl ?_; refine zm ?_
   refine zp (q_elem rfl rfl rfl k rfl _ (val_get hx) rfl) ?_; refine zl ?_; refine zp (q_call (ih x (List.mem_of_getElem? hx) a hOa) rfl rfl rfl) ?_
   refine zp (q_not rfl rfl) ?_; refine zm ?_
   refine zd 216 ?_ ?_ <;> intro h194
   ·
    iterate 11 refine vK (w10 (m0 (n1 h194))) ?_
    change AOps _ _ _ _ _ _; refine zh1 (m0 (n1 h194)) ?_; refine zN ?_; refine c_true rfl rfl ?_; refine zG ?_; refine zS ?_; refine zQ ?_
    exact retB (by rw [hE, all_no hg hx (by simp_all [elemP])])
   refine vP (w00 (m1 (n0 h194))) (q_fieldAddr rfl rfl rfl rfl) ?_; refine vP (w00 (m1 (n0 h194))) (q_load rfl rfl rfl rfl rfl) ?_
   refine vP (w00 (m1 (n0 h194))) (q_move rfl rfl) ?_; refine vP (w00 (m1 (n0 h194))) (q_elem rfl rfl rfl k rfl _ (val_get hx) rfl) ?_
   refine vP (w00 (m1 (n0 h194))) (q_load rfl rfl rfl rfl rfl) ?_; refine vP (w00 (m1 (n0 h194))) (q_fieldAddr rfl rfl rfl rfl) ?_
   refine vP (w00 (m1 (n0 h194))) (q_load rfl rfl rfl rfl rfl) ?_; refine vP (w00 (m1 (n0 h194))) (q_elem rfl rfl rfl 0 rfl _ (lat_get ha) rfl) ?_
   refine vP (w00 (m1 (n0 h194))) (q_load rfl rfl rfl rfl rfl) ?_; refine vP (w00 (m1 (n0 h194))) (q_call (rleast_fc a hOa) rfl rfl rfl) ?_
   refine vP (w00 (m1 (n0 h194))) (q_call (rEqual_fc _ _) rfl rfl rfl) ?_; change AOps _ _ _ _ _ _; refine zh0 (m1 (n0 h194)) ?_; refine zN ?_
   refine zq ?_ ?_ <;> intro h204
   ·
    refine zG ?_; refine zS ?_; refine zQ ?_
    exact retB (by rw [hE, all_no hg hx (by simp_all [elemP])])
   refine awp_skip ?_; change AWP _ _ _ _  _; refine awp_region ?_; refine zM ?_; refine zP (q_addi rfl rfl rfl (by omega)) ?_; refine zS ?_
   refine aops_nil ?_
   exact ⟨⟨k + 1, hlt, all_go hg hx (by simp_all [elemP])⟩, weak_scrub' rfl (zz2 ⟨(cgI (by dsimp only; omega)), rfl, trivial⟩) ⟨rfl, rfl, rfl, rfl, rfl, rfl, trivial⟩, by dsimp only; omega⟩
  have hge : (v.ps).length ≤ k := by simpa using h185
  refine awp_exit ?_; change AWP _ _ _ _  _; refine zG ?_; refine zS ?_; refine zQ ?_
  exact retB (by rw [hE, all_end hg hge])
 refine awp_skip ?_; change AWP _ _ _ _  _; refine zH ?_; refine zF ?_; refine zL ?_; refine zE ?_; refine zB ?_; refine zM ?_
 refine zc 233 ?_ ?_ <;> intro h209
 ·
  iterate 7 refine uK (w10 h209) ?_
  refine zh1 h209 ?_; refine zN ?_; refine c_true rfl rfl ?_; refine zG ?_; refine zS ?_; refine zQ ?_
  exact retB (by rw [elemB_eq]; simp_all [usedB] <;> (intros; omega))
 refine uF (w00 h209) ?_; refine uL (w00 h209) ?_; refine uE (w00 h209) ?_; refine uF (w00 h209) ?_; refine uL (w00 h209) ?_; refine uE (w00 h209) ?_
 refine uP (w00 h209) (q_bin rfl rfl rfl) ?_; refine zh0 h209 ?_; refine zN ?_
 refine zq ?_ ?_ <;> intro h216
 ·
  refine zG ?_; refine zS ?_; refine zQ ?_
  exact retB (by rw [elemB_eq]; simp_all [usedB] <;> (intros; omega))
 refine zW ?_; refine zH ?_; refine zT ?_; refine awp_block ?_
 have hle : v.ps.length = l.ps.length := by simp_all <;> omega
 have hE : elemB v l = elemZ v.ps l.ps := by rw [elemB_eq]; simp_all [usedB]
 refine awp_loop (fun x : {k : Nat // k ≤ (v.ps).length ∧ elemZ (v.ps.drop k) (l.ps.drop k) = elemZ v.ps l.ps} => ⟨[(2, .ptr 0 0), (3, .ptr 1 0), (7, i64 (x.1 : Nat))], [(0, .var 46 (latL l)), (1, .var 26 (valL v))], 2⟩) (fun x => (v.ps).length - x.1) (⟨0, Nat.zero_le _, by simp⟩) ?_ ?_
 ·
  exact weak_scrub' rfl (zz3 trivial) ⟨rfl, rfl, rfl, rfl, rfl, rfl, trivial⟩
 rintro ⟨k, hk, hg⟩
 dsimp only
 refine zH ?_; refine zM ?_; refine zF ?_; refine zL ?_; refine zE ?_; refine zB ?_; refine zN ?_
 refine zq ?_ ?_ <;> intro h223
 ·
  refine a_lm 244 rfl (fun hl8 => ?_)
  have hlt : k < (v.ps).length := by simpa using h223
  obtain ⟨x, hx⟩ := get_lt hlt
  obtain ⟨q, hq⟩ := get_lt (show k < l.ps.length by omega)
  have hOq : OkL q := hO.part q (List.mem_of_getElem? hq)
  have hs := ez_go hg hx hq
  refine zW ?_; refine awp_seq ?_; refine awp_block ?_; refine awp_seq ?_; refine awp_draw 11 (by kernel_rfl) (by kernel_rfl) ?_; refine zf ?_
  refine zl ?_; refine zm ?_; refine zp (q_elem rfl rfl rfl k rfl _ (lat_get hq) rfl) ?_; refine zl ?_; refine zf ?_; refine zl ?_; refine zm ?_
  refine zp (q_elem rfl rfl rfl k rfl _ (val_get hx) rfl) ?_; refine zl ?_; refine zp (q_call (ih x (List.mem_of_getElem? hx) q hOq) rfl rfl rfl) ?_
  change AOps _ _ _ _ _ _; refine zP (q_not rfl rfl) ?_; refine zN ?_
  refine zq ?_ ?_ <;> intro h232
  ·
   refine zG ?_; refine zS ?_; refine zQ ?_
   exact retB (by rw [hE, hs]; simp_all)
  refine awp_skip ?_; change AWP _ _ _ _  _; refine awp_region ?_; refine zM ?_; refine zP (q_addi rfl rfl rfl (by omega)) ?_; refine zS ?_
  refine aops_nil ?_
  exact ⟨⟨k + 1, hlt, by simp_all⟩, weak_scrub' rfl (zz2 ⟨(cgI (by dsimp only; omega)), rfl, trivial⟩) ⟨rfl, rfl, rfl, rfl, rfl, rfl, trivial⟩, by dsimp only; omega⟩
 have hge : (v.ps).length ≤ k := by simpa using h223
 refine awp_exit ?_; change AWP _ _ _ _  _; refine zG ?_; refine zS ?_; refine zQ ?_
 exact retB (by rw [hE, ez_end hg hge])
theorem relem_fc (v : Val) (l : Lat) (hO : OkL l) : FC Tryz.prog 88 [.agg (latL l), .agg (valL v)] (bl (elemB v l)) := relem_s v l hO (fun x _ a ha => relem_fc x a ha)
termination_by v
decreasing_by exact Val.sizeOf_ps ‹_›
set_option maxRecDepth 100000 in
set_option maxHeartbeats 1000000 in
theorem rValidV_fc (l : Lat) (v : Val) : FC Tryz.prog 57 [.agg (latL l), .agg (valL v)] (bl (validV l v)) := by
 refine fc_of_awp [4] Tryz.func57 rfl rfl 13 Tryz.ntmps57 (Nat.le_of_ble_eq_true rfl) ?_
 intro E hN
 refine zG ?_; refine zX ?_; refine zX ?_; refine zS ?_; refine zA ?_; refine zL ?_; refine zP (q_call (r9Check_fc l) rfl rfl rfl) ?_; refine zB ?_
 refine zM ?_
 refine zc 8 ?_ ?_ <;> intro h7
 ·
  have h1 : checkX l = 0 := by simpa using h7
  refine uL (w11 h7) ?_; refine uL (w11 h7) ?_; refine uP (w11 h7) (q_call (relem_fc v l (check_ok h1)) rfl rfl rfl) ?_; refine zh1 h7 ?_; refine zS ?_
  refine zQ ?_
  exact retB (by simp_all [validV])
 iterate 3 refine uK (w01 h7) ?_
 refine zh0 h7 ?_; refine zS ?_; refine zQ ?_
 exact retB (by simp_all [validV])
end Go.Proofs.YthldgioggjpnpaaGreat
