/-
  Contracts of the reference: chains; the law JoinLists.
  Contracts: the law JoinLists.
-/
import Derived.Test.YtciojbjoijedjaaGreatC12
import Derived.Test.YtciojbjoijedjaaGreatC11
namespace Go.Proofs.YtciojbjoijedjaaGreat
open Go.RowKit
def PairC (l : Lat) (vs : List Val) (k : Nat) : Prop := ∀ (i j : Nat) (x y : Val), j < i → i < k → vs[i]? = some x → vs[j]? = some y → cmpJ l x y = true
theorem pair_tot {l : Lat} {vs : List Val} (hO : OkL l) (hc : checkX l = 0) (hel : ∀ v ∈ vs, elemB v l = true) (h : PairC l vs vs.length) : ∀ (i j : Nat), i < vs.length → j < vs.length → leqB l (getV vs i) (getV vs j) = true ∨ leqB l (getV vs j) (getV vs i) = true := by
 intro i j hi hj
 obtain ⟨x, hx⟩ := get_lt hi
 obtain ⟨y, hy⟩ := get_lt hj
 have ex := hel x (List.mem_of_getElem? hx)
 have ey := hel y (List.mem_of_getElem? hy)
 rw [getV_of hx, getV_of hy]
 rcases Nat.lt_trichotomy i j with e | e | e
 ·have := h j i y x e hj hy hx
  rw [cmpJ_on hc ey ex, Bool.or_eq_true] at this
  exact this.symm
 ·subst e; rw [hx] at hy; cases hy; exact .inl (leq_refl l hO x ex)
 have := h i j x y e hi hx hy
 rw [cmpJ_on hc ex ey, Bool.or_eq_true] at this
 exact this
theorem chain_some {l : Lat} {vs : List Val} (hO : OkL l) (hc : checkX l = 0) (hel : ∀ v ∈ vs, elemB v l = true) (h : PairC l vs vs.length) : ∃ out, chainN l vs vs.length = some out :=
 chain_all hO hel (fun i j x y hji hx hy => by
  have := h i j x y hji (List.getElem?_eq_some_iff.1 hx).1 hx hy
  rwa [cmpJ_on hc (hel x (List.mem_of_getElem? hx)) (hel y (List.mem_of_getElem? hy))] at this) vs.length (Nat.le_refl _)
theorem chain_fail {l : Lat} {vs : List Val} (hO : OkL l) (hc : checkX l = 0) (hel : ∀ v ∈ vs, elemB v l = true) {i j : Nat} {x y : Val} (hx : vs[i]? = some x) (hy : vs[j]? = some y) (h : cmpJ l x y = false) : chainN l vs vs.length = none := by
 cases hn : chainN l vs vs.length with
 | none => rfl
 | some out =>
  exfalso
  obtain ⟨m, nd, pw⟩ := chain_good hO hel _ out (Nat.le_refl _) hn
  have ex := hel x (List.mem_of_getElem? hx)
  have ey := hel y (List.mem_of_getElem? hy)
  rw [cmpJ_on hc ex ey, Bool.or_eq_false_iff] at h
  have hi := (List.getElem?_eq_some_iff.1 hx).1
  have hj := (List.getElem?_eq_some_iff.1 hy).1
  obtain ⟨a, ha⟩ := List.mem_iff_getElem?.1 ((m (i : Int)).2 ⟨by omega, by omega⟩)
  obtain ⟨b, hb⟩ := List.mem_iff_getElem?.1 ((m (j : Int)).2 ⟨by omega, by omega⟩)
  obtain ⟨a1, a2⟩ := List.getElem?_eq_some_iff.1 ha
  obtain ⟨b1, b2⟩ := List.getElem?_eq_some_iff.1 hb
  rcases Nat.lt_trichotomy a b with e | e | e
  ·have := List.pairwise_iff_getElem.1 pw a b a1 b1 e
   rw [a2, b2, getV_of hx, getV_of hy, h.1] at this; cases this
  ·subst e
   rw [a2] at b2
   obtain rfl : i = j := by omega
   rw [hx] at hy; cases hy
   rw [leq_refl l hO x ex] at h; cases h.1
  have := List.pairwise_iff_getElem.1 pw b a b1 a1 e
  rw [a2, b2, getV_of hx, getV_of hy, h.2] at this; cases this
theorem next_yes {l : Lat} {vs : List Val} {out : List Int} {i : Nat} {nx : Int} {c : Bool} (h : NextC l vs out (i + 1) (if c then (i : Int) else nx)) (hc : c = true) : NextC l vs out (i + 1) i := by rwa [if_pos hc] at h
theorem next_no {l : Lat} {vs : List Val} {out : List Int} {i : Nat} {nx : Int} {c : Bool} (h : NextC l vs out (i + 1) (if c then (i : Int) else nx)) (hc : c = false) : NextC l vs out (i + 1) nx := by rwa [if_neg (by rw [hc]; decide)] at h
set_option maxRecDepth 100000 in
set_option maxHeartbeats 1000000 in
theorem rChain_fc (l : Lat) (vs : List Val) (hS : ∀ v ∈ vs, SmV 1000000 v) (hl : vs.length ≤ 1000000) : FC Tryz.prog 33 [.agg (latL l), vals vs] (.tup [ivs (chainV l vs).1, bl (chainV l vs).2]) := by
 refine fc_of_awp [4, 5] Tryz.func33 rfl rfl 87 Tryz.ntmps33 (Nat.le_of_ble_eq_true rfl) ?_
 intro E hN
 refine zG ?_
 refine zX ?_
 refine zS ?_
 refine zT ?_
 refine zH ?_
 refine zL ?_
 refine zM ?_
 refine zP (q_call (rcheck_fc l vs) rfl rfl rfl) ?_
 refine zB ?_
 refine zN ?_
 refine c_cond rfl (fun h6 => ?_) (fun h6 => ?_)
 ·
  have h1 : ¬ checkJ l vs = 0 := by simpa using h6
  refine zG ?_
  refine zS ?_
  refine zS ?_
  refine zQ ?_
  rw [chainV, if_neg h1]; rfl
 have h1 : checkJ l vs = 0 := by simpa using h6
 have hc := checkJ_ok h1
 have hO := check_ok hc.1
 refine zW ?_
 refine zH ?_
 refine zT ?_
 refine awp_block ?_
 refine awp_loop (fun x : {k : Nat // k ≤ (vs).length ∧ PairC l vs k} => ⟨[(1, vals vs), (2, .ptr 0 0), (6, i64 (x.1 : Nat))], [(0, .var 26 (latL l))], 1⟩) (fun x => (vs).length - x.1) (⟨0, Nat.zero_le _, fun _ _ _ _ _ h => absurd h (Nat.not_lt_zero _)⟩) ?_ ?_
 ·
  exact weak_scrub' rfl (zz3 trivial) ⟨rfl, rfl, rfl, trivial⟩
 rintro ⟨k, hk, hg⟩
 dsimp only
 refine zH ?_
 refine zM ?_
 refine zM ?_
 refine zE ?_
 refine zB ?_
 refine zN ?_
 refine c_cond rfl (fun h10 => ?_) (fun h10 => ?_)
 ·
  have hlt : k < (vs).length := by simpa using h10
  obtain ⟨x, hx⟩ := get_lt hlt
  refine zW ?_
  refine awp_seq ?_
  refine awp_block ?_
  refine zG ?_
  refine zT ?_
  refine awp_block ?_
  refine awp_loop (fun z : {j : Nat // j ≤ k ∧ ∀ (j' : Nat) (y : Val), j' < j → vs[j']? = some y → cmpJ l x y = true} => ⟨[(1, vals vs), (2, .ptr 0 0), (6, i64 (k : Nat)), (7, i64 (z.1 : Nat))], [(0, .var 26 (latL l))], 1⟩) (fun z => k - z.1) (⟨0, Nat.zero_le _, fun _ _ h => absurd h (Nat.not_lt_zero _)⟩) ?_ ?_
  ·
   exact weak_scrub' rfl (zz4 trivial) ⟨rfl, rfl, rfl, trivial⟩
  rintro ⟨j, hj, hgj⟩
  dsimp only
  refine zH ?_
  refine zM ?_
  refine zM ?_
  refine zB ?_
  refine zN ?_
  refine c_cond rfl (fun h14 => ?_) (fun h14 => ?_)
  ·
   have hjl : j < k := by have := of_decide_eq_true h14; omega
   obtain ⟨y, hy⟩ := get_lt (show j < vs.length by omega)
   refine zW ?_
   refine awp_seq ?_
   refine awp_block ?_
   refine awp_seq ?_
   refine awp_draw 10 (by kernel_rfl) (by kernel_rfl) ?_
   refine zl ?_
   refine zm ?_
   refine zm ?_
   refine zp (q_elem rfl rfl rfl k rfl _ (val_get hx) rfl) ?_
   refine zl ?_
   refine zm ?_
   refine zm ?_
   refine zp (q_elem rfl rfl rfl j rfl _ (val_get hy) rfl) ?_
   refine zl ?_
   refine zp (q_call (rCmpJ_fc l x y (hS x (List.mem_of_getElem? hx)) (hS y (List.mem_of_getElem? hy))) rfl rfl rfl) ?_
   change AOps _ _ _ _ _ _
   refine zP (q_not rfl rfl) ?_
   refine zN ?_
   refine c_cond rfl (fun h20 => ?_) (fun h20 => ?_)
   ·
    have h9 : cmpJ l x y = false := by simpa using h20
    have hno := chain_fail hO hc.1 hc.2 hx hy h9
    refine zG ?_
    refine zS ?_
    refine zS ?_
    refine zQ ?_
    rw [chainV, if_pos h1, hno]; rfl
   refine awp_skip ?_
   change AWP _ _ _ _  _
   refine awp_region ?_
   refine zM ?_
   refine zP (q_addi rfl rfl rfl (by omega)) ?_
   refine zS ?_
   refine aops_nil ?_
   exact ⟨⟨j + 1, hjl, fun j' y' h1 hy' => by
    by_cases e : j' = j
    ·subst e; rw [hy] at hy'; cases hy'; simp_all
    exact hgj j' y' (by omega) hy'⟩, weak_scrub' rfl (zz3 ⟨(cgI (by dsimp only; omega)), rfl, trivial⟩) ⟨rfl, rfl, rfl, trivial⟩, by dsimp only; omega⟩
  have hgej : k ≤ j := by have := of_decide_eq_false h14; omega
  have ejk : j = k := by omega
  have hg2 := hgj
  rw [ejk] at hg2
  refine awp_exit ?_
  change AWP _ _ _ _  _
  refine awp_region ?_
  refine zM ?_
  refine zP (q_addi rfl rfl rfl (by omega)) ?_
  refine zS ?_
  refine aops_nil ?_
  exact ⟨⟨k + 1, hlt, fun i' j' x' y' h1 h2 hx' hy' => by
   by_cases e : i' = k
   ·subst e; rw [hx] at hx'; cases hx'; exact hg2 j' y' (by omega) hy'
   exact hg i' j' x' y' h1 (by omega) hx' hy'⟩, weak_scrub' rfl (zz2 ⟨(cgI (by dsimp only; omega)), rfl, trivial⟩) ⟨rfl, rfl, rfl, trivial⟩, by dsimp only; omega⟩
 have hge : vs.length ≤ k := by simpa using h10
 have hpc : PairC l vs vs.length := by
  obtain rfl : k = vs.length := by omega
  exact hg
 refine awp_exit ?_
 change AWP _ _ _ _  _
 refine zG ?_
 refine zT ?_
 refine awp_seq ?_
 refine awp_block ?_
 obtain ⟨o, ho⟩ := chain_some hO hc.1 hc.2 hpc
 have tot := pair_tot hO hc.1 hc.2 hpc
 refine awp_weak (weak_own rfl 8 3 1 rfl) ?_
 refine awp_loop (fun z : {out : List Int // SelC l vs out} => ⟨[(1, vals vs), (2, .ptr 0 0), (8, .own 1 z.1.length)], [(0, .var 26 (latL l)), (1, .arr 3 1 (z.1.map iv1))], 2⟩) (fun z => vs.length - z.1.length) (⟨[], sel_nil⟩) ?_ ?_
 ·
  exact weak_scrub' rfl (zz3 trivial) ⟨rfl, rfl, rfl, rfl, rfl, (ok_arr (fun _ => rfl) _), trivial⟩
 rintro ⟨out, hSel⟩
 dsimp only
 have hrg := rg_len hSel.rg hSel.nd
 refine zH ?_
 refine zM ?_
 refine zP ((q_len_own rfl rfl rfl (by simp))) ?_
 refine zM ?_
 refine zE ?_
 refine zB ?_
 refine zN ?_
 refine c_cond rfl (fun h27 => ?_) (fun h27 => ?_)
 ·
  have hlo : out.length < vs.length := by have := of_decide_eq_true h27; rw [List.length_map] at this; omega
  refine zW ?_
  refine awp_block ?_
  refine zG ?_
  refine zT ?_
  refine zH ?_
  refine zT ?_
  refine awp_block ?_
  refine awp_loop (fun z : {q : Nat × Int // q.1 ≤ vs.length ∧ NextC l vs out q.1 q.2} => ⟨[(1, vals vs), (2, .ptr 0 0), (8, .own 1 out.length), (9, i64 z.1.2), (10, i64 (z.1.1 : Nat))], [(0, .var 26 (latL l)), (1, .arr 3 1 (out.map iv1))], 2⟩) (fun z => vs.length - z.1.1) (⟨(0, -1), Nat.zero_le _, next_zero _⟩) ?_ ?_
  ·
   exact weak_scrub' rfl (zz4 (zz1 trivial)) ⟨rfl, rfl, rfl, rfl, rfl, (ok_arr (fun _ => rfl) _), trivial⟩
  rintro ⟨⟨k, nx⟩, hk, hNx⟩
  dsimp only at hk hNx ⊢
  refine zH ?_
  refine zM ?_
  refine zM ?_
  refine zE ?_
  refine zB ?_
  refine zN ?_
  refine c_cond rfl (fun h33 => ?_) (fun h33 => ?_)
  ·
   have hlt : k < (vs).length := by simpa using h33
   obtain ⟨x, hx⟩ := get_lt hlt
   have hst := next_step hO hc.2 tot hlt hNx
   have hgx : getV vs (k : Int) = x := getV_of hx
   rw [hgx] at hst
   refine zW ?_
   refine awp_seq ?_
   refine awp_block ?_
   refine awp_seq ?_
   refine awp_draw 32 (by kernel_rfl) (by kernel_rfl) ?_
   refine zm ?_
   refine zm ?_
   refine zp (q_lend (rhas_fc out (k : Int)) rfl rfl rfl (.cons (.own rfl (by simp) (all_okE (fun _ => rfl) _) (fzs_iv2 _)) (.cons (.fz rfl) .nil))) ?_
   refine zp (q_not rfl rfl) ?_
   refine zm ?_
   refine d_case 52 rfl (fun h34 => ?_) (fun h34 => ?_)
   ·
    refine vP (w11 (m0 (n1 h34))) (q_move rfl rfl) ?_
    refine vP (w11 (m0 (n1 h34))) (q_bin rfl rfl rfl) ?_
    refine vP (w11 (m0 (n1 h34))) (q_move rfl rfl) ?_
    refine d_case 55 rfl (fun h35 => ?_) (fun h35 => ?_)
    ·
     refine vK (w10 h35) ?_
     refine vK (w10 h35) ?_
     refine vK (w10 h35) ?_
     refine vK (w10 h35) ?_
     refine vK (w10 h35) ?_
     refine vK (w10 h35) ?_
     refine vK (w10 h35) ?_
     refine vK (w10 h35) ?_
     refine vK (w10 h35) ?_
     refine vK (w10 h35) ?_
     refine vK (w10 h35) ?_
     refine zk ?_
     refine zk ?_
     refine zk ?_
     refine zk ?_
     refine zk ?_
     refine zk ?_
     refine zk ?_
     refine zk ?_
     refine zk ?_
     refine zk ?_
     refine zk ?_
     refine vK (w10 h35) ?_
     refine vP (w11 (m0 (n1 h34))) (q_pick1 rfl rfl h35 rfl) ?_
     change AOps _ _ _ _ _ _
     refine zP (q_pick1 rfl rfl (m0 (n1 h34)) rfl) ?_
     refine zN ?_
     refine c_true rfl rfl ?_
     refine awp_region ?_
     refine zM ?_
     refine zS ?_
     refine aops_nil ?_
     change AWP _ _ _ _  _
     refine awp_region ?_
     refine zM ?_
     refine zP (q_addi rfl rfl rfl (by omega)) ?_
     refine zS ?_
     refine aops_nil ?_
     exact ⟨⟨(k + 1, (k : Int)), hlt, next_yes hst (by simp_all)⟩, weak_scrub' rfl (zz4 ⟨(cgI (by dsimp only; omega)), rfl, trivial⟩) ⟨rfl, rfl, rfl, rfl, rfl, (ok_arr (fun _ => rfl) _), trivial⟩, by dsimp only; omega⟩
    have hnx : 0 ≤ nx ∧ nx < vs.length := by
     rcases hNx with ⟨h1, -⟩ | ⟨h1, h2, -⟩
     ·rw [h1] at h35; simp at h35
     exact ⟨h1, by omega⟩
    obtain ⟨y, hy⟩ := get_lt (show nx.toNat < vs.length by omega)
    have hni : (nx.toNat : Int) = nx := by omega
    have hgy : getV vs nx = y := by rw [← hni]; exact getV_of hy
    rw [hgy] at hst
    refine vP (w00 h35) (q_load rfl rfl rfl rfl rfl) ?_
    refine vP (w00 h35) (q_move rfl rfl) ?_
    refine vP (w00 h35) (q_move rfl rfl) ?_
    refine vP (w00 h35) (q_elem rfl rfl rfl k rfl _ (val_get hx) rfl) ?_
    refine vP (w00 h35) (q_load rfl rfl rfl rfl rfl) ?_
    refine vP (w00 h35) (q_move rfl rfl) ?_
    refine vP (w00 h35) (q_move rfl rfl) ?_
    refine vP (w00 h35) (q_elem rfl rfl rfl nx.toNat hni.symm _ (val_get hy) rfl) ?_
    refine vP (w00 h35) (q_load rfl rfl rfl rfl rfl) ?_
    refine vP (w00 h35) (q_call (rleq_fc l hO x y (hc.2 x (List.mem_of_getElem? hx)) (hc.2 y (List.mem_of_getElem? hy)) (hS x (List.mem_of_getElem? hx))) rfl rfl rfl) ?_
    refine vP (w00 h35) (q_move rfl rfl) ?_
    refine d_case 66 rfl (fun h42 => ?_) (fun h42 => ?_)
    ·
     refine vP (w11 h42) (q_load rfl rfl rfl rfl rfl) ?_
     refine vP (w11 h42) (q_move rfl rfl) ?_
     refine vP (w11 h42) (q_move rfl rfl) ?_
     refine vP (w11 h42) (q_elem rfl rfl rfl nx.toNat hni.symm _ (val_get hy) rfl) ?_
     refine vP (w11 h42) (q_load rfl rfl rfl rfl rfl) ?_
     refine vP (w11 h42) (q_move rfl rfl) ?_
     refine vP (w11 h42) (q_move rfl rfl) ?_
     refine vP (w11 h42) (q_elem rfl rfl rfl k rfl _ (val_get hx) rfl) ?_
     refine vP (w11 h42) (q_load rfl rfl rfl rfl rfl) ?_
     refine vP (w11 h42) (q_call (rleq_fc l hO y x (hc.2 y (List.mem_of_getElem? hy)) (hc.2 x (List.mem_of_getElem? hx)) (hS y (List.mem_of_getElem? hy))) rfl rfl rfl) ?_
     refine vP (w11 h42) (q_not rfl rfl) ?_
     refine vP (w00 h35) (q_pick1 rfl rfl h42 rfl) ?_
     refine vP (w11 (m0 (n1 h34))) (q_pick0 rfl rfl h35 rfl) ?_
     change AOps _ _ _ _ _ _
     refine zP (q_pick1 rfl rfl (m0 (n1 h34)) rfl) ?_
     refine zN ?_
     refine c_cond rfl (fun h48 => ?_) (fun h48 => ?_)
     ·
      refine awp_region ?_
      refine zM ?_
      refine zS ?_
      refine aops_nil ?_
      change AWP _ _ _ _  _
      refine awp_region ?_
      refine zM ?_
      refine zP (q_addi rfl rfl rfl (by omega)) ?_
      refine zS ?_
      refine aops_nil ?_
      exact ⟨⟨(k + 1, (k : Int)), hlt, next_yes hst (by simp_all)⟩, weak_scrub' rfl (zz4 ⟨(cgI (by dsimp only; omega)), rfl, trivial⟩) ⟨rfl, rfl, rfl, rfl, rfl, (ok_arr (fun _ => rfl) _), trivial⟩, by dsimp only; omega⟩
     refine awp_skip ?_
     change AWP _ _ _ _  _
     refine awp_region ?_
     refine zM ?_
     refine zP (q_addi rfl rfl rfl (by omega)) ?_
     refine zS ?_
     refine aops_nil ?_
     exact ⟨⟨(k + 1, nx), hlt, next_no hst (by simp_all)⟩, weak_scrub' rfl (zz4 ⟨(cgI (by dsimp only; omega)), rfl, trivial⟩) ⟨rfl, rfl, rfl, rfl, rfl, (ok_arr (fun _ => rfl) _), trivial⟩, by dsimp only; omega⟩
    refine vK (w01 h42) ?_
    refine vK (w01 h42) ?_
    refine vK (w01 h42) ?_
    refine vK (w01 h42) ?_
    refine vK (w01 h42) ?_
    refine vK (w01 h42) ?_
    refine vK (w01 h42) ?_
    refine vK (w01 h42) ?_
    refine vK (w01 h42) ?_
    refine vK (w01 h42) ?_
    refine vK (w01 h42) ?_
    refine vP (w00 h35) (q_pick0 rfl rfl h42 rfl) ?_
    refine vP (w11 (m0 (n1 h34))) (q_pick0 rfl rfl h35 rfl) ?_
    change AOps _ _ _ _ _ _
    refine zP (q_pick1 rfl rfl (m0 (n1 h34)) rfl) ?_
    refine zN ?_
    refine c_false rfl rfl ?_
    refine awp_skip ?_
    change AWP _ _ _ _  _
    refine awp_region ?_
    refine zM ?_
    refine zP (q_addi rfl rfl rfl (by omega)) ?_
    refine zS ?_
    refine aops_nil ?_
    exact ⟨⟨(k + 1, nx), hlt, next_no hst (by simp_all)⟩, weak_scrub' rfl (zz4 ⟨(cgI (by dsimp only; omega)), rfl, trivial⟩) ⟨rfl, rfl, rfl, rfl, rfl, (ok_arr (fun _ => rfl) _), trivial⟩, by dsimp only; omega⟩
   refine vK (w01 (m1 (n0 h34))) ?_
   refine vK (w01 (m1 (n0 h34))) ?_
   refine vK (w01 (m1 (n0 h34))) ?_
   refine zk ?_
   refine zk ?_
   refine zk ?_
   refine zk ?_
   refine zk ?_
   refine zk ?_
   refine zk ?_
   refine zk ?_
   refine zk ?_
   refine zk ?_
   refine zk ?_
   refine zk ?_
   refine zk ?_
   refine zk ?_
   refine zk ?_
   refine zk ?_
   refine zk ?_
   refine zk ?_
   refine zk ?_
   refine zk ?_
   refine zk ?_
   refine zk ?_
   refine zk ?_
   refine vK (w01 (m1 (n0 h34))) ?_
   change AOps _ _ _ _ _ _
   refine zP (q_pick0 rfl rfl (m1 (n0 h34)) rfl) ?_
   refine zN ?_
   refine c_false rfl rfl ?_
   refine awp_skip ?_
   change AWP _ _ _ _  _
   refine awp_region ?_
   refine zM ?_
   refine zP (q_addi rfl rfl rfl (by omega)) ?_
   refine zS ?_
   refine aops_nil ?_
   exact ⟨⟨(k + 1, nx), hlt, next_no hst (by simp_all)⟩, weak_scrub' rfl (zz4 ⟨(cgI (by dsimp only; omega)), rfl, trivial⟩) ⟨rfl, rfl, rfl, rfl, rfl, (ok_arr (fun _ => rfl) _), trivial⟩, by dsimp only; omega⟩
  have hge : vs.length ≤ k := by simpa using h33
  obtain rfl : k = vs.length := by omega
  have hsn := sel_next hSel hlo hNx
  refine awp_exit ?_
  change AWP _ _ _ _  _
  refine awp_region ?_
  refine zM ?_
  refine zM ?_
  refine zP (q_bslice rfl rfl rfl rfl (by exact rfl) (by decide) (by decide)) ?_
  refine s_append_own hN rfl rfl rfl (by simp) rfl rfl rfl (by simp [chunk_1]; omega) rfl rfl rfl rfl ?_
  refine zS ?_
  refine aops_nil ?_
  exact ⟨⟨out ++ [nx], hsn.2.2⟩, weak_scrub' rfl (zz2 ⟨(cgO (by simp [chunk_1])), rfl, trivial⟩) ⟨rfl, rfl, rfl, (cgA (by simp [chunk_1, iv1])), rfl, (ok_arr (fun _ => rfl) _), trivial⟩, by simp only [List.length_append, List.length_singleton]; omega⟩
 have hgo : vs.length ≤ out.length := by have := of_decide_eq_false h27; rw [List.length_map] at this; omega
 have heq := sel_chain hO hc.2 ho hSel hgo
 refine awp_exit ?_
 change AWP _ _ _ _  _
 refine zG ?_
 refine zM ?_
 refine zS ?_
 refine zT ?_
 refine awp_weak (weak_frow 4 1 rfl rfl (by simp) (all_okE (fun _ => rfl) _) (fzs_iv2 _) rfl) ?_
 refine zR ?_
 rw [chainV, if_pos h1, ho, heq]
end Go.Proofs.YtciojbjoijedjaaGreat

namespace Go.Proofs.YtciojbjoijedjaaGreat
open Go.RowKit
theorem small_L {vs : List Val} (h : smallL vs = true) : vs.length ≤ 8 ∧ ∀ v ∈ vs, SmV 40 v := by
 unfold smallL at h
 simp only [Bool.and_eq_true, List.all_eq_true, decide_eq_true_eq] at h
 exact ⟨h.1, fun v hv => sm_small (h.2 v hv)⟩
set_option maxRecDepth 100000 in
set_option maxHeartbeats 1000000 in
theorem lawLists_fc (l : Lat) (vs : List Val) : FC Tryz.prog 9 [.agg (latL l), vals vs] (bl true) := by
 refine fc_of_awp [4] Tryz.func9 rfl rfl 86 Tryz.ntmps9 (Nat.le_of_ble_eq_true rfl) ?_
 intro E hN
 refine zG ?_
 refine zX ?_
 refine zT ?_
 refine zH ?_
 refine zP (q_call awake_fc rfl rfl rfl) ?_
 refine zP (q_not rfl rfl) ?_
 refine zN ?_
 refine c_false rfl rfl ?_
 refine zW ?_
 refine zH ?_
 refine zM ?_
 refine zP (q_call (lsmall_fc vs) rfl rfl rfl) ?_
 refine zP (q_not rfl rfl) ?_
 refine zN ?_
 refine c_cond rfl (fun h4 => ?_) (fun h4 => ?_)
 ·
  have h3 := h4
  refine zG ?_
  refine zS ?_
  refine zQ ?_
  first | rfl | exact retB (by simp_all)
 obtain ⟨hl, hS⟩ := small_L (n0 h4)
 refine zW ?_
 refine zG ?_
 refine zL ?_
 refine zM ?_
 refine zP (q_call (joinAll_fc l vs (fun h0 => fold_ok (check_ok (checkJ_ok h0).1) (fun v hv => ⟨(checkJ_ok h0).2 v hv, (hS v hv).up (by decide)⟩) (by omega))) rfl rfl rfl) ?_
 refine zM ?_
 refine zP (q_extract rfl rfl rfl) ?_
 refine zP (q_extract rfl rfl rfl) ?_
 refine zO ?_
 refine zC ?_
 refine zS ?_
 refine zA ?_
 refine zL ?_
 refine zM ?_
 refine zP (q_call (rJoinAll_fc l vs (fun v hv => (hS v hv).up (by decide)) (by omega)) rfl rfl rfl) ?_
 refine zM ?_
 refine zP (q_extract rfl rfl rfl) ?_
 refine zP (q_extract rfl rfl rfl) ?_
 refine zO ?_
 refine zC ?_
 refine zS ?_
 refine zA ?_
 refine zL ?_
 refine zM ?_
 refine zP (q_call (chain_vfc l vs (by omega)) rfl rfl rfl) ?_
 refine zM ?_
 refine zP (q_extract rfl rfl rfl) ?_
 refine zP (q_extract rfl rfl rfl) ?_
 refine zS ?_
 refine zS ?_
 refine zA ?_
 refine zL ?_
 refine zM ?_
 refine zP (q_call (rChain_fc l vs (fun v hv => (hS v hv).up (by decide)) (by omega)) rfl rfl rfl) ?_
 refine zM ?_
 refine zP (q_extract rfl rfl rfl) ?_
 refine zP (q_extract rfl rfl rfl) ?_
 refine zS ?_
 refine zS ?_
 refine zA ?_
 refine zL ?_
 refine zM ?_
 refine zP (q_call (maximal_fc l vs (by omega)) rfl rfl rfl) ?_
 refine zM ?_
 refine zP (q_extract rfl rfl rfl) ?_
 refine zP (q_extract rfl rfl rfl) ?_
 refine zS ?_
 refine zS ?_
 refine zA ?_
 refine zL ?_
 refine zM ?_
 refine zP (q_call (rMaximal_fc l vs (fun v hv => (hS v hv).up (by decide)) (by omega)) rfl rfl rfl) ?_
 refine zM ?_
 refine zP (q_extract rfl rfl rfl) ?_
 refine zP (q_extract rfl rfl rfl) ?_
 refine zS ?_
 refine zS ?_
 refine zA ?_
 refine zM ?_
 refine zM ?_
 refine zB ?_
 refine zM ?_
 refine s_case 61 rfl (fun h33 => ?_) (fun h33 => ?_)
 ·
  refine uL (w11 h33) ?_
  refine uL (w11 h33) ?_
  refine uP (w11 h33) (q_call (fcb (rEqual_fc (joinAllV l vs).1 (joinAllV l vs).1) ((eqV_iff _ _).2 rfl)) rfl rfl rfl) ?_
  refine zP (q_pick1 rfl rfl h33 rfl) ?_
  refine zM ?_
  refine zM ?_
  refine zM ?_
  refine zB ?_
  refine zP (q_pick1 rfl rfl rfl rfl) ?_
  refine zM ?_
  refine s_case 71 rfl (fun h36 => ?_) (fun h36 => ?_)
  ·
   refine uM (w11 h36) ?_
   refine uM (w11 h36) ?_
   refine uP (w11 h36) (q_call (fcb (same_fc (chainV l vs).1 (chainV l vs).1) (decide_eq_true rfl)) rfl rfl rfl) ?_
   refine zP (q_pick1 rfl rfl h36 rfl) ?_
   refine zM ?_
   refine zM ?_
   refine zM ?_
   refine zB ?_
   refine zP (q_pick1 rfl rfl rfl rfl) ?_
   refine zM ?_
   refine s_case 81 rfl (fun h37 => ?_) (fun h37 => ?_)
   ·
    refine uM (w11 h37) ?_
    refine uM (w11 h37) ?_
    refine uP (w11 h37) (q_call (fcb (same_fc (maximalV l vs).1 (maximalV l vs).1) (decide_eq_true rfl)) rfl rfl rfl) ?_
    refine zP (q_pick1 rfl rfl h37 rfl) ?_
    refine zS ?_
    refine zQ ?_
    first | rfl | exact retB (by simp_all)
   refine uK (w01 h37) ?_
   refine uK (w01 h37) ?_
   refine uK (w01 h37) ?_
   refine zP (q_pick0 rfl rfl h37 rfl) ?_
   refine zS ?_
   refine zQ ?_
   first | rfl | exact retB (by simp_all)
  refine uK (w01 h36) ?_
  refine uK (w01 h36) ?_
  refine uK (w01 h36) ?_
  refine zP (q_pick0 rfl rfl h36 rfl) ?_
  refine zM ?_
  refine zK ?_
  refine zK ?_
  refine zK ?_
  refine zP (q_pick0 rfl rfl rfl rfl) ?_
  refine zM ?_
  refine zK ?_
  refine zK ?_
  refine zK ?_
  refine zP (q_pick0 rfl rfl rfl rfl) ?_
  refine zS ?_
  refine zQ ?_
  first | rfl | exact retB (by simp_all)
 refine uK (w01 h33) ?_
 refine uK (w01 h33) ?_
 refine uK (w01 h33) ?_
 refine zP (q_pick0 rfl rfl h33 rfl) ?_
 refine zM ?_
 refine zK ?_
 refine zK ?_
 refine zK ?_
 refine zP (q_pick0 rfl rfl rfl rfl) ?_
 refine zM ?_
 refine zK ?_
 refine zK ?_
 refine zK ?_
 refine zP (q_pick0 rfl rfl rfl rfl) ?_
 refine zM ?_
 refine zK ?_
 refine zK ?_
 refine zK ?_
 refine zP (q_pick0 rfl rfl rfl rfl) ?_
 refine zM ?_
 refine zK ?_
 refine zK ?_
 refine zK ?_
 refine zP (q_pick0 rfl rfl rfl rfl) ?_
 refine zS ?_
 refine zQ ?_
 first | rfl | exact retB (by simp_all)
end Go.Proofs.YtciojbjoijedjaaGreat
