/-
  Contracts: finite.Index, Table at the chapter's description (seat r5).
  Contracts: finite.Index, Table at the chapter's description, the walks (seat r5).
-/
import Derived.Test.YtaecccdkjmipeaaGreatF7
import Derived.Test.YtaecccdkjmipeaaGreatB21
import Derived.Test.YtaecccdkjmipeaaGreatB16
import Derived.Test.YtaecccdkjmipeaaGreatB14
import Derived.Test.YtaecccdkjmipeaaGreatA10
namespace Go.Proofs.YtaecccdkjmipeaaGreat
open Go.RowKit
def dia (i j : Nat) : Nat := ([[0, 1, 2, 3], [1, 1, 3, 3], [2, 3, 2, 3], [3, 3, 3, 3]].getD i []).getD j 0
theorem dia_tab : TabOf (tab 4 dia) 4 dia := ⟨rfl, by decide, by decide, fun i j hi hj => (by decide : ∀ i, i < 4 → ∀ j, j < 4 → dia i j < 4) i hi j hj⟩
theorem dvJ {i j : Nat} {a b : Val} (ha : dv[i]? = some a) (hb : dv[j]? = some b) : dv[dia i j]? = some (joinV dl a b) := by
 have hi : i < 4 := (List.getElem?_eq_some_iff.1 ha).1
 have hj : j < 4 := (List.getElem?_eq_some_iff.1 hb).1
 match i, j, hi, hj with
 | 0, 0, _, _ => cases ha; cases hb; rfl
 | 0, 1, _, _ => cases ha; cases hb; rfl
 | 0, 2, _, _ => cases ha; cases hb; rfl
 | 0, 3, _, _ => cases ha; cases hb; rfl
 | 1, 0, _, _ => cases ha; cases hb; rfl
 | 1, 1, _, _ => cases ha; cases hb; rfl
 | 1, 2, _, _ => cases ha; cases hb; rfl
 | 1, 3, _, _ => cases ha; cases hb; rfl
 | 2, 0, _, _ => cases ha; cases hb; rfl
 | 2, 1, _, _ => cases ha; cases hb; rfl
 | 2, 2, _, _ => cases ha; cases hb; rfl
 | 2, 3, _, _ => cases ha; cases hb; rfl
 | 3, 0, _, _ => cases ha; cases hb; rfl
 | 3, 1, _, _ => cases ha; cases hb; rfl
 | 3, 2, _, _ => cases ha; cases hb; rfl
 | 3, 3, _, _ => cases ha; cases hb; rfl
theorem dv_el {a : Val} (h : a ∈ dv) : elemB a dl = true := by
 have : ∀ a ∈ dv, elemB a dl = true := by decide
 exact this a h
theorem dv_sm {a : Val} (h : a ∈ dv) : SmV 1000 a := by
 have h2 : dv = [.mk 0 [] [.mk 0 [] [] [], .mk 0 [] [] []] [], .mk 0 [] [.mk 0 [] [] [], .mk 1 [] [] []] [], .mk 0 [] [.mk 1 [] [] [], .mk 0 [] [] []] [], .mk 0 [] [.mk 1 [] [] [], .mk 1 [] [] []] []] := rfl
 rw [h2] at h
 simp only [List.mem_cons, List.not_mem_nil, or_false] at h
 rcases h with rfl | rfl | rfl | rfl <;> exact (sm_small (by kernel_rfl)).up (by decide)
theorem dJoin_fc {i j : Nat} {a b w : Val} (ha : dv[i]? = some a) (hb : dv[j]? = some b) (hw : dv[dia i j]? = some w) : FC Tryz.prog 59 [.agg (latL dl), .agg (valL a), .agg (valL b)] (.tup [.agg (valL w), i64 0]) := by
 have ma := List.mem_of_getElem? ha
 have mb := List.mem_of_getElem? hb
 have h := Join_fc dl a b (fun _ => fold_ok (check_ok dl_ok) (by simp [dv_el ma, dv_el mb, dv_sm ma, dv_sm mb]) (by simp))
 rw [joinAllV_of (checkJ_of dl_ok (by simp [dv_el ma, dv_el mb])) (fold_two (check_ok dl_ok) (dv_el ma))] at h
 rw [dvJ ha hb] at hw
 cases hw
 exact h
end Go.Proofs.YtaecccdkjmipeaaGreat

namespace Go.Proofs.YtaecccdkjmipeaaGreat
open Go.RowKit
def tRow (n : Nat) (f : Nat → Nat → Nat) (i : Nat) : List AV := row1 (rowL n f i)
def tEl (f : Nat → Nat → Nat) (i j : Nat) : List AV := nvv1 (f i j)
theorem tEl_row (n : Nat) (f : Nat → Nat → Nat) (i : Nat) : upto n (tEl f i) zeR4 n = (rowL n f i).map iv1 := by
 rw [upto_full (Nat.le_refl n)]
 unfold rowL
 rw [List.map_map]; rfl
set_option maxRecDepth 100000 in
set_option maxHeartbeats 1000000 in
theorem findex_fc (L : Lat) (l : List Val) (hv : FC Tryz.prog 14 [.agg (latL L)] (.tup [vals l, i64 0])) (hs : l.Pairwise (fun x y => cmpVal x y < 0)) (h6 : l.length ≤ 1000000) (k : Nat) (v : Val) (hk : l[k]? = some v) : FC Tryz.prog 15 [.agg (latL L), .agg (valL v)] (.tup [i64 (k : Nat), i64 0]) := by
 refine fc_of_awp [4, 5] Tryz.func15 rfl rfl 27 Tryz.ntmps15 (Nat.le_of_ble_eq_true rfl) ?_
 intro E hN
 refine rn10 ?_; refine zP (q_call hv rfl rfl rfl) ?_; refine rn12 ?_; refine c_false rfl rfl ?_; refine rn5 ?_
 refine zP (q_call (bsearch_fc l k v hk hs h6) rfl rfl rfl) ?_; refine rn12 ?_; refine c_false rfl rfl ?_; refine rn6 ?_; refine zQ ?_
 rfl
set_option maxRecDepth 100000 in
set_option maxHeartbeats 1000000 in
theorem table_fc (L : Lat) (l : List Val) (n : Nat) (f : Nat → Nat → Nat) (hln : l.length = n) (h256 : n ≤ 256) (hlt : ∀ i j, i < n → j < n → f i j < n) (hv : FC Tryz.prog 14 [.agg (latL L)] (.tup [vals l, i64 0])) (hs : l.Pairwise (fun x y => cmpVal x y < 0)) (hJ : ∀ (i j : Nat) (a b w : Val), l[i]? = some a → l[j]? = some b → l[f i j]? = some w → FC Tryz.prog 59 [.agg (latL L), .agg (valL a), .agg (valL b)] (.tup [.agg (valL w), i64 0])) : FC Tryz.prog 23 [.agg (latL L)] (.tup [tabs (tab n f), i64 0]) := by
 refine fc_of_awp [2, 3] Tryz.func23 rfl rfl 69 Tryz.ntmps23 (Nat.le_of_ble_eq_true rfl) ?_
 intro E hN
 refine rn9 ?_; refine zP (q_call hv rfl rfl rfl) ?_; refine rn12 ?_; refine c_false rfl rfl ?_; refine rn5 ?_
 refine s_makeN hN rfl (k := 1) (zs := [.slice none 0 0]) rfl (y := 24) (by kernel_rfl) rfl rfl (n := n) (cgI (by simp [hln])) (cgI (by simp [hln])) (by omega) rfl rfl rfl rfl ?_
 refine rn10 ?_
 refine awp_loop (fun x : {i : Nat // i ≤ n ∧ True} => ⟨[(1, .ptr 0 0), (4, vals l), (6, .own 1 n), (23, i64 n), (24, i64 (x.1 : Nat))], [(0, .var 26 (latL L)), (1, .arr 56 1 (upto n (tRow n f) nilR x.1))], 2⟩) (fun x => n - x.1) (⟨0, Nat.zero_le _, by trivial⟩) ?_ ?_
 ·
  exact weak_scrub' rfl (zz3 ⟨(cgI (by simp [hln])), rfl, (zz1 trivial)⟩) ⟨rfl, rfl, rfl, (cgA (by rw [upto_zero, rep_map]; rfl)), rfl, (ok_upto (fun _ => rfl) (fun _ => rfl)), trivial⟩
 rintro ⟨i, hi, gi⟩
 dsimp only
 refine rn5 ?_
 refine zq ?_ ?_ <;> intro h16
 ·
  have lti : i < n := by have := of_decide_eq_true h16; omega
  obtain ⟨a, hia⟩ := get_lt (show i < l.length by omega)
  refine rn14 ?_
  refine s_makeN hN rfl (k := 1) (zs := [.int .i64 0]) rfl (y := 8) (by kernel_rfl) rfl rfl (n := n) (cgI (by simp [hln])) (cgI (by simp [hln])) (by omega) rfl rfl rfl rfl ?_
  refine zP (q_eown rfl rfl rfl rfl upto_len.symm i rfl lti) ?_
  refine s_storeO hN rfl rfl rfl upto_len.symm i rfl (by rw [upto_len]; exact lti) rfl (cells1_own rfl (by simp)) rfl rfl (one_upto (fun _ => rfl) (fun _ => rfl)) rfl rfl rfl rfl ?_
  refine rn8 ?_
  refine awp_loop (fun x : {j : Nat // j ≤ n ∧ True} => ⟨[(1, .ptr 0 0), (4, vals l), (6, .own 1 n), (23, i64 n), (24, i64 (i : Nat)), (7, i64 (i : Nat)), (34, i64 n), (35, i64 (x.1 : Nat))], [(0, .var 26 (latL L)), (1, .arr 56 1 ((upto n (tRow n f) nilR i).set i [.own 2 n])), (2, .arr 3 1 (upto n (tEl f i) zeR4 x.1))], 3⟩) (fun x => n - x.1) (⟨0, Nat.zero_le _, by trivial⟩) ?_ ?_
  ·
   exact weak_scrub' rfl (zz4 (zz2 ⟨(cgI (by simp [hln])), rfl, (zz1 trivial)⟩)) ⟨rfl, rfl, rfl, rfl, rfl, (ok_set (ok_upto (fun _ => rfl) (fun _ => rfl)) rfl i), (cgA (by rw [upto_zero, rep_map]; rfl)), rfl, (ok_upto (fun _ => rfl) (fun _ => rfl)), trivial⟩
  rintro ⟨j, hj, gj⟩
  dsimp only
  refine rn5 ?_
  refine zq ?_ ?_ <;> intro h30
  ·
   have ltj : j < n := by have := of_decide_eq_true h30; omega
   obtain ⟨b, hjb⟩ := get_lt (show j < l.length by omega)
   obtain ⟨w, hw⟩ := get_lt (show f i j < l.length by have := hlt i j lti ltj; omega)
   refine rn8 ?_
   refine c_cut (⟨[(1, .ptr 0 0), (4, vals l), (6, .own 1 n), (23, i64 n), (24, i64 (i : Nat)), (7, i64 (i : Nat)), (34, i64 n), (35, i64 (j : Nat)), (8, i64 (j : Nat)), (9, .ptr 3 0), (10, i64 0)], [(0, .var 26 (latL L)), (1, .arr 56 1 ((upto n (tRow n f) nilR i).set i [.own 2 n])), (2, .arr 3 1 (upto n (tEl f i) zeR4 j)), (3, .var 30 (valL w))], 4⟩) ?_ ?_
   ·
    refine awp_takeN 16 rfl (by kernel_rfl) (by kernel_rfl) (fun _ _ h => h) ?_; refine yM 1 ?_; refine yM 2 ?_
    refine au_take 3 rfl (by kernel_rfl) (by kernel_rfl) rfl (wi_elem hN rfl rfl rfl i rfl _ (val_get hia) rfl rfl rfl rfl rfl) ?_; refine yM 5 ?_
    refine yM 6 ?_; refine au_take 7 rfl (by kernel_rfl) (by kernel_rfl) rfl (wi_elem hN rfl rfl rfl j rfl _ (val_get hjb) rfl rfl rfl rfl rfl) ?_
    refine au_all [0, 4, 8, 13] (by kernel_rfl) rfl ⟨.inl (ao_py rfl ?_), .inl (ao_py rfl ?_), .inl (ao_py rfl ?_), .inr (.inr (nw_alloc hN rfl rfl rfl rfl rfl rfl rfl ?_)), trivial⟩
    ·
     refine zl ?_
     change AU _ _ _ _ _ _ _ _
     refine au_all [4, 8, 13] (by kernel_rfl) rfl ⟨.inl (ao_py rfl ?_), .inl (ao_py rfl ?_), .inr (.inr (nw_alloc hN rfl rfl rfl rfl rfl rfl rfl ?_)), trivial⟩
     ·
      refine zl ?_
      change AU _ _ _ _ _ _ _ _
      refine au_all [8, 13] (by kernel_rfl) rfl ⟨.inl (ao_py rfl ?_), .inr (.inr (nw_alloc hN rfl rfl rfl rfl rfl rfl rfl ?_)), trivial⟩
      ·
       refine zl ?_
       change AU _ _ _ _ _ _ _ _
       refine au_all [9, 13] (by kernel_rfl) rfl ⟨.inl (ao_py rfl ?_), .inr (.inr (nw_alloc hN rfl rfl rfl rfl rfl rfl rfl ?_)), trivial⟩
       ·
        refine zp (q_call (hJ i j a b w hia hjb hw) rfl rfl rfl) ?_
        change AU _ _ _ _ _ _ _ _
        refine yM 10 ?_; refine yX 11 ?_; refine yX 12 ?_
        refine au_all [13] (by kernel_rfl) rfl ⟨.inr (.inr (nw_alloc hN rfl rfl rfl rfl rfl rfl rfl ?_)), trivial⟩
        change AU _ _ _ _ _ _ _ _
        refine yS 14 ?_; refine yA 15 ?_; refine yD ?_
        exact weak_scrub' rfl (zz4 (zz4 (zz3 trivial))) ⟨rfl, rfl, rfl, rfl, rfl, (ok_set (ok_upto (fun _ => rfl) (fun _ => rfl)) rfl i), rfl, rfl, (ok_upto (fun _ => rfl) (fun _ => rfl)), rfl, rfl, rfl, trivial⟩
       change AU _ _ _ _ _ _ _ _
       refine yP 9 rfl (q_call (hJ i j a b w hia hjb hw) rfl rfl rfl) ?_; refine yM 10 ?_; refine yX 11 ?_; refine yX 12 ?_; refine yS 14 ?_
       refine yA 15 ?_; refine yD ?_
       exact weak_scrub' rfl (zz4 (zz4 (zz3 trivial))) ⟨rfl, rfl, rfl, rfl, rfl, (ok_set (ok_upto (fun _ => rfl) (fun _ => rfl)) rfl i), rfl, rfl, (ok_upto (fun _ => rfl) (fun _ => rfl)), rfl, rfl, rfl, trivial⟩
      change AU _ _ _ _ _ _ _ _
      refine yL 8 ?_; refine yP 9 rfl (q_call (hJ i j a b w hia hjb hw) rfl rfl rfl) ?_; refine yM 10 ?_; refine yX 11 ?_; refine yX 12 ?_
      refine yS 14 ?_; refine yA 15 ?_; refine yD ?_
      exact weak_scrub' rfl (zz4 (zz4 (zz3 trivial))) ⟨rfl, rfl, rfl, rfl, rfl, (ok_set (ok_upto (fun _ => rfl) (fun _ => rfl)) rfl i), rfl, rfl, (ok_upto (fun _ => rfl) (fun _ => rfl)), rfl, rfl, rfl, trivial⟩
     ·
      refine zl ?_
      change AU _ _ _ _ _ _ _ _
      refine au_all [4, 13] (by kernel_rfl) rfl ⟨.inl (ao_py rfl ?_), .inr (.inr (nw_alloc hN rfl rfl rfl rfl rfl rfl rfl ?_)), trivial⟩
      ·
       refine zl ?_
       change AU _ _ _ _ _ _ _ _
       refine au_all [9, 13] (by kernel_rfl) rfl ⟨.inl (ao_py rfl ?_), .inr (.inr (nw_alloc hN rfl rfl rfl rfl rfl rfl rfl ?_)), trivial⟩
       ·
        refine zp (q_call (hJ i j a b w hia hjb hw) rfl rfl rfl) ?_
        change AU _ _ _ _ _ _ _ _
        refine yM 10 ?_; refine yX 11 ?_; refine yX 12 ?_
        refine au_all [13] (by kernel_rfl) rfl ⟨.inr (.inr (nw_alloc hN rfl rfl rfl rfl rfl rfl rfl ?_)), trivial⟩
        change AU _ _ _ _ _ _ _ _
        refine yS 14 ?_; refine yA 15 ?_; refine yD ?_
        exact weak_scrub' rfl (zz4 (zz4 (zz3 trivial))) ⟨rfl, rfl, rfl, rfl, rfl, (ok_set (ok_upto (fun _ => rfl) (fun _ => rfl)) rfl i), rfl, rfl, (ok_upto (fun _ => rfl) (fun _ => rfl)), rfl, rfl, rfl, trivial⟩
       change AU _ _ _ _ _ _ _ _
       refine yP 9 rfl (q_call (hJ i j a b w hia hjb hw) rfl rfl rfl) ?_; refine yM 10 ?_; refine yX 11 ?_; refine yX 12 ?_; refine yS 14 ?_
       refine yA 15 ?_; refine yD ?_
       exact weak_scrub' rfl (zz4 (zz4 (zz3 trivial))) ⟨rfl, rfl, rfl, rfl, rfl, (ok_set (ok_upto (fun _ => rfl) (fun _ => rfl)) rfl i), rfl, rfl, (ok_upto (fun _ => rfl) (fun _ => rfl)), rfl, rfl, rfl, trivial⟩
      change AU _ _ _ _ _ _ _ _
      refine yL 4 ?_; refine yP 9 rfl (q_call (hJ i j a b w hia hjb hw) rfl rfl rfl) ?_; refine yM 10 ?_; refine yX 11 ?_; refine yX 12 ?_
      refine yS 14 ?_; refine yA 15 ?_; refine yD ?_
      exact weak_scrub' rfl (zz4 (zz4 (zz3 trivial))) ⟨rfl, rfl, rfl, rfl, rfl, (ok_set (ok_upto (fun _ => rfl) (fun _ => rfl)) rfl i), rfl, rfl, (ok_upto (fun _ => rfl) (fun _ => rfl)), rfl, rfl, rfl, trivial⟩
     change AU _ _ _ _ _ _ _ _
     refine au_all [4, 8] (by kernel_rfl) rfl ⟨.inl (ao_py rfl ?_), .inl (ao_py rfl ?_), trivial⟩
     ·
      refine zl ?_
      change AU _ _ _ _ _ _ _ _
      refine yL 8 ?_; refine yP 9 rfl (q_call (hJ i j a b w hia hjb hw) rfl rfl rfl) ?_; refine yM 10 ?_; refine yX 11 ?_; refine yX 12 ?_
      refine yS 14 ?_; refine yA 15 ?_; refine yD ?_
      exact weak_scrub' rfl (zz4 (zz4 (zz3 trivial))) ⟨rfl, rfl, rfl, rfl, rfl, (ok_set (ok_upto (fun _ => rfl) (fun _ => rfl)) rfl i), rfl, rfl, (ok_upto (fun _ => rfl) (fun _ => rfl)), rfl, rfl, rfl, trivial⟩
     refine zl ?_
     change AU _ _ _ _ _ _ _ _
     refine yL 4 ?_; refine yP 9 rfl (q_call (hJ i j a b w hia hjb hw) rfl rfl rfl) ?_; refine yM 10 ?_; refine yX 11 ?_; refine yX 12 ?_
     refine yS 14 ?_; refine yA 15 ?_; refine yD ?_
     exact weak_scrub' rfl (zz4 (zz4 (zz3 trivial))) ⟨rfl, rfl, rfl, rfl, rfl, (ok_set (ok_upto (fun _ => rfl) (fun _ => rfl)) rfl i), rfl, rfl, (ok_upto (fun _ => rfl) (fun _ => rfl)), rfl, rfl, rfl, trivial⟩
    ·
     refine zl ?_
     change AU _ _ _ _ _ _ _ _
     refine au_all [0, 8, 13] (by kernel_rfl) rfl ⟨.inl (ao_py rfl ?_), .inl (ao_py rfl ?_), .inr (.inr (nw_alloc hN rfl rfl rfl rfl rfl rfl rfl ?_)), trivial⟩
     ·
      refine zl ?_
      change AU _ _ _ _ _ _ _ _
      refine au_all [8, 13] (by kernel_rfl) rfl ⟨.inl (ao_py rfl ?_), .inr (.inr (nw_alloc hN rfl rfl rfl rfl rfl rfl rfl ?_)), trivial⟩
      ·
       refine zl ?_
       change AU _ _ _ _ _ _ _ _
       refine au_all [9, 13] (by kernel_rfl) rfl ⟨.inl (ao_py rfl ?_), .inr (.inr (nw_alloc hN rfl rfl rfl rfl rfl rfl rfl ?_)), trivial⟩
       ·
        refine zp (q_call (hJ i j a b w hia hjb hw) rfl rfl rfl) ?_
        change AU _ _ _ _ _ _ _ _
        refine yM 10 ?_; refine yX 11 ?_; refine yX 12 ?_
        refine au_all [13] (by kernel_rfl) rfl ⟨.inr (.inr (nw_alloc hN rfl rfl rfl rfl rfl rfl rfl ?_)), trivial⟩
        change AU _ _ _ _ _ _ _ _
        refine yS 14 ?_; refine yA 15 ?_; refine yD ?_
        exact weak_scrub' rfl (zz4 (zz4 (zz3 trivial))) ⟨rfl, rfl, rfl, rfl, rfl, (ok_set (ok_upto (fun _ => rfl) (fun _ => rfl)) rfl i), rfl, rfl, (ok_upto (fun _ => rfl) (fun _ => rfl)), rfl, rfl, rfl, trivial⟩
       change AU _ _ _ _ _ _ _ _
       refine yP 9 rfl (q_call (hJ i j a b w hia hjb hw) rfl rfl rfl) ?_; refine yM 10 ?_; refine yX 11 ?_; refine yX 12 ?_; refine yS 14 ?_
       refine yA 15 ?_; refine yD ?_
       exact weak_scrub' rfl (zz4 (zz4 (zz3 trivial))) ⟨rfl, rfl, rfl, rfl, rfl, (ok_set (ok_upto (fun _ => rfl) (fun _ => rfl)) rfl i), rfl, rfl, (ok_upto (fun _ => rfl) (fun _ => rfl)), rfl, rfl, rfl, trivial⟩
      change AU _ _ _ _ _ _ _ _
      refine yL 8 ?_; refine yP 9 rfl (q_call (hJ i j a b w hia hjb hw) rfl rfl rfl) ?_; refine yM 10 ?_; refine yX 11 ?_; refine yX 12 ?_
      refine yS 14 ?_; refine yA 15 ?_; refine yD ?_
      exact weak_scrub' rfl (zz4 (zz4 (zz3 trivial))) ⟨rfl, rfl, rfl, rfl, rfl, (ok_set (ok_upto (fun _ => rfl) (fun _ => rfl)) rfl i), rfl, rfl, (ok_upto (fun _ => rfl) (fun _ => rfl)), rfl, rfl, rfl, trivial⟩
     ·
      refine zl ?_
      change AU _ _ _ _ _ _ _ _
      refine au_all [0, 13] (by kernel_rfl) rfl ⟨.inl (ao_py rfl ?_), .inr (.inr (nw_alloc hN rfl rfl rfl rfl rfl rfl rfl ?_)), trivial⟩
      ·
       refine zl ?_
       change AU _ _ _ _ _ _ _ _
       refine au_all [9, 13] (by kernel_rfl) rfl ⟨.inl (ao_py rfl ?_), .inr (.inr (nw_alloc hN rfl rfl rfl rfl rfl rfl rfl ?_)), trivial⟩
       ·
        refine zp (q_call (hJ i j a b w hia hjb hw) rfl rfl rfl) ?_
        change AU _ _ _ _ _ _ _ _
        refine yM 10 ?_; refine yX 11 ?_; refine yX 12 ?_
        refine au_all [13] (by kernel_rfl) rfl ⟨.inr (.inr (nw_alloc hN rfl rfl rfl rfl rfl rfl rfl ?_)), trivial⟩
        change AU _ _ _ _ _ _ _ _
        refine yS 14 ?_; refine yA 15 ?_; refine yD ?_
        exact weak_scrub' rfl (zz4 (zz4 (zz3 trivial))) ⟨rfl, rfl, rfl, rfl, rfl, (ok_set (ok_upto (fun _ => rfl) (fun _ => rfl)) rfl i), rfl, rfl, (ok_upto (fun _ => rfl) (fun _ => rfl)), rfl, rfl, rfl, trivial⟩
       change AU _ _ _ _ _ _ _ _
       refine yP 9 rfl (q_call (hJ i j a b w hia hjb hw) rfl rfl rfl) ?_; refine yM 10 ?_; refine yX 11 ?_; refine yX 12 ?_; refine yS 14 ?_
       refine yA 15 ?_; refine yD ?_
       exact weak_scrub' rfl (zz4 (zz4 (zz3 trivial))) ⟨rfl, rfl, rfl, rfl, rfl, (ok_set (ok_upto (fun _ => rfl) (fun _ => rfl)) rfl i), rfl, rfl, (ok_upto (fun _ => rfl) (fun _ => rfl)), rfl, rfl, rfl, trivial⟩
      change AU _ _ _ _ _ _ _ _
      refine yL 0 ?_; refine yP 9 rfl (q_call (hJ i j a b w hia hjb hw) rfl rfl rfl) ?_; refine yM 10 ?_; refine yX 11 ?_; refine yX 12 ?_
      refine yS 14 ?_; refine yA 15 ?_; refine yD ?_
      exact weak_scrub' rfl (zz4 (zz4 (zz3 trivial))) ⟨rfl, rfl, rfl, rfl, rfl, (ok_set (ok_upto (fun _ => rfl) (fun _ => rfl)) rfl i), rfl, rfl, (ok_upto (fun _ => rfl) (fun _ => rfl)), rfl, rfl, rfl, trivial⟩
     change AU _ _ _ _ _ _ _ _
     refine au_all [0, 8] (by kernel_rfl) rfl ⟨.inl (ao_py rfl ?_), .inl (ao_py rfl ?_), trivial⟩
     ·
      refine zl ?_
      change AU _ _ _ _ _ _ _ _
      refine yL 8 ?_; refine yP 9 rfl (q_call (hJ i j a b w hia hjb hw) rfl rfl rfl) ?_; refine yM 10 ?_; refine yX 11 ?_; refine yX 12 ?_
      refine yS 14 ?_; refine yA 15 ?_; refine yD ?_
      exact weak_scrub' rfl (zz4 (zz4 (zz3 trivial))) ⟨rfl, rfl, rfl, rfl, rfl, (ok_set (ok_upto (fun _ => rfl) (fun _ => rfl)) rfl i), rfl, rfl, (ok_upto (fun _ => rfl) (fun _ => rfl)), rfl, rfl, rfl, trivial⟩
     refine zl ?_
     change AU _ _ _ _ _ _ _ _
     refine yL 0 ?_; refine yP 9 rfl (q_call (hJ i j a b w hia hjb hw) rfl rfl rfl) ?_; refine yM 10 ?_; refine yX 11 ?_; refine yX 12 ?_
     refine yS 14 ?_; refine yA 15 ?_; refine yD ?_
     exact weak_scrub' rfl (zz4 (zz4 (zz3 trivial))) ⟨rfl, rfl, rfl, rfl, rfl, (ok_set (ok_upto (fun _ => rfl) (fun _ => rfl)) rfl i), rfl, rfl, (ok_upto (fun _ => rfl) (fun _ => rfl)), rfl, rfl, rfl, trivial⟩
    ·
     refine zl ?_
     change AU _ _ _ _ _ _ _ _
     refine au_all [0, 4, 13] (by kernel_rfl) rfl ⟨.inl (ao_py rfl ?_), .inl (ao_py rfl ?_), .inr (.inr (nw_alloc hN rfl rfl rfl rfl rfl rfl rfl ?_)), trivial⟩
     ·
      refine zl ?_
      change AU _ _ _ _ _ _ _ _
      refine au_all [4, 13] (by kernel_rfl) rfl ⟨.inl (ao_py rfl ?_), .inr (.inr (nw_alloc hN rfl rfl rfl rfl rfl rfl rfl ?_)), trivial⟩
      ·
       refine zl ?_
       change AU _ _ _ _ _ _ _ _
       refine au_all [9, 13] (by kernel_rfl) rfl ⟨.inl (ao_py rfl ?_), .inr (.inr (nw_alloc hN rfl rfl rfl rfl rfl rfl rfl ?_)), trivial⟩
       ·
        refine zp (q_call (hJ i j a b w hia hjb hw) rfl rfl rfl) ?_
        change AU _ _ _ _ _ _ _ _
        refine yM 10 ?_; refine yX 11 ?_; refine yX 12 ?_
        refine au_all [13] (by kernel_rfl) rfl ⟨.inr (.inr (nw_alloc hN rfl rfl rfl rfl rfl rfl rfl ?_)), trivial⟩
        change AU _ _ _ _ _ _ _ _
        refine yS 14 ?_; refine yA 15 ?_; refine yD ?_
        exact weak_scrub' rfl (zz4 (zz4 (zz3 trivial))) ⟨rfl, rfl, rfl, rfl, rfl, (ok_set (ok_upto (fun _ => rfl) (fun _ => rfl)) rfl i), rfl, rfl, (ok_upto (fun _ => rfl) (fun _ => rfl)), rfl, rfl, rfl, trivial⟩
       change AU _ _ _ _ _ _ _ _
       refine yP 9 rfl (q_call (hJ i j a b w hia hjb hw) rfl rfl rfl) ?_; refine yM 10 ?_; refine yX 11 ?_; refine yX 12 ?_; refine yS 14 ?_
       refine yA 15 ?_; refine yD ?_
       exact weak_scrub' rfl (zz4 (zz4 (zz3 trivial))) ⟨rfl, rfl, rfl, rfl, rfl, (ok_set (ok_upto (fun _ => rfl) (fun _ => rfl)) rfl i), rfl, rfl, (ok_upto (fun _ => rfl) (fun _ => rfl)), rfl, rfl, rfl, trivial⟩
      change AU _ _ _ _ _ _ _ _
      refine yL 4 ?_; refine yP 9 rfl (q_call (hJ i j a b w hia hjb hw) rfl rfl rfl) ?_; refine yM 10 ?_; refine yX 11 ?_; refine yX 12 ?_
      refine yS 14 ?_; refine yA 15 ?_; refine yD ?_
      exact weak_scrub' rfl (zz4 (zz4 (zz3 trivial))) ⟨rfl, rfl, rfl, rfl, rfl, (ok_set (ok_upto (fun _ => rfl) (fun _ => rfl)) rfl i), rfl, rfl, (ok_upto (fun _ => rfl) (fun _ => rfl)), rfl, rfl, rfl, trivial⟩
     ·
      refine zl ?_
      change AU _ _ _ _ _ _ _ _
      refine au_all [0, 13] (by kernel_rfl) rfl ⟨.inl (ao_py rfl ?_), .inr (.inr (nw_alloc hN rfl rfl rfl rfl rfl rfl rfl ?_)), trivial⟩
      ·
       refine zl ?_
       change AU _ _ _ _ _ _ _ _
       refine au_all [9, 13] (by kernel_rfl) rfl ⟨.inl (ao_py rfl ?_), .inr (.inr (nw_alloc hN rfl rfl rfl rfl rfl rfl rfl ?_)), trivial⟩
       ·
        refine zp (q_call (hJ i j a b w hia hjb hw) rfl rfl rfl) ?_
        change AU _ _ _ _ _ _ _ _
        refine yM 10 ?_; refine yX 11 ?_; refine yX 12 ?_
        refine au_all [13] (by kernel_rfl) rfl ⟨.inr (.inr (nw_alloc hN rfl rfl rfl rfl rfl rfl rfl ?_)), trivial⟩
        change AU _ _ _ _ _ _ _ _
        refine yS 14 ?_; refine yA 15 ?_; refine yD ?_
        exact weak_scrub' rfl (zz4 (zz4 (zz3 trivial))) ⟨rfl, rfl, rfl, rfl, rfl, (ok_set (ok_upto (fun _ => rfl) (fun _ => rfl)) rfl i), rfl, rfl, (ok_upto (fun _ => rfl) (fun _ => rfl)), rfl, rfl, rfl, trivial⟩
       change AU _ _ _ _ _ _ _ _
       refine yP 9 rfl (q_call (hJ i j a b w hia hjb hw) rfl rfl rfl) ?_; refine yM 10 ?_; refine yX 11 ?_; refine yX 12 ?_; refine yS 14 ?_
       refine yA 15 ?_; refine yD ?_
       exact weak_scrub' rfl (zz4 (zz4 (zz3 trivial))) ⟨rfl, rfl, rfl, rfl, rfl, (ok_set (ok_upto (fun _ => rfl) (fun _ => rfl)) rfl i), rfl, rfl, (ok_upto (fun _ => rfl) (fun _ => rfl)), rfl, rfl, rfl, trivial⟩
      change AU _ _ _ _ _ _ _ _
      refine yL 0 ?_; refine yP 9 rfl (q_call (hJ i j a b w hia hjb hw) rfl rfl rfl) ?_; refine yM 10 ?_; refine yX 11 ?_; refine yX 12 ?_
      refine yS 14 ?_; refine yA 15 ?_; refine yD ?_
      exact weak_scrub' rfl (zz4 (zz4 (zz3 trivial))) ⟨rfl, rfl, rfl, rfl, rfl, (ok_set (ok_upto (fun _ => rfl) (fun _ => rfl)) rfl i), rfl, rfl, (ok_upto (fun _ => rfl) (fun _ => rfl)), rfl, rfl, rfl, trivial⟩
     change AU _ _ _ _ _ _ _ _
     refine au_all [0, 4] (by kernel_rfl) rfl ⟨.inl (ao_py rfl ?_), .inl (ao_py rfl ?_), trivial⟩
     ·
      refine zl ?_
      change AU _ _ _ _ _ _ _ _
      refine yL 4 ?_; refine yP 9 rfl (q_call (hJ i j a b w hia hjb hw) rfl rfl rfl) ?_; refine yM 10 ?_; refine yX 11 ?_; refine yX 12 ?_
      refine yS 14 ?_; refine yA 15 ?_; refine yD ?_
      exact weak_scrub' rfl (zz4 (zz4 (zz3 trivial))) ⟨rfl, rfl, rfl, rfl, rfl, (ok_set (ok_upto (fun _ => rfl) (fun _ => rfl)) rfl i), rfl, rfl, (ok_upto (fun _ => rfl) (fun _ => rfl)), rfl, rfl, rfl, trivial⟩
     refine zl ?_
     change AU _ _ _ _ _ _ _ _
     refine yL 0 ?_; refine yP 9 rfl (q_call (hJ i j a b w hia hjb hw) rfl rfl rfl) ?_; refine yM 10 ?_; refine yX 11 ?_; refine yX 12 ?_
     refine yS 14 ?_; refine yA 15 ?_; refine yD ?_
     exact weak_scrub' rfl (zz4 (zz4 (zz3 trivial))) ⟨rfl, rfl, rfl, rfl, rfl, (ok_set (ok_upto (fun _ => rfl) (fun _ => rfl)) rfl i), rfl, rfl, (ok_upto (fun _ => rfl) (fun _ => rfl)), rfl, rfl, rfl, trivial⟩
    change AU _ _ _ _ _ _ _ _
    refine au_all [0, 4, 8] (by kernel_rfl) rfl ⟨.inl (ao_py rfl ?_), .inl (ao_py rfl ?_), .inl (ao_py rfl ?_), trivial⟩
    ·
     refine zl ?_
     change AU _ _ _ _ _ _ _ _
     refine au_all [4, 8] (by kernel_rfl) rfl ⟨.inl (ao_py rfl ?_), .inl (ao_py rfl ?_), trivial⟩
     ·
      refine zl ?_
      change AU _ _ _ _ _ _ _ _
      refine yL 8 ?_; refine yP 9 rfl (q_call (hJ i j a b w hia hjb hw) rfl rfl rfl) ?_; refine yM 10 ?_; refine yX 11 ?_; refine yX 12 ?_
      refine yS 14 ?_; refine yA 15 ?_; refine yD ?_
      exact weak_scrub' rfl (zz4 (zz4 (zz3 trivial))) ⟨rfl, rfl, rfl, rfl, rfl, (ok_set (ok_upto (fun _ => rfl) (fun _ => rfl)) rfl i), rfl, rfl, (ok_upto (fun _ => rfl) (fun _ => rfl)), rfl, rfl, rfl, trivial⟩
     refine zl ?_
     change AU _ _ _ _ _ _ _ _
     refine yL 4 ?_; refine yP 9 rfl (q_call (hJ i j a b w hia hjb hw) rfl rfl rfl) ?_; refine yM 10 ?_; refine yX 11 ?_; refine yX 12 ?_
     refine yS 14 ?_; refine yA 15 ?_; refine yD ?_
     exact weak_scrub' rfl (zz4 (zz4 (zz3 trivial))) ⟨rfl, rfl, rfl, rfl, rfl, (ok_set (ok_upto (fun _ => rfl) (fun _ => rfl)) rfl i), rfl, rfl, (ok_upto (fun _ => rfl) (fun _ => rfl)), rfl, rfl, rfl, trivial⟩
    ·
     refine zl ?_
     change AU _ _ _ _ _ _ _ _
     refine au_all [0, 8] (by kernel_rfl) rfl ⟨.inl (ao_py rfl ?_), .inl (ao_py rfl ?_), trivial⟩
     ·
      refine zl ?_
      change AU _ _ _ _ _ _ _ _
      refine yL 8 ?_; refine yP 9 rfl (q_call (hJ i j a b w hia hjb hw) rfl rfl rfl) ?_; refine yM 10 ?_; refine yX 11 ?_; refine yX 12 ?_
      refine yS 14 ?_; refine yA 15 ?_; refine yD ?_
      exact weak_scrub' rfl (zz4 (zz4 (zz3 trivial))) ⟨rfl, rfl, rfl, rfl, rfl, (ok_set (ok_upto (fun _ => rfl) (fun _ => rfl)) rfl i), rfl, rfl, (ok_upto (fun _ => rfl) (fun _ => rfl)), rfl, rfl, rfl, trivial⟩
     refine zl ?_
     change AU _ _ _ _ _ _ _ _
     refine yL 0 ?_; refine yP 9 rfl (q_call (hJ i j a b w hia hjb hw) rfl rfl rfl) ?_; refine yM 10 ?_; refine yX 11 ?_; refine yX 12 ?_
     refine yS 14 ?_; refine yA 15 ?_; refine yD ?_
     exact weak_scrub' rfl (zz4 (zz4 (zz3 trivial))) ⟨rfl, rfl, rfl, rfl, rfl, (ok_set (ok_upto (fun _ => rfl) (fun _ => rfl)) rfl i), rfl, rfl, (ok_upto (fun _ => rfl) (fun _ => rfl)), rfl, rfl, rfl, trivial⟩
    refine zl ?_
    change AU _ _ _ _ _ _ _ _
    refine au_all [0, 4] (by kernel_rfl) rfl ⟨.inl (ao_py rfl ?_), .inl (ao_py rfl ?_), trivial⟩
    ·
     refine zl ?_
     change AU _ _ _ _ _ _ _ _
     refine yL 4 ?_; refine yP 9 rfl (q_call (hJ i j a b w hia hjb hw) rfl rfl rfl) ?_; refine yM 10 ?_; refine yX 11 ?_; refine yX 12 ?_
     refine yS 14 ?_; refine yA 15 ?_; refine yD ?_
     exact weak_scrub' rfl (zz4 (zz4 (zz3 trivial))) ⟨rfl, rfl, rfl, rfl, rfl, (ok_set (ok_upto (fun _ => rfl) (fun _ => rfl)) rfl i), rfl, rfl, (ok_upto (fun _ => rfl) (fun _ => rfl)), rfl, rfl, rfl, trivial⟩
    refine zl ?_
    change AU _ _ _ _ _ _ _ _
    refine yL 0 ?_; refine yP 9 rfl (q_call (hJ i j a b w hia hjb hw) rfl rfl rfl) ?_; refine yM 10 ?_; refine yX 11 ?_; refine yX 12 ?_
    refine yS 14 ?_; refine yA 15 ?_; refine yD ?_
    exact weak_scrub' rfl (zz4 (zz4 (zz3 trivial))) ⟨rfl, rfl, rfl, rfl, rfl, (ok_set (ok_upto (fun _ => rfl) (fun _ => rfl)) rfl i), rfl, rfl, (ok_upto (fun _ => rfl) (fun _ => rfl)), rfl, rfl, rfl, trivial⟩
   refine rn6 ?_; refine c_false rfl rfl ?_; refine zW ?_; refine awp_takeN 13 rfl (by kernel_rfl) (by kernel_rfl) (fun _ _ h => h) ?_; refine yM 0 ?_
   refine yM 1 ?_; refine yM 4 ?_; refine yM 5 ?_
   refine au_all [2, 6] (by kernel_rfl) rfl ⟨.inl (ao_py rfl ?_), .inl (ao_py rfl ?_), trivial⟩
   ·
    refine zp (q_eown rfl rfl rfl rfl len_two i rfl lti) ?_
    change AU _ _ _ _ _ _ _ _
    refine au_all [3, 6] (by kernel_rfl) rfl ⟨.inl (ao_py rfl ?_), .inl (ao_py rfl ?_), trivial⟩
    ·
     refine zp (q_loadO rfl rfl rfl len_two (one_two (fun _ => rfl) (fun _ => rfl) rfl) i rfl (set_at lti) (fun _ => rfl) rfl) ?_
     change AU _ _ _ _ _ _ _ _
     refine yL 6 ?_; refine yP 7 rfl (q_call (bsearch_fc l (f i j) w hw hs (by omega)) rfl rfl rfl) ?_; refine yM 8 ?_; refine yX 9 ?_; refine yX 10 ?_
     refine yP 11 rfl (q_eown rfl rfl rfl rfl upto_len.symm j rfl ltj) ?_
     refine au_all [12] (by kernel_rfl) rfl ⟨.inr (.inl (ao_storeO rfl rfl rfl rfl upto_len.symm j rfl (by rw [upto_len]; exact ltj) rfl rfl rfl rfl (one_upto (fun _ => rfl) (fun _ => rfl)) rfl rfl rfl rfl ?_)), trivial⟩
     change AU _ _ _ _ _ _ _ _
     refine yD ?_; change AWP _ _ _ _  _; refine rn1 ?_; refine zP (q_addi rfl rfl rfl (by omega)) ?_; refine zM ?_; refine aops_nil ?_
     exact ⟨⟨j + 1, ltj, trivial⟩, weak_scrub' rfl (zz4 (zz3 ⟨(cgI (by dsimp only; omega)), rfl, trivial⟩)) ⟨rfl, rfl, rfl, rfl, rfl, (ok_set (ok_upto (fun _ => rfl) (fun _ => rfl)) rfl i), (cgA (by first | exact upto_set ltj | rw [← upto_set ltj]; rfl)), rfl, (ok_upto (fun _ => rfl) (fun _ => rfl)), trivial⟩, by dsimp only; omega⟩
    refine zl ?_
    change AU _ _ _ _ _ _ _ _
    refine au_all [3, 7] (by kernel_rfl) rfl ⟨.inl (ao_py rfl ?_), .inl (ao_py rfl ?_), trivial⟩
    ·
     refine zp (q_loadO rfl rfl rfl len_two (one_two (fun _ => rfl) (fun _ => rfl) rfl) i rfl (set_at lti) (fun _ => rfl) rfl) ?_
     change AU _ _ _ _ _ _ _ _
     refine yP 7 rfl (q_call (bsearch_fc l (f i j) w hw hs (by omega)) rfl rfl rfl) ?_; refine yM 8 ?_; refine yX 9 ?_; refine yX 10 ?_
     refine yP 11 rfl (q_eown rfl rfl rfl rfl upto_len.symm j rfl ltj) ?_
     refine au_all [12] (by kernel_rfl) rfl ⟨.inr (.inl (ao_storeO rfl rfl rfl rfl upto_len.symm j rfl (by rw [upto_len]; exact ltj) rfl rfl rfl rfl (one_upto (fun _ => rfl) (fun _ => rfl)) rfl rfl rfl rfl ?_)), trivial⟩
     change AU _ _ _ _ _ _ _ _
     refine yD ?_; change AWP _ _ _ _  _; refine rn1 ?_; refine zP (q_addi rfl rfl rfl (by omega)) ?_; refine zM ?_; refine aops_nil ?_
     exact ⟨⟨j + 1, ltj, trivial⟩, weak_scrub' rfl (zz4 (zz3 ⟨(cgI (by dsimp only; omega)), rfl, trivial⟩)) ⟨rfl, rfl, rfl, rfl, rfl, (ok_set (ok_upto (fun _ => rfl) (fun _ => rfl)) rfl i), (cgA (by first | exact upto_set ltj | rw [← upto_set ltj]; rfl)), rfl, (ok_upto (fun _ => rfl) (fun _ => rfl)), trivial⟩, by dsimp only; omega⟩
    refine zp (q_call (bsearch_fc l (f i j) w hw hs (by omega)) rfl rfl rfl) ?_
    change AU _ _ _ _ _ _ _ _
    refine yM 8 ?_; refine yX 9 ?_; refine yX 10 ?_
    refine yP 3 rfl (q_loadO rfl rfl rfl len_two (one_two (fun _ => rfl) (fun _ => rfl) rfl) i rfl (set_at lti) (fun _ => rfl) rfl) ?_
    refine yP 11 rfl (q_eown rfl rfl rfl rfl upto_len.symm j rfl ltj) ?_
    refine au_all [12] (by kernel_rfl) rfl ⟨.inr (.inl (ao_storeO rfl rfl rfl rfl upto_len.symm j rfl (by rw [upto_len]; exact ltj) rfl rfl rfl rfl (one_upto (fun _ => rfl) (fun _ => rfl)) rfl rfl rfl rfl ?_)), trivial⟩
    change AU _ _ _ _ _ _ _ _
    refine yD ?_; change AWP _ _ _ _  _; refine rn1 ?_; refine zP (q_addi rfl rfl rfl (by omega)) ?_; refine zM ?_; refine aops_nil ?_
    exact ⟨⟨j + 1, ltj, trivial⟩, weak_scrub' rfl (zz4 (zz3 ⟨(cgI (by dsimp only; omega)), rfl, trivial⟩)) ⟨rfl, rfl, rfl, rfl, rfl, (ok_set (ok_upto (fun _ => rfl) (fun _ => rfl)) rfl i), (cgA (by first | exact upto_set ltj | rw [← upto_set ltj]; rfl)), rfl, (ok_upto (fun _ => rfl) (fun _ => rfl)), trivial⟩, by dsimp only; omega⟩
   refine zl ?_
   change AU _ _ _ _ _ _ _ _
   refine au_all [2, 7] (by kernel_rfl) rfl ⟨.inl (ao_py rfl ?_), .inl (ao_py rfl ?_), trivial⟩
   ·
    refine zp (q_eown rfl rfl rfl rfl len_two i rfl lti) ?_
    change AU _ _ _ _ _ _ _ _
    refine au_all [3, 7] (by kernel_rfl) rfl ⟨.inl (ao_py rfl ?_), .inl (ao_py rfl ?_), trivial⟩
    ·
     refine zp (q_loadO rfl rfl rfl len_two (one_two (fun _ => rfl) (fun _ => rfl) rfl) i rfl (set_at lti) (fun _ => rfl) rfl) ?_
     change AU _ _ _ _ _ _ _ _
     refine yP 7 rfl (q_call (bsearch_fc l (f i j) w hw hs (by omega)) rfl rfl rfl) ?_; refine yM 8 ?_; refine yX 9 ?_; refine yX 10 ?_
     refine yP 11 rfl (q_eown rfl rfl rfl rfl upto_len.symm j rfl ltj) ?_
     refine au_all [12] (by kernel_rfl) rfl ⟨.inr (.inl (ao_storeO rfl rfl rfl rfl upto_len.symm j rfl (by rw [upto_len]; exact ltj) rfl rfl rfl rfl (one_upto (fun _ => rfl) (fun _ => rfl)) rfl rfl rfl rfl ?_)), trivial⟩
     change AU _ _ _ _ _ _ _ _
     refine yD ?_; change AWP _ _ _ _  _; refine rn1 ?_; refine zP (q_addi rfl rfl rfl (by omega)) ?_; refine zM ?_; refine aops_nil ?_
     exact ⟨⟨j + 1, ltj, trivial⟩, weak_scrub' rfl (zz4 (zz3 ⟨(cgI (by dsimp only; omega)), rfl, trivial⟩)) ⟨rfl, rfl, rfl, rfl, rfl, (ok_set (ok_upto (fun _ => rfl) (fun _ => rfl)) rfl i), (cgA (by first | exact upto_set ltj | rw [← upto_set ltj]; rfl)), rfl, (ok_upto (fun _ => rfl) (fun _ => rfl)), trivial⟩, by dsimp only; omega⟩
    refine zp (q_call (bsearch_fc l (f i j) w hw hs (by omega)) rfl rfl rfl) ?_
    change AU _ _ _ _ _ _ _ _
    refine yM 8 ?_; refine yX 9 ?_; refine yX 10 ?_
    refine yP 3 rfl (q_loadO rfl rfl rfl len_two (one_two (fun _ => rfl) (fun _ => rfl) rfl) i rfl (set_at lti) (fun _ => rfl) rfl) ?_
    refine yP 11 rfl (q_eown rfl rfl rfl rfl upto_len.symm j rfl ltj) ?_
    refine au_all [12] (by kernel_rfl) rfl ⟨.inr (.inl (ao_storeO rfl rfl rfl rfl upto_len.symm j rfl (by rw [upto_len]; exact ltj) rfl rfl rfl rfl (one_upto (fun _ => rfl) (fun _ => rfl)) rfl rfl rfl rfl ?_)), trivial⟩
    change AU _ _ _ _ _ _ _ _
    refine yD ?_; change AWP _ _ _ _  _; refine rn1 ?_; refine zP (q_addi rfl rfl rfl (by omega)) ?_; refine zM ?_; refine aops_nil ?_
    exact ⟨⟨j + 1, ltj, trivial⟩, weak_scrub' rfl (zz4 (zz3 ⟨(cgI (by dsimp only; omega)), rfl, trivial⟩)) ⟨rfl, rfl, rfl, rfl, rfl, (ok_set (ok_upto (fun _ => rfl) (fun _ => rfl)) rfl i), (cgA (by first | exact upto_set ltj | rw [← upto_set ltj]; rfl)), rfl, (ok_upto (fun _ => rfl) (fun _ => rfl)), trivial⟩, by dsimp only; omega⟩
   refine zp (q_call (bsearch_fc l (f i j) w hw hs (by omega)) rfl rfl rfl) ?_
   change AU _ _ _ _ _ _ _ _
   refine yM 8 ?_; refine yX 9 ?_; refine yX 10 ?_; refine yP 2 rfl (q_eown rfl rfl rfl rfl len_two i rfl lti) ?_
   refine yP 3 rfl (q_loadO rfl rfl rfl len_two (one_two (fun _ => rfl) (fun _ => rfl) rfl) i rfl (set_at lti) (fun _ => rfl) rfl) ?_
   refine yP 11 rfl (q_eown rfl rfl rfl rfl upto_len.symm j rfl ltj) ?_
   refine au_all [12] (by kernel_rfl) rfl ⟨.inr (.inl (ao_storeO rfl rfl rfl rfl upto_len.symm j rfl (by rw [upto_len]; exact ltj) rfl rfl rfl rfl (one_upto (fun _ => rfl) (fun _ => rfl)) rfl rfl rfl rfl ?_)), trivial⟩
   change AU _ _ _ _ _ _ _ _
   refine yD ?_; change AWP _ _ _ _  _; refine rn1 ?_; refine zP (q_addi rfl rfl rfl (by omega)) ?_; refine zM ?_; refine aops_nil ?_
   exact ⟨⟨j + 1, ltj, trivial⟩, weak_scrub' rfl (zz4 (zz3 ⟨(cgI (by dsimp only; omega)), rfl, trivial⟩)) ⟨rfl, rfl, rfl, rfl, rfl, (ok_set (ok_upto (fun _ => rfl) (fun _ => rfl)) rfl i), (cgA (by first | exact upto_set ltj | rw [← upto_set ltj]; rfl)), rfl, (ok_upto (fun _ => rfl) (fun _ => rfl)), trivial⟩, by dsimp only; omega⟩
  have gej : n ≤ j := by have := of_decide_eq_false h30; omega
  obtain rfl : n = j := by omega
  refine rn1 ?_
  refine awp_weak (weak_frowa 1 i 2 rfl (by exact set_at lti) (by exact cgA (tEl_row n f i)) rfl (by simp [rowL]) (okE_map (fun _ => rfl) _) (fz_map (fun _ => rfl) _) rfl rfl) ?_
  refine rn1 ?_; refine zP (q_addi rfl rfl rfl (by omega)) ?_; refine zM ?_; refine aops_nil ?_
  exact ⟨⟨i + 1, lti, trivial⟩, weak_scrub' rfl (zz4 ⟨(cgI (by dsimp only; omega)), rfl, trivial⟩) ⟨rfl, rfl, rfl, (cgA (set_two lti rfl)), rfl, (ok_upto (fun _ => rfl) (fun _ => rfl)), trivial⟩, by dsimp only; omega⟩
 have gei : n ≤ i := by have := of_decide_eq_false h16; omega
 obtain rfl : n = i := by omega
 refine rn7 ?_
 refine awp_weak (weak_frow 2 1 rfl (es := (List.range n).map (tRow n f)) (by exact cgA (upto_full (Nat.le_refl _))) (by simp) (okE_map (fun _ => rfl) _) (fz_map (fun _ => rfl) _) rfl) ?_
 refine zR ?_
 show AV.tup [AV.sl ((List.range n).map (tRow n f)) none, i64 0] = AV.tup [AV.sl (((List.range n).map (rowL n f)).map row1) none, i64 0]
 rw [List.map_map]; rfl
theorem dtable_fc : FC Tryz.prog 23 [.agg (latL dl)] (.tup [tabs (tab 4 dia), i64 0]) := table_fc dl dv 4 dia rfl (by decide) dia_tab.lt values_fc dv_strict (fun i j a b w ha hb hw => dJoin_fc ha hb hw)
theorem dindex_fc (k : Nat) (v : Val) (hk : dv[k]? = some v) : FC Tryz.prog 15 [.agg (latL dl), .agg (valL v)] (.tup [i64 (k : Nat), i64 0]) := findex_fc dl dv values_fc dv_strict (by decide) k v hk
end Go.Proofs.YtaecccdkjmipeaaGreat
