/-
  Contracts: finite.maps with too many maps (seat r5).
  Contracts: value.IsBottom, finite.all at Map (seat r5).
-/
import Derived.Test.YtaecccdkjmipeaaGreatF14
import Derived.Test.YtaecccdkjmipeaaGreatB13
namespace Go.Proofs.YtaecccdkjmipeaaGreat
open Go.RowKit
set_option maxRecDepth 100000 in
set_option maxHeartbeats 1000000 in
theorem mapsN_fc (names : List Nm) (L : List Val) (i0 : Nat) (hi0 : i0 < names.length) (h64 : names.length ≤ 64) (hL : L.length ≤ 256) (h256 : ∀ i, i ≤ i0 → (mapsV (names.take i) L).length ≤ 256) (hbig : 256 < (mapsV (names.take (i0 + 1)) L).length) : FC Tryz.prog 77 [svs names, vals L] (.tup [.sl [] none, bl false]) := by
 refine fc_of_awp [4, 5] Tryz.func77 rfl rfl 62 Tryz.ntmps77 (Nat.le_of_ble_eq_true rfl) ?_
 intro E hN
 refine a_lm 0 rfl (fun hl0 => ?_)
 refine rn8 ?_; refine zP (q_bslice rfl rfl rfl rfl (by exact rfl) (by decide) (by decide)) ?_; refine rn10 ?_
 refine awp_loop (fun x : {i : Nat // i ≤ i0 ∧ True} => ⟨[(1, vals L), (16, svs names), (17, i64 names.length), (18, i64 (x.1 : Nat)), (6, vals (mapsV (names.take x.1) L))], [], 0⟩) (fun x => i0 - x.1) (⟨0, Nat.zero_le _, by trivial⟩) ?_ ?_
 ·
  exact weak_scrub' rfl (zz2 ⟨(cgI (by simp)), rfl, rfl, rfl, start_m, rfl, trivial⟩) trivial
 rintro ⟨i, hi, gi⟩
 dsimp only
 refine rn5 ?_
 refine zq ?_ ?_ <;> intro h11
 ·
  obtain ⟨key, hik⟩ := get_lt (show i < names.length by omega)
  have hc256 := h256 i hi
  refine rn5 ?_; refine zP (q_elem rfl rfl rfl i rfl _ (map_get hik) rfl) ?_; refine rn15 ?_; refine awp_weak (weak_own rfl 9 30 4 rfl) ?_
  refine awp_loop (fun x : {k : Nat // k ≤ (mapsV (names.take i) L).length ∧ (doneM key (mapsV (names.take i) L) L k).length ≤ 256} => ⟨[(1, vals L), (16, svs names), (17, i64 names.length), (18, i64 (i : Nat)), (8, sv key), (22, vals (mapsV (names.take i) L)), (23, i64 (mapsV (names.take i) L).length), (24, i64 (x.1 : Nat)), (9, .own 0 (doneM key (mapsV (names.take i) L) L x.1).length)], [(0, .arr 30 4 ((doneM key (mapsV (names.take i) L) L x.1).map valC))], 1⟩) (fun x => (mapsV (names.take i) L).length - x.1) (⟨0, Nat.zero_le _, by simp [doneM]⟩) ?_ ?_
  ·
   exact weak_scrub' rfl (zz4 (zz2 ⟨(cgI (by simp)), rfl, (zz2 trivial)⟩)) ⟨rfl, rfl, (ok_vals _), trivial⟩
  rintro ⟨k, hk, gk⟩
  dsimp only
  refine rn5 ?_
  refine zq ?_ ?_ <;> intro h24
  ·
   have ltk : k < (mapsV (names.take i) L).length := by simpa using h24
   obtain ⟨v, hkv⟩ := get_lt ltk
   have hvp := mapsV_nm _ v (List.mem_of_getElem? hkv)
   rw [List.length_take] at hvp
   have hdk := doneM_len (key := key) (out := (mapsV (names.take i) L)) (L := L) (show k ≤ (mapsV (names.take i) L).length by omega)
   refine rn5 ?_; refine zP (q_elem rfl rfl rfl k rfl _ (val_get hkv) rfl) ?_; refine rn5 ?_; refine awp_weak (weak_freeze 11 1 rfl rfl rfl rfl) ?_
   refine rn3 ?_; refine zP (q_bslice rfl rfl rfl rfl (by exact rfl) (by decide) (by decide)) ?_
   refine s_append_own hN rfl rfl rfl (by simp) rfl rfl (by rfl) (by rw [List.length_map]; simp [chunkA]; omega) rfl rfl rfl rfl ?_
   refine rn10 ?_
   refine awp_loop (fun x : {j : Nat // j ≤ L.length ∧ True} => ⟨[(1, vals L), (16, svs names), (17, i64 names.length), (18, i64 (i : Nat)), (8, sv key), (22, vals (mapsV (names.take i) L)), (23, i64 (mapsV (names.take i) L).length), (24, i64 (k : Nat)), (9, .own 0 (doneMj key (mapsV (names.take i) L) L k v x.1).length), (11, .el (valL v)), (32, vals L), (33, i64 L.length), (34, i64 (x.1 : Nat))], [(0, .arr 30 4 ((doneMj key (mapsV (names.take i) L) L k v x.1).map valC))], 2⟩) (fun x => L.length - x.1) (⟨0, Nat.zero_le _, by trivial⟩) ?_ ?_
   ·
    exact weak_scrub' rfl (zz4 (zz4 ⟨(cgO (by simp [doneMj, chunkA])), rfl, (zz2 ⟨(cgI (by simp)), rfl, (zz1 trivial)⟩)⟩)) ⟨(cgA (by rw [doneMj, List.map_append, List.take_zero, List.map_nil, List.map_cons, valC_eq v]; rfl)), rfl, (ok_vals _), trivial⟩
   rintro ⟨j, hj, gj⟩
   dsimp only
   refine rn5 ?_
   refine zq ?_ ?_ <;> intro h46
   ·
    have ltj : j < L.length := by simpa using h46
    obtain ⟨q, hjq⟩ := get_lt ltj
    have hdl := doneMj_len (key := key) (out := (mapsV (names.take i) L)) (L := L) (v := v) (show k ≤ (mapsV (names.take i) L).length by omega) (show j ≤ L.length by omega)
    refine rn5 ?_; refine zP (q_elem rfl rfl rfl j rfl _ (val_get hjq) rfl) ?_; refine rn4 ?_; refine awp_weak (weak_freeze 13 2 rfl rfl rfl rfl) ?_
    refine awp_takeF hN 17 rfl (by kernel_rfl) (by kernel_rfl) (fun _ _ h => h) (fun E2 hN2 => ?_)
    refine af_take 0 rfl (by kernel_rfl) (by kernel_rfl) rfl ((wi_move hN2 rfl rfl rfl rfl rfl rfl).wf) ?_
    refine af_take 1 rfl (by kernel_rfl) (by kernel_rfl) rfl ((wi_fieldAddr hN2 rfl rfl rfl rfl rfl rfl rfl rfl).wf) ?_
    refine af_take 2 rfl (by kernel_rfl) (by kernel_rfl) rfl (wf_load hN2 rfl rfl rfl rfl rfl rfl rfl rfl) ?_
    refine af_take 4 rfl (by kernel_rfl) (by kernel_rfl) rfl ((wi_move hN2 rfl rfl rfl rfl rfl rfl).wf) ?_
    refine af_take 7 rfl (by kernel_rfl) (by kernel_rfl) rfl ((wi_fieldAddr hN2 rfl rfl rfl rfl rfl rfl rfl rfl).wf) ?_
    refine af_take 8 rfl (by kernel_rfl) (by kernel_rfl) rfl (wf_load hN2 rfl rfl rfl rfl rfl rfl rfl rfl) ?_
    refine af_take 10 rfl (by kernel_rfl) (by kernel_rfl) rfl (wf_load hN2 rfl rfl rfl rfl rfl rfl rfl rfl) ?_; refine af_rest ?_
    refine au_all [3, 5, 11] (by kernel_rfl) rfl ⟨.inr (.inr (nw_ocall hN2 rfl rfl (clone_fo v.nm (by omega)) (.fn _ _ _ _ rfl rfl) rfl rfl rfl rfl rfl ?_)), .inl (ao_py rfl ?_), .inl (ao_py rfl ?_), trivial⟩
    ·
     change AU _ _ _ _ _ _ _ _
     refine au_all [5, 11] (by kernel_rfl) rfl ⟨.inl (ao_py rfl ?_), .inl (ao_py rfl ?_), trivial⟩
     ·
      refine d_py hN2 (q_bslice rfl rfl rfl rfl (by exact rfl) (by decide) (by decide)) rfl rfl rfl rfl ?_
      change AU _ _ _ _ _ _ _ _
      refine au_all [6, 11] (by kernel_rfl) rfl ⟨.inr (.inr (nw_append_own hN2 rfl rfl rfl rfl (by simp) rfl rfl (by rfl) (by simp [chunkA]; omega) rfl rfl rfl rfl ?_)), .inl (ao_py rfl ?_), trivial⟩
      ·
       change AU _ _ _ _ _ _ _ _
       refine au_all [9, 11] (by kernel_rfl) rfl ⟨.inr (.inr (nw_ocall hN2 rfl rfl (cloneVa_fo v.ps (by omega)) (.fn _ _ _ _ rfl rfl) rfl rfl rfl rfl rfl ?_)), .inl (ao_py rfl ?_), trivial⟩
       ·
        change AU _ _ _ _ _ _ _ _
        refine au_all [11] (by kernel_rfl) rfl ⟨.inl (ao_py rfl ?_), trivial⟩
        refine d_py hN2 (q_bslice rfl rfl rfl rfl (by exact rfl) (by decide) (by decide)) rfl rfl rfl rfl ?_
        change AU _ _ _ _ _ _ _ _
        refine au_all [12] (by kernel_rfl) rfl ⟨.inr (.inr (nw_append_own hN2 rfl rfl rfl rfl (by simp) rfl rfl (by rfl) (by simp [chunkA]; omega) rfl rfl rfl rfl ?_)), trivial⟩
        change AU _ _ _ _ _ _ _ _
        refine au_all [13] (by kernel_rfl) rfl ⟨.inr (.inr (nw_weak hN2 rfl rfl rfl rfl rfl (weak_frow2 44 3 50 4 rfl rfl rfl rfl (by decide) (by decide) (by simp) (okE_app (okE_map (fun _ => rfl) _) (by rfl)) (fz_app (fz_map (fun _ => rfl) _) (by intro e he; simp [chunkA] at he; subst he; rfl)) (by simp) (okE_app (okE_vals _) (by rfl)) (fz_app (fzs_vals _) (by intro e he; simp [chunkA] at he; subst he; rfl)) rfl) (q_build rfl rfl rfl) ?_)), trivial⟩
        change AU _ _ _ _ _ _ _ _
        refine au_all [14] (by kernel_rfl) rfl ⟨.inl (ao_py rfl ?_), trivial⟩
        refine d_py hN2 (q_bslice rfl rfl rfl rfl (by exact rfl) (by decide) (by decide)) rfl rfl rfl rfl ?_
        change AU _ _ _ _ _ _ _ _
        refine au_all [15] (by kernel_rfl) rfl ⟨.inr (.inr (nw_append_own hN2 rfl rfl rfl rfl (by simp) rfl rfl (by rfl) (by rw [List.length_map, hdl]; simp [chunkA]; omega) rfl rfl rfl rfl ?_)), trivial⟩
        change AU _ _ _ _ _ _ _ _
        refine au_take 16 rfl (by kernel_rfl) (by kernel_rfl) rfl (wi_assign hN2 rfl rfl rfl rfl rfl rfl) ?_; refine yD ?_; change AWP _ _ _ _  _
        refine rn1 ?_; refine zP (q_addi rfl rfl rfl (by omega)) ?_; refine zM ?_; refine aops_nil ?_
        exact ⟨⟨j + 1, ltj, trivial⟩, weak_scrub' rfl (zz4 (zz4 ⟨(cgO (by rw [doneMj_succ hjq]; simp [chunkA])), rfl, (zz3 ⟨(cgI (by dsimp only; omega)), rfl, trivial⟩)⟩)) ⟨(cgA (by rw [doneMj_succ hjq, List.map_append, List.map_cons, List.map_nil, ← map_cells]; rfl)), rfl, (ok_vals _), trivial⟩, by dsimp only; omega⟩
       refine d_py hN2 (q_bslice rfl rfl rfl rfl (by exact rfl) (by decide) (by decide)) rfl rfl rfl rfl ?_
       change AU _ _ _ _ _ _ _ _
       refine au_all [9] (by kernel_rfl) rfl ⟨.inr (.inr (nw_ocall hN2 rfl rfl (cloneVa_fo v.ps (by omega)) (.fn _ _ _ _ rfl rfl) rfl rfl rfl rfl rfl ?_)), trivial⟩
       change AU _ _ _ _ _ _ _ _
       refine au_all [12] (by kernel_rfl) rfl ⟨.inr (.inr (nw_append_own hN2 rfl rfl rfl rfl (by simp) rfl rfl (by rfl) (by simp [chunkA]; omega) rfl rfl rfl rfl ?_)), trivial⟩
       change AU _ _ _ _ _ _ _ _
       refine au_all [13] (by kernel_rfl) rfl ⟨.inr (.inr (nw_weak hN2 rfl rfl rfl rfl rfl (weak_frow2 44 3 50 4 rfl rfl rfl rfl (by decide) (by decide) (by simp) (okE_app (okE_map (fun _ => rfl) _) (by rfl)) (fz_app (fz_map (fun _ => rfl) _) (by intro e he; simp [chunkA] at he; subst he; rfl)) (by simp) (okE_app (okE_vals _) (by rfl)) (fz_app (fzs_vals _) (by intro e he; simp [chunkA] at he; subst he; rfl)) rfl) (q_build rfl rfl rfl) ?_)), trivial⟩
       change AU _ _ _ _ _ _ _ _
       refine au_all [14] (by kernel_rfl) rfl ⟨.inl (ao_py rfl ?_), trivial⟩
       refine d_py hN2 (q_bslice rfl rfl rfl rfl (by exact rfl) (by decide) (by decide)) rfl rfl rfl rfl ?_
       change AU _ _ _ _ _ _ _ _
       refine au_all [15] (by kernel_rfl) rfl ⟨.inr (.inr (nw_append_own hN2 rfl rfl rfl rfl (by simp) rfl rfl (by rfl) (by rw [List.length_map, hdl]; simp [chunkA]; omega) rfl rfl rfl rfl ?_)), trivial⟩
       change AU _ _ _ _ _ _ _ _
       refine au_take 16 rfl (by kernel_rfl) (by kernel_rfl) rfl (wi_assign hN2 rfl rfl rfl rfl rfl rfl) ?_; refine yD ?_; change AWP _ _ _ _  _
       refine rn1 ?_; refine zP (q_addi rfl rfl rfl (by omega)) ?_; refine zM ?_; refine aops_nil ?_
       exact ⟨⟨j + 1, ltj, trivial⟩, weak_scrub' rfl (zz4 (zz4 ⟨(cgO (by rw [doneMj_succ hjq]; simp [chunkA])), rfl, (zz3 ⟨(cgI (by dsimp only; omega)), rfl, trivial⟩)⟩)) ⟨(cgA (by rw [doneMj_succ hjq, List.map_append, List.map_cons, List.map_nil, ← map_cells]; rfl)), rfl, (ok_vals _), trivial⟩, by dsimp only; omega⟩
      refine d_py hN2 (q_bslice rfl rfl rfl rfl (by exact rfl) (by decide) (by decide)) rfl rfl rfl rfl ?_
      change AU _ _ _ _ _ _ _ _
      refine au_all [6] (by kernel_rfl) rfl ⟨.inr (.inr (nw_append_own hN2 rfl rfl rfl rfl (by simp) rfl rfl (by rfl) (by simp [chunkA]; omega) rfl rfl rfl rfl ?_)), trivial⟩
      change AU _ _ _ _ _ _ _ _
      refine au_all [9] (by kernel_rfl) rfl ⟨.inr (.inr (nw_ocall hN2 rfl rfl (cloneVa_fo v.ps (by omega)) (.fn _ _ _ _ rfl rfl) rfl rfl rfl rfl rfl ?_)), trivial⟩
      change AU _ _ _ _ _ _ _ _
      refine au_all [12] (by kernel_rfl) rfl ⟨.inr (.inr (nw_append_own hN2 rfl rfl rfl rfl (by simp) rfl rfl (by rfl) (by simp [chunkA]; omega) rfl rfl rfl rfl ?_)), trivial⟩
      change AU _ _ _ _ _ _ _ _
      refine au_all [13] (by kernel_rfl) rfl ⟨.inr (.inr (nw_weak hN2 rfl rfl rfl rfl rfl (weak_frow2 44 3 50 4 rfl rfl rfl rfl (by decide) (by decide) (by simp) (okE_app (okE_map (fun _ => rfl) _) (by rfl)) (fz_app (fz_map (fun _ => rfl) _) (by intro e he; simp [chunkA] at he; subst he; rfl)) (by simp) (okE_app (okE_vals _) (by rfl)) (fz_app (fzs_vals _) (by intro e he; simp [chunkA] at he; subst he; rfl)) rfl) (q_build rfl rfl rfl) ?_)), trivial⟩
      change AU _ _ _ _ _ _ _ _
      refine au_all [14] (by kernel_rfl) rfl ⟨.inl (ao_py rfl ?_), trivial⟩
      refine d_py hN2 (q_bslice rfl rfl rfl rfl (by exact rfl) (by decide) (by decide)) rfl rfl rfl rfl ?_
      change AU _ _ _ _ _ _ _ _
      refine au_all [15] (by kernel_rfl) rfl ⟨.inr (.inr (nw_append_own hN2 rfl rfl rfl rfl (by simp) rfl rfl (by rfl) (by rw [List.length_map, hdl]; simp [chunkA]; omega) rfl rfl rfl rfl ?_)), trivial⟩
      change AU _ _ _ _ _ _ _ _
      refine au_take 16 rfl (by kernel_rfl) (by kernel_rfl) rfl (wi_assign hN2 rfl rfl rfl rfl rfl rfl) ?_; refine yD ?_; change AWP _ _ _ _  _
      refine rn1 ?_; refine zP (q_addi rfl rfl rfl (by omega)) ?_; refine zM ?_; refine aops_nil ?_
      exact ⟨⟨j + 1, ltj, trivial⟩, weak_scrub' rfl (zz4 (zz4 ⟨(cgO (by rw [doneMj_succ hjq]; simp [chunkA])), rfl, (zz3 ⟨(cgI (by dsimp only; omega)), rfl, trivial⟩)⟩)) ⟨(cgA (by rw [doneMj_succ hjq, List.map_append, List.map_cons, List.map_nil, ← map_cells]; rfl)), rfl, (ok_vals _), trivial⟩, by dsimp only; omega⟩
     refine d_py hN2 (q_bslice rfl rfl rfl rfl (by exact rfl) (by decide) (by decide)) rfl rfl rfl rfl ?_
     change AU _ _ _ _ _ _ _ _
     refine au_all [5] (by kernel_rfl) rfl ⟨.inl (ao_py rfl ?_), trivial⟩
     refine d_py hN2 (q_bslice rfl rfl rfl rfl (by exact rfl) (by decide) (by decide)) rfl rfl rfl rfl ?_
     change AU _ _ _ _ _ _ _ _
     refine au_all [6] (by kernel_rfl) rfl ⟨.inr (.inr (nw_append_own hN2 rfl rfl rfl rfl (by simp) rfl rfl (by rfl) (by simp [chunkA]; omega) rfl rfl rfl rfl ?_)), trivial⟩
     change AU _ _ _ _ _ _ _ _
     refine au_all [9] (by kernel_rfl) rfl ⟨.inr (.inr (nw_ocall hN2 rfl rfl (cloneVa_fo v.ps (by omega)) (.fn _ _ _ _ rfl rfl) rfl rfl rfl rfl rfl ?_)), trivial⟩
     change AU _ _ _ _ _ _ _ _
     refine au_all [12] (by kernel_rfl) rfl ⟨.inr (.inr (nw_append_own hN2 rfl rfl rfl rfl (by simp) rfl rfl (by rfl) (by simp [chunkA]; omega) rfl rfl rfl rfl ?_)), trivial⟩
     change AU _ _ _ _ _ _ _ _
     refine au_all [13] (by kernel_rfl) rfl ⟨.inr (.inr (nw_weak hN2 rfl rfl rfl rfl rfl (weak_frow2 44 3 50 4 rfl rfl rfl rfl (by decide) (by decide) (by simp) (okE_app (okE_map (fun _ => rfl) _) (by rfl)) (fz_app (fz_map (fun _ => rfl) _) (by intro e he; simp [chunkA] at he; subst he; rfl)) (by simp) (okE_app (okE_vals _) (by rfl)) (fz_app (fzs_vals _) (by intro e he; simp [chunkA] at he; subst he; rfl)) rfl) (q_build rfl rfl rfl) ?_)), trivial⟩
     change AU _ _ _ _ _ _ _ _
     refine au_all [14] (by kernel_rfl) rfl ⟨.inl (ao_py rfl ?_), trivial⟩
     refine d_py hN2 (q_bslice rfl rfl rfl rfl (by exact rfl) (by decide) (by decide)) rfl rfl rfl rfl ?_
     change AU _ _ _ _ _ _ _ _
     refine au_all [15] (by kernel_rfl) rfl ⟨.inr (.inr (nw_append_own hN2 rfl rfl rfl rfl (by simp) rfl rfl (by rfl) (by rw [List.length_map, hdl]; simp [chunkA]; omega) rfl rfl rfl rfl ?_)), trivial⟩
     change AU _ _ _ _ _ _ _ _
     refine au_take 16 rfl (by kernel_rfl) (by kernel_rfl) rfl (wi_assign hN2 rfl rfl rfl rfl rfl rfl) ?_; refine yD ?_; change AWP _ _ _ _  _
     refine rn1 ?_; refine zP (q_addi rfl rfl rfl (by omega)) ?_; refine zM ?_; refine aops_nil ?_
     exact ⟨⟨j + 1, ltj, trivial⟩, weak_scrub' rfl (zz4 (zz4 ⟨(cgO (by rw [doneMj_succ hjq]; simp [chunkA])), rfl, (zz3 ⟨(cgI (by dsimp only; omega)), rfl, trivial⟩)⟩)) ⟨(cgA (by rw [doneMj_succ hjq, List.map_append, List.map_cons, List.map_nil, ← map_cells]; rfl)), rfl, (ok_vals _), trivial⟩, by dsimp only; omega⟩
    ·
     refine d_py hN2 (q_bslice rfl rfl rfl rfl (by exact rfl) (by decide) (by decide)) rfl rfl rfl rfl ?_
     change AU _ _ _ _ _ _ _ _
     refine au_all [3, 11] (by kernel_rfl) rfl ⟨.inr (.inr (nw_ocall hN2 rfl rfl (clone_fo v.nm (by omega)) (.fn _ _ _ _ rfl rfl) rfl rfl rfl rfl rfl ?_)), .inl (ao_py rfl ?_), trivial⟩
     ·
      change AU _ _ _ _ _ _ _ _
      refine au_all [6, 11] (by kernel_rfl) rfl ⟨.inr (.inr (nw_append_own hN2 rfl rfl rfl rfl (by simp) rfl rfl (by rfl) (by simp [chunkA]; omega) rfl rfl rfl rfl ?_)), .inl (ao_py rfl ?_), trivial⟩
      ·
       change AU _ _ _ _ _ _ _ _
       refine au_all [9, 11] (by kernel_rfl) rfl ⟨.inr (.inr (nw_ocall hN2 rfl rfl (cloneVa_fo v.ps (by omega)) (.fn _ _ _ _ rfl rfl) rfl rfl rfl rfl rfl ?_)), .inl (ao_py rfl ?_), trivial⟩
       ·
        change AU _ _ _ _ _ _ _ _
        refine au_all [11] (by kernel_rfl) rfl ⟨.inl (ao_py rfl ?_), trivial⟩
        refine d_py hN2 (q_bslice rfl rfl rfl rfl (by exact rfl) (by decide) (by decide)) rfl rfl rfl rfl ?_
        change AU _ _ _ _ _ _ _ _
        refine au_all [12] (by kernel_rfl) rfl ⟨.inr (.inr (nw_append_own hN2 rfl rfl rfl rfl (by simp) rfl rfl (by rfl) (by simp [chunkA]; omega) rfl rfl rfl rfl ?_)), trivial⟩
        change AU _ _ _ _ _ _ _ _
        refine au_all [13] (by kernel_rfl) rfl ⟨.inr (.inr (nw_weak hN2 rfl rfl rfl rfl rfl (weak_frow2 44 3 50 4 rfl rfl rfl rfl (by decide) (by decide) (by simp) (okE_app (okE_map (fun _ => rfl) _) (by rfl)) (fz_app (fz_map (fun _ => rfl) _) (by intro e he; simp [chunkA] at he; subst he; rfl)) (by simp) (okE_app (okE_vals _) (by rfl)) (fz_app (fzs_vals _) (by intro e he; simp [chunkA] at he; subst he; rfl)) rfl) (q_build rfl rfl rfl) ?_)), trivial⟩
        change AU _ _ _ _ _ _ _ _
        refine au_all [14] (by kernel_rfl) rfl ⟨.inl (ao_py rfl ?_), trivial⟩
        refine d_py hN2 (q_bslice rfl rfl rfl rfl (by exact rfl) (by decide) (by decide)) rfl rfl rfl rfl ?_
        change AU _ _ _ _ _ _ _ _
        refine au_all [15] (by kernel_rfl) rfl ⟨.inr (.inr (nw_append_own hN2 rfl rfl rfl rfl (by simp) rfl rfl (by rfl) (by rw [List.length_map, hdl]; simp [chunkA]; omega) rfl rfl rfl rfl ?_)), trivial⟩
        change AU _ _ _ _ _ _ _ _
        refine au_take 16 rfl (by kernel_rfl) (by kernel_rfl) rfl (wi_assign hN2 rfl rfl rfl rfl rfl rfl) ?_; refine yD ?_; change AWP _ _ _ _  _
        refine rn1 ?_; refine zP (q_addi rfl rfl rfl (by omega)) ?_; refine zM ?_; refine aops_nil ?_
        exact ⟨⟨j + 1, ltj, trivial⟩, weak_scrub' rfl (zz4 (zz4 ⟨(cgO (by rw [doneMj_succ hjq]; simp [chunkA])), rfl, (zz3 ⟨(cgI (by dsimp only; omega)), rfl, trivial⟩)⟩)) ⟨(cgA (by rw [doneMj_succ hjq, List.map_append, List.map_cons, List.map_nil, ← map_cells]; rfl)), rfl, (ok_vals _), trivial⟩, by dsimp only; omega⟩
       refine d_py hN2 (q_bslice rfl rfl rfl rfl (by exact rfl) (by decide) (by decide)) rfl rfl rfl rfl ?_
       change AU _ _ _ _ _ _ _ _
       refine au_all [9] (by kernel_rfl) rfl ⟨.inr (.inr (nw_ocall hN2 rfl rfl (cloneVa_fo v.ps (by omega)) (.fn _ _ _ _ rfl rfl) rfl rfl rfl rfl rfl ?_)), trivial⟩
       change AU _ _ _ _ _ _ _ _
       refine au_all [12] (by kernel_rfl) rfl ⟨.inr (.inr (nw_append_own hN2 rfl rfl rfl rfl (by simp) rfl rfl (by rfl) (by simp [chunkA]; omega) rfl rfl rfl rfl ?_)), trivial⟩
       change AU _ _ _ _ _ _ _ _
       refine au_all [13] (by kernel_rfl) rfl ⟨.inr (.inr (nw_weak hN2 rfl rfl rfl rfl rfl (weak_frow2 44 3 50 4 rfl rfl rfl rfl (by decide) (by decide) (by simp) (okE_app (okE_map (fun _ => rfl) _) (by rfl)) (fz_app (fz_map (fun _ => rfl) _) (by intro e he; simp [chunkA] at he; subst he; rfl)) (by simp) (okE_app (okE_vals _) (by rfl)) (fz_app (fzs_vals _) (by intro e he; simp [chunkA] at he; subst he; rfl)) rfl) (q_build rfl rfl rfl) ?_)), trivial⟩
       change AU _ _ _ _ _ _ _ _
       refine au_all [14] (by kernel_rfl) rfl ⟨.inl (ao_py rfl ?_), trivial⟩
       refine d_py hN2 (q_bslice rfl rfl rfl rfl (by exact rfl) (by decide) (by decide)) rfl rfl rfl rfl ?_
       change AU _ _ _ _ _ _ _ _
       refine au_all [15] (by kernel_rfl) rfl ⟨.inr (.inr (nw_append_own hN2 rfl rfl rfl rfl (by simp) rfl rfl (by rfl) (by rw [List.length_map, hdl]; simp [chunkA]; omega) rfl rfl rfl rfl ?_)), trivial⟩
       change AU _ _ _ _ _ _ _ _
       refine au_take 16 rfl (by kernel_rfl) (by kernel_rfl) rfl (wi_assign hN2 rfl rfl rfl rfl rfl rfl) ?_; refine yD ?_; change AWP _ _ _ _  _
       refine rn1 ?_; refine zP (q_addi rfl rfl rfl (by omega)) ?_; refine zM ?_; refine aops_nil ?_
       exact ⟨⟨j + 1, ltj, trivial⟩, weak_scrub' rfl (zz4 (zz4 ⟨(cgO (by rw [doneMj_succ hjq]; simp [chunkA])), rfl, (zz3 ⟨(cgI (by dsimp only; omega)), rfl, trivial⟩)⟩)) ⟨(cgA (by rw [doneMj_succ hjq, List.map_append, List.map_cons, List.map_nil, ← map_cells]; rfl)), rfl, (ok_vals _), trivial⟩, by dsimp only; omega⟩
      refine d_py hN2 (q_bslice rfl rfl rfl rfl (by exact rfl) (by decide) (by decide)) rfl rfl rfl rfl ?_
      change AU _ _ _ _ _ _ _ _
      refine au_all [6] (by kernel_rfl) rfl ⟨.inr (.inr (nw_append_own hN2 rfl rfl rfl rfl (by simp) rfl rfl (by rfl) (by simp [chunkA]; omega) rfl rfl rfl rfl ?_)), trivial⟩
      change AU _ _ _ _ _ _ _ _
      refine au_all [9] (by kernel_rfl) rfl ⟨.inr (.inr (nw_ocall hN2 rfl rfl (cloneVa_fo v.ps (by omega)) (.fn _ _ _ _ rfl rfl) rfl rfl rfl rfl rfl ?_)), trivial⟩
      change AU _ _ _ _ _ _ _ _
      refine au_all [12] (by kernel_rfl) rfl ⟨.inr (.inr (nw_append_own hN2 rfl rfl rfl rfl (by simp) rfl rfl (by rfl) (by simp [chunkA]; omega) rfl rfl rfl rfl ?_)), trivial⟩
      change AU _ _ _ _ _ _ _ _
      refine au_all [13] (by kernel_rfl) rfl ⟨.inr (.inr (nw_weak hN2 rfl rfl rfl rfl rfl (weak_frow2 44 3 50 4 rfl rfl rfl rfl (by decide) (by decide) (by simp) (okE_app (okE_map (fun _ => rfl) _) (by rfl)) (fz_app (fz_map (fun _ => rfl) _) (by intro e he; simp [chunkA] at he; subst he; rfl)) (by simp) (okE_app (okE_vals _) (by rfl)) (fz_app (fzs_vals _) (by intro e he; simp [chunkA] at he; subst he; rfl)) rfl) (q_build rfl rfl rfl) ?_)), trivial⟩
      change AU _ _ _ _ _ _ _ _
      refine au_all [14] (by kernel_rfl) rfl ⟨.inl (ao_py rfl ?_), trivial⟩
      refine d_py hN2 (q_bslice rfl rfl rfl rfl (by exact rfl) (by decide) (by decide)) rfl rfl rfl rfl ?_
      change AU _ _ _ _ _ _ _ _
      refine au_all [15] (by kernel_rfl) rfl ⟨.inr (.inr (nw_append_own hN2 rfl rfl rfl rfl (by simp) rfl rfl (by rfl) (by rw [List.length_map, hdl]; simp [chunkA]; omega) rfl rfl rfl rfl ?_)), trivial⟩
      change AU _ _ _ _ _ _ _ _
      refine au_take 16 rfl (by kernel_rfl) (by kernel_rfl) rfl (wi_assign hN2 rfl rfl rfl rfl rfl rfl) ?_; refine yD ?_; change AWP _ _ _ _  _
      refine rn1 ?_; refine zP (q_addi rfl rfl rfl (by omega)) ?_; refine zM ?_; refine aops_nil ?_
      exact ⟨⟨j + 1, ltj, trivial⟩, weak_scrub' rfl (zz4 (zz4 ⟨(cgO (by rw [doneMj_succ hjq]; simp [chunkA])), rfl, (zz3 ⟨(cgI (by dsimp only; omega)), rfl, trivial⟩)⟩)) ⟨(cgA (by rw [doneMj_succ hjq, List.map_append, List.map_cons, List.map_nil, ← map_cells]; rfl)), rfl, (ok_vals _), trivial⟩, by dsimp only; omega⟩
     refine d_py hN2 (q_bslice rfl rfl rfl rfl (by exact rfl) (by decide) (by decide)) rfl rfl rfl rfl ?_
     change AU _ _ _ _ _ _ _ _
     refine au_all [3] (by kernel_rfl) rfl ⟨.inr (.inr (nw_ocall hN2 rfl rfl (clone_fo v.nm (by omega)) (.fn _ _ _ _ rfl rfl) rfl rfl rfl rfl rfl ?_)), trivial⟩
     change AU _ _ _ _ _ _ _ _
     refine au_all [6] (by kernel_rfl) rfl ⟨.inr (.inr (nw_append_own hN2 rfl rfl rfl rfl (by simp) rfl rfl (by rfl) (by simp [chunkA]; omega) rfl rfl rfl rfl ?_)), trivial⟩
     change AU _ _ _ _ _ _ _ _
     refine au_all [9] (by kernel_rfl) rfl ⟨.inr (.inr (nw_ocall hN2 rfl rfl (cloneVa_fo v.ps (by omega)) (.fn _ _ _ _ rfl rfl) rfl rfl rfl rfl rfl ?_)), trivial⟩
     change AU _ _ _ _ _ _ _ _
     refine au_all [12] (by kernel_rfl) rfl ⟨.inr (.inr (nw_append_own hN2 rfl rfl rfl rfl (by simp) rfl rfl (by rfl) (by simp [chunkA]; omega) rfl rfl rfl rfl ?_)), trivial⟩
     change AU _ _ _ _ _ _ _ _
     refine au_all [13] (by kernel_rfl) rfl ⟨.inr (.inr (nw_weak hN2 rfl rfl rfl rfl rfl (weak_frow2 44 3 50 4 rfl rfl rfl rfl (by decide) (by decide) (by simp) (okE_app (okE_map (fun _ => rfl) _) (by rfl)) (fz_app (fz_map (fun _ => rfl) _) (by intro e he; simp [chunkA] at he; subst he; rfl)) (by simp) (okE_app (okE_vals _) (by rfl)) (fz_app (fzs_vals _) (by intro e he; simp [chunkA] at he; subst he; rfl)) rfl) (q_build rfl rfl rfl) ?_)), trivial⟩
     change AU _ _ _ _ _ _ _ _
     refine au_all [14] (by kernel_rfl) rfl ⟨.inl (ao_py rfl ?_), trivial⟩
     refine d_py hN2 (q_bslice rfl rfl rfl rfl (by exact rfl) (by decide) (by decide)) rfl rfl rfl rfl ?_
     change AU _ _ _ _ _ _ _ _
     refine au_all [15] (by kernel_rfl) rfl ⟨.inr (.inr (nw_append_own hN2 rfl rfl rfl rfl (by simp) rfl rfl (by rfl) (by rw [List.length_map, hdl]; simp [chunkA]; omega) rfl rfl rfl rfl ?_)), trivial⟩
     change AU _ _ _ _ _ _ _ _
     refine au_take 16 rfl (by kernel_rfl) (by kernel_rfl) rfl (wi_assign hN2 rfl rfl rfl rfl rfl rfl) ?_; refine yD ?_; change AWP _ _ _ _  _
     refine rn1 ?_; refine zP (q_addi rfl rfl rfl (by omega)) ?_; refine zM ?_; refine aops_nil ?_
     exact ⟨⟨j + 1, ltj, trivial⟩, weak_scrub' rfl (zz4 (zz4 ⟨(cgO (by rw [doneMj_succ hjq]; simp [chunkA])), rfl, (zz3 ⟨(cgI (by dsimp only; omega)), rfl, trivial⟩)⟩)) ⟨(cgA (by rw [doneMj_succ hjq, List.map_append, List.map_cons, List.map_nil, ← map_cells]; rfl)), rfl, (ok_vals _), trivial⟩, by dsimp only; omega⟩
    refine d_py hN2 (q_bslice rfl rfl rfl rfl (by exact rfl) (by decide) (by decide)) rfl rfl rfl rfl ?_
    change AU _ _ _ _ _ _ _ _
    refine au_all [3, 5] (by kernel_rfl) rfl ⟨.inr (.inr (nw_ocall hN2 rfl rfl (clone_fo v.nm (by omega)) (.fn _ _ _ _ rfl rfl) rfl rfl rfl rfl rfl ?_)), .inl (ao_py rfl ?_), trivial⟩
    ·
     change AU _ _ _ _ _ _ _ _
     refine au_all [5] (by kernel_rfl) rfl ⟨.inl (ao_py rfl ?_), trivial⟩
     refine d_py hN2 (q_bslice rfl rfl rfl rfl (by exact rfl) (by decide) (by decide)) rfl rfl rfl rfl ?_
     change AU _ _ _ _ _ _ _ _
     refine au_all [6] (by kernel_rfl) rfl ⟨.inr (.inr (nw_append_own hN2 rfl rfl rfl rfl (by simp) rfl rfl (by rfl) (by simp [chunkA]; omega) rfl rfl rfl rfl ?_)), trivial⟩
     change AU _ _ _ _ _ _ _ _
     refine au_all [9] (by kernel_rfl) rfl ⟨.inr (.inr (nw_ocall hN2 rfl rfl (cloneVa_fo v.ps (by omega)) (.fn _ _ _ _ rfl rfl) rfl rfl rfl rfl rfl ?_)), trivial⟩
     change AU _ _ _ _ _ _ _ _
     refine au_all [12] (by kernel_rfl) rfl ⟨.inr (.inr (nw_append_own hN2 rfl rfl rfl rfl (by simp) rfl rfl (by rfl) (by simp [chunkA]; omega) rfl rfl rfl rfl ?_)), trivial⟩
     change AU _ _ _ _ _ _ _ _
     refine au_all [13] (by kernel_rfl) rfl ⟨.inr (.inr (nw_weak hN2 rfl rfl rfl rfl rfl (weak_frow2 44 3 50 4 rfl rfl rfl rfl (by decide) (by decide) (by simp) (okE_app (okE_map (fun _ => rfl) _) (by rfl)) (fz_app (fz_map (fun _ => rfl) _) (by intro e he; simp [chunkA] at he; subst he; rfl)) (by simp) (okE_app (okE_vals _) (by rfl)) (fz_app (fzs_vals _) (by intro e he; simp [chunkA] at he; subst he; rfl)) rfl) (q_build rfl rfl rfl) ?_)), trivial⟩
     change AU _ _ _ _ _ _ _ _
     refine au_all [14] (by kernel_rfl) rfl ⟨.inl (ao_py rfl ?_), trivial⟩
     refine d_py hN2 (q_bslice rfl rfl rfl rfl (by exact rfl) (by decide) (by decide)) rfl rfl rfl rfl ?_
     change AU _ _ _ _ _ _ _ _
     refine au_all [15] (by kernel_rfl) rfl ⟨.inr (.inr (nw_append_own hN2 rfl rfl rfl rfl (by simp) rfl rfl (by rfl) (by rw [List.length_map, hdl]; simp [chunkA]; omega) rfl rfl rfl rfl ?_)), trivial⟩
     change AU _ _ _ _ _ _ _ _
     refine au_take 16 rfl (by kernel_rfl) (by kernel_rfl) rfl (wi_assign hN2 rfl rfl rfl rfl rfl rfl) ?_; refine yD ?_; change AWP _ _ _ _  _
     refine rn1 ?_; refine zP (q_addi rfl rfl rfl (by omega)) ?_; refine zM ?_; refine aops_nil ?_
     exact ⟨⟨j + 1, ltj, trivial⟩, weak_scrub' rfl (zz4 (zz4 ⟨(cgO (by rw [doneMj_succ hjq]; simp [chunkA])), rfl, (zz3 ⟨(cgI (by dsimp only; omega)), rfl, trivial⟩)⟩)) ⟨(cgA (by rw [doneMj_succ hjq, List.map_append, List.map_cons, List.map_nil, ← map_cells]; rfl)), rfl, (ok_vals _), trivial⟩, by dsimp only; omega⟩
    refine d_py hN2 (q_bslice rfl rfl rfl rfl (by exact rfl) (by decide) (by decide)) rfl rfl rfl rfl ?_
    change AU _ _ _ _ _ _ _ _
    refine au_all [3] (by kernel_rfl) rfl ⟨.inr (.inr (nw_ocall hN2 rfl rfl (clone_fo v.nm (by omega)) (.fn _ _ _ _ rfl rfl) rfl rfl rfl rfl rfl ?_)), trivial⟩
    change AU _ _ _ _ _ _ _ _
    refine au_all [6] (by kernel_rfl) rfl ⟨.inr (.inr (nw_append_own hN2 rfl rfl rfl rfl (by simp) rfl rfl (by rfl) (by simp [chunkA]; omega) rfl rfl rfl rfl ?_)), trivial⟩
    change AU _ _ _ _ _ _ _ _
    refine au_all [9] (by kernel_rfl) rfl ⟨.inr (.inr (nw_ocall hN2 rfl rfl (cloneVa_fo v.ps (by omega)) (.fn _ _ _ _ rfl rfl) rfl rfl rfl rfl rfl ?_)), trivial⟩
    change AU _ _ _ _ _ _ _ _
    refine au_all [12] (by kernel_rfl) rfl ⟨.inr (.inr (nw_append_own hN2 rfl rfl rfl rfl (by simp) rfl rfl (by rfl) (by simp [chunkA]; omega) rfl rfl rfl rfl ?_)), trivial⟩
    change AU _ _ _ _ _ _ _ _
    refine au_all [13] (by kernel_rfl) rfl ⟨.inr (.inr (nw_weak hN2 rfl rfl rfl rfl rfl (weak_frow2 44 3 50 4 rfl rfl rfl rfl (by decide) (by decide) (by simp) (okE_app (okE_map (fun _ => rfl) _) (by rfl)) (fz_app (fz_map (fun _ => rfl) _) (by intro e he; simp [chunkA] at he; subst he; rfl)) (by simp) (okE_app (okE_vals _) (by rfl)) (fz_app (fzs_vals _) (by intro e he; simp [chunkA] at he; subst he; rfl)) rfl) (q_build rfl rfl rfl) ?_)), trivial⟩
    change AU _ _ _ _ _ _ _ _
    refine au_all [14] (by kernel_rfl) rfl ⟨.inl (ao_py rfl ?_), trivial⟩
    refine d_py hN2 (q_bslice rfl rfl rfl rfl (by exact rfl) (by decide) (by decide)) rfl rfl rfl rfl ?_
    change AU _ _ _ _ _ _ _ _
    refine au_all [15] (by kernel_rfl) rfl ⟨.inr (.inr (nw_append_own hN2 rfl rfl rfl rfl (by simp) rfl rfl (by rfl) (by rw [List.length_map, hdl]; simp [chunkA]; omega) rfl rfl rfl rfl ?_)), trivial⟩
    change AU _ _ _ _ _ _ _ _
    refine au_take 16 rfl (by kernel_rfl) (by kernel_rfl) rfl (wi_assign hN2 rfl rfl rfl rfl rfl rfl) ?_; refine yD ?_; change AWP _ _ _ _  _
    refine rn1 ?_; refine zP (q_addi rfl rfl rfl (by omega)) ?_; refine zM ?_; refine aops_nil ?_
    exact ⟨⟨j + 1, ltj, trivial⟩, weak_scrub' rfl (zz4 (zz4 ⟨(cgO (by rw [doneMj_succ hjq]; simp [chunkA])), rfl, (zz3 ⟨(cgI (by dsimp only; omega)), rfl, trivial⟩)⟩)) ⟨(cgA (by rw [doneMj_succ hjq, List.map_append, List.map_cons, List.map_nil, ← map_cells]; rfl)), rfl, (ok_vals _), trivial⟩, by dsimp only; omega⟩
   have gej : L.length ≤ j := by simpa using h46
   have hdl := doneMj_len (key := key) (out := (mapsV (names.take i) L)) (L := L) (v := v) (show k ≤ (mapsV (names.take i) L).length by omega) (show j ≤ L.length by omega)
   refine rn4 ?_; refine zP (q_len_own rfl rfl (by rfl) (by simp)) ?_; refine rn2 ?_
   refine zq ?_ ?_ <;> intro h156
   ·
    refine rn4 ?_; refine zQ ?_
    rfl
   have h15 := of_decide_eq_false h156
   refine rn2 ?_; refine zP (q_addi rfl rfl rfl (by omega)) ?_; refine zM ?_; refine aops_nil ?_
   exact ⟨⟨k + 1, ltk, (by rw [← doneMj_row hkv gej]; have := h15; omega)⟩, weak_scrub' rfl (zz4 (zz3 ⟨(cgI (by dsimp only; omega)), rfl, (cgO (congrArg List.length (doneMj_row hkv gej))), rfl, trivial⟩)) ⟨(cgA (congrArg (List.map valC) (doneMj_row hkv gej))), rfl, (ok_vals _), trivial⟩, by dsimp only; omega⟩
  have gek : (mapsV (names.take i) L).length ≤ k := by simpa using h24
  have lti : i < i0 := by
   rcases Nat.lt_or_ge i i0 with h | h
   ·exact h
   exfalso
   have e : i0 = i := by omega
   rw [e, mapsV_take hik, ← doneM_end gek] at hbig
   omega
  refine rn6 ?_; refine zP (q_addi rfl rfl rfl (by omega)) ?_; refine zM ?_; refine aops_nil ?_
  exact ⟨⟨i + 1, lti, trivial⟩, Weak.trans (weak_frow 6 0 rfl rfl (by simp) (okE_vals _) (fzs_vals _) rfl) (weak_scrub' rfl (zz3 ⟨(cgI (by dsimp only; omega)), rfl, (cgVv (by rw [doneM_end gek, mapsV_take hik])), rfl, trivial⟩) trivial), by dsimp only; omega⟩
 exfalso; simp at h11; omega
end Go.Proofs.YtaecccdkjmipeaaGreat

namespace Go.Proofs.YtaecccdkjmipeaaGreat
open Go.RowKit
set_option maxRecDepth 100000 in
set_option maxHeartbeats 1000000 in
theorem isBot_fc (l : Lat) (v : Val) (hc : checkX l = 0) : FC Tryz.prog 76 [.agg (latL l), .agg (valL v)] (bl (eqV v (bottomV l))) := by
 refine fc_of_awp [4] Tryz.func76 rfl rfl 14 Tryz.ntmps76 (Nat.le_of_ble_eq_true rfl) ?_
 intro E hN
 refine rn7 ?_; refine awp_draw 9 (by kernel_rfl) (by kernel_rfl) ?_; refine zl ?_
 refine zp (q_call (by have h := check_fc l; rw [hc] at h; exact h) rfl rfl rfl) ?_
 refine rn4 ?_; refine zp (q_call (bottom_fc l (check_ok hc)) rfl rfl rfl) ?_; refine zp (q_call (eqV_fc _ _) rfl rfl rfl) ?_
 refine zp (q_pick1 rfl rfl rfl rfl) ?_; change AOps _ _ _ _ _ _; refine zS ?_; refine zQ ?_
 rfl
set_option maxRecDepth 100000 in
set_option maxHeartbeats 1000000 in
theorem all3_fc (l a : Lat) (hp : l.ps = [a]) (hc : checkX a = 0) (v : Val) : FC Tryz.prog 75 [.agg (valL v), .el (latL l)] (bl (eqV v (bottomV a))) := by
 refine fc_of_awp [3] Tryz.func75 rfl rfl 10 Tryz.ntmps75 (Nat.le_of_ble_eq_true rfl) ?_
 intro E hN
 refine rn6 ?_; refine awp_draw 6 (by kernel_rfl) (by kernel_rfl) ?_; refine rn2 ?_
 refine zp (q_elem rfl rfl rfl 0 rfl _ (lat_get (show l.ps[0]? = some a by rw [hp]; rfl)) rfl) ?_
 refine rn2 ?_; refine zp (q_call (isBot_fc a v hc) rfl rfl rfl) ?_; change AOps _ _ _ _ _ _; refine zS ?_; refine zQ ?_
 rfl
end Go.Proofs.YtaecccdkjmipeaaGreat
