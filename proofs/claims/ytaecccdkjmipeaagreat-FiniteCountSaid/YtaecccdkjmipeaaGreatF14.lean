/-
  Contracts: finite.maps (seat r5).
-/
import Derived.Test.YtaecccdkjmipeaaGreatF13
import Derived.Test.YtaecccdkjmipeaaGreatA10
namespace Go.Proofs.YtaecccdkjmipeaaGreat
open Go.RowKit
/-- one more key -/
def oneM (key : Nm) (v q : Val) : Val := .mk 0 (v.nm ++ [key]) (v.ps ++ [q]) []
def rowM (key : Nm) (L : List Val) (v : Val) : List Val := v :: L.map (oneM key v)
def stepM (key : Nm) (out L : List Val) : List Val := out.flatMap (rowM key L)
def mapsV (names : List Nm) (L : List Val) : List Val := names.foldl (fun out key => stepM key out L) [Val.zero]
/-- what is done before the value k; within it, j parts -/
def doneM (key : Nm) (out L : List Val) (k : Nat) : List Val := (out.take k).flatMap (rowM key L)
def doneMj (key : Nm) (out L : List Val) (k : Nat) (v : Val) (j : Nat) : List Val := doneM key out L k ++ v :: (L.take j).map (oneM key v)
theorem doneMj_succ {key : Nm} {out L : List Val} {k j : Nat} {v q : Val} (hj : L[j]? = some q) : doneMj key out L k v (j + 1) = doneMj key out L k v j ++ [oneM key v q] := by
 unfold doneMj
 rw [List.take_add_one, hj, List.map_append, List.append_assoc]; rfl
theorem doneMj_row {key : Nm} {out L : List Val} {k j : Nat} {v : Val} (hk : out[k]? = some v) (hj : L.length ≤ j) : doneMj key out L k v j = doneM key out L (k + 1) := by
 unfold doneMj doneM
 rw [List.take_of_length_le hj, List.take_add_one, hk, List.flatMap_append]
 simp [rowM]
theorem doneM_end {key : Nm} {out L : List Val} {k : Nat} (hk : out.length ≤ k) : doneM key out L k = stepM key out L := by
 unfold doneM
 rw [List.take_of_length_le hk]; rfl
theorem mapsV_take {names : List Nm} {L : List Val} {i : Nat} {key : Nm} (h : names[i]? = some key) : mapsV (names.take (i + 1)) L = stepM key (mapsV (names.take i) L) L := by
 unfold mapsV
 rw [List.take_add_one, h, List.foldl_append]; rfl
theorem rowsM_len (key : Nm) (L : List Val) : ∀ l : List Val, (l.flatMap (rowM key L)).length = l.length * (L.length + 1)
 | [] => by simp
 | v :: l => by rw [List.flatMap_cons, List.length_append, rowsM_len key L l, List.length_cons, Nat.add_mul]; simp [rowM]; omega
theorem doneM_len {key : Nm} {out L : List Val} {k : Nat} (hk : k ≤ out.length) : (doneM key out L k).length = k * (L.length + 1) := by
 unfold doneM
 rw [rowsM_len, List.length_take, Nat.min_eq_left hk]
theorem doneMj_len {key : Nm} {out L : List Val} {k j : Nat} {v : Val} (hk : k ≤ out.length) (hj : j ≤ L.length) : (doneMj key out L k v j).length = k * (L.length + 1) + 1 + j := by
 unfold doneMj
 rw [List.length_append, doneM_len hk]; simp; omega
theorem stepM_len {key : Nm} {out L : List Val} : (stepM key out L).length = out.length * (L.length + 1) := rowsM_len key L out
theorem mapsV_nm {L : List Val} : ∀ (names : List Nm) (v : Val), v ∈ mapsV names L → v.nm.length ≤ names.length ∧ v.ps.length ≤ names.length := by
 have key : ∀ (names : List Nm) (out : List Val) (b : Nat), (∀ v ∈ out, v.nm.length ≤ b ∧ v.ps.length ≤ b) → ∀ v ∈ names.foldl (fun out key => stepM key out L) out, v.nm.length ≤ b + names.length ∧ v.ps.length ≤ b + names.length := by
  intro names
  induction names with
  | nil => intro out b h v hv; exact h v hv
  | cons k names ih =>
   intro out b h v hv
   have := ih (stepM k out L) (b + 1) (fun x hx => by
    unfold stepM at hx
    obtain ⟨y, hy, hx⟩ := List.mem_flatMap.1 hx
    have hb := h y hy
    rcases List.mem_cons.1 hx with rfl | hx
    ·omega
    obtain ⟨q, -, rfl⟩ := List.mem_map.1 hx
    show (y.nm ++ [k]).length ≤ b + 1 ∧ (y.ps ++ [q]).length ≤ b + 1
    simp; omega) v hv
   rw [List.length_cons]; omega
 intro names v hv
 have := key names [Val.zero] 0 (fun v hv => by simp at hv; subst hv; exact ⟨Nat.le_refl _, Nat.le_refl _⟩) v hv
 omega
theorem map_cells (key : Nm) (v q : Val) : chunkA 4 1 [i64 0, .sl (v.nm.map sv1 ++ [[sv key]]) none, .sl (v.ps.map valC ++ chunkA 4 1 (valL q)) none, .sl [] none] = [valC (oneM key v q)] := by
 rw [valC_eq]
 show [[i64 0, AV.sl (v.nm.map sv1 ++ [[sv key]]) none, AV.sl (v.ps.map valC ++ [valL q]) none, AV.sl [] none]] = [[i64 0, AV.sl ((v.nm ++ [key]).map sv1) none, AV.sl ((v.ps ++ [q]).map valC) none, ens []]]
 simp only [List.map_append, List.map_cons, List.map_nil, valC_eq q]; rfl
theorem start_m {L : List Val} : some (AV.sl (chunkA 4 1 [i64 0, .sl [] none, .sl [] none, .sl [] none]) none) = some (vals (mapsV [] L)) := by
 show some (AV.sl [valL Val.zero] none) = some (AV.sl [valC Val.zero] none)
 rw [valC_eq]
set_option maxRecDepth 100000 in
set_option maxHeartbeats 1000000 in
theorem maps_gx (names : List Nm) (L : List Val) (h0 : 0 < names.length) (h64 : names.length ≤ 64) (hL : L.length ≤ 256) (h256 : ∀ i, i ≤ names.length → (mapsV (names.take i) L).length ≤ 256) : GV 77 [svs names, vals L] (mapsV names L) 0 1 := by
 refine gx_of_awp [4, 5] Tryz.func77 rfl rfl 62 Tryz.ntmps77 (Nat.le_of_ble_eq_true rfl) ?_
 intro E hN
 refine a_lm 0 rfl (fun hl0 => ?_)
 refine rn8 ?_; refine zP (q_bslice rfl rfl rfl rfl (by exact rfl) (by decide) (by decide)) ?_; refine rn10 ?_
 refine awp_loop (fun x : {i : Nat // i < names.length} ⊕ Unit => match x with | .inl x => ⟨[(1, vals L), (16, svs names), (17, i64 names.length), (18, i64 (x.1 : Nat)), (6, vals (mapsV (names.take x.1) L))], [], 0⟩ | .inr _ => ⟨[(1, vals L), (16, svs names), (17, i64 names.length), (18, i64 names.length), (6, .own 0 (mapsV names L).length)], [(0, .arr 30 4 ((mapsV names L).map valC))], 1⟩) (fun x => match x with | .inl x => names.length - x.1 | .inr _ => 0) (Sum.inl ⟨0, h0⟩) ?_ ?_
 ·
  exact weak_scrub' rfl (zz2 ⟨(cgI (by simp)), rfl, rfl, rfl, start_m, rfl, trivial⟩) trivial
 rintro (⟨i, hi⟩ | ⟨⟩)
 ·
  skip
  refine rn5 ?_
  refine zq ?_ ?_ <;> intro h11
  ·
   obtain ⟨key, hik⟩ := get_lt hi
   have h2i := h256 (i + 1) (by omega)
   rw [mapsV_take hik, stepM_len] at h2i
   refine rn5 ?_; refine zP (q_elem rfl rfl rfl i rfl _ (map_get hik) rfl) ?_; refine rn15 ?_; refine awp_weak (weak_own rfl 9 30 4 rfl) ?_
   refine awp_loop (fun x : {k : Nat // k ≤ (mapsV (names.take i) L).length ∧ True} => ⟨[(1, vals L), (16, svs names), (17, i64 names.length), (18, i64 (i : Nat)), (8, sv key), (22, vals (mapsV (names.take i) L)), (23, i64 (mapsV (names.take i) L).length), (24, i64 (x.1 : Nat)), (9, .own 0 (doneM key (mapsV (names.take i) L) L x.1).length)], [(0, .arr 30 4 ((doneM key (mapsV (names.take i) L) L x.1).map valC))], 1⟩) (fun x => (mapsV (names.take i) L).length - x.1) (⟨0, Nat.zero_le _, by trivial⟩) ?_ ?_
   ·
    exact weak_scrub' rfl (zz4 (zz2 ⟨(cgI (by simp)), rfl, (zz2 trivial)⟩)) ⟨rfl, rfl, (ok_vals _), trivial⟩
   rintro ⟨k, hk, gk⟩
   dsimp only
   refine rn5 ?_
   refine zq ?_ ?_ <;> intro h24
   ·
    have ltk : k < (mapsV (names.take i) L).length := by simpa using h24
    obtain ⟨v, hkv⟩ := get_lt ltk
    have hvp := mapsV_nm _ v (List.mem_of_getElem? hkv)
    rw [List.length_take] at hvp
    have hkm := Nat.mul_le_mul_right (L.length + 1) (show k + 1 ≤ (mapsV (names.take i) L).length from ltk)
    rw [Nat.add_mul, Nat.one_mul] at hkm
    have hc256 : (mapsV (names.take i) L).length ≤ 256 := Nat.le_trans (Nat.le_mul_of_pos_right _ (Nat.succ_pos _)) h2i
    refine rn5 ?_; refine zP (q_elem rfl rfl rfl k rfl _ (val_get hkv) rfl) ?_; refine rn5 ?_; refine awp_weak (weak_freeze 11 1 rfl rfl rfl rfl) ?_
    refine rn3 ?_; refine zP (q_bslice rfl rfl rfl rfl (by exact rfl) (by decide) (by decide)) ?_
    refine s_append_own hN rfl rfl rfl (by simp) rfl rfl (by rfl) (by rw [List.length_map, doneM_len (by omega)]; have := Nat.mul_le_mul_right (L.length + 1) (show k ≤ (mapsV (names.take i) L).length by omega); simp [chunkA]; omega) rfl rfl rfl rfl ?_
    refine rn10 ?_
    refine awp_loop (fun x : {j : Nat // j ≤ L.length ∧ True} => ⟨[(1, vals L), (16, svs names), (17, i64 names.length), (18, i64 (i : Nat)), (8, sv key), (22, vals (mapsV (names.take i) L)), (23, i64 (mapsV (names.take i) L).length), (24, i64 (k : Nat)), (9, .own 0 (doneMj key (mapsV (names.take i) L) L k v x.1).length), (11, .el (valL v)), (32, vals L), (33, i64 L.length), (34, i64 (x.1 : Nat))], [(0, .arr 30 4 ((doneMj key (mapsV (names.take i) L) L k v x.1).map valC))], 2⟩) (fun x => L.length - x.1) (⟨0, Nat.zero_le _, by trivial⟩) ?_ ?_
    ·
     exact weak_scrub' rfl (zz4 (zz4 ⟨(cgO (by simp [doneMj, chunkA])), rfl, (zz2 ⟨(cgI (by simp)), rfl, (zz1 trivial)⟩)⟩)) ⟨(cgA (by rw [doneMj, List.map_append, List.take_zero, List.map_nil, List.map_cons, valC_eq v]; rfl)), rfl, (ok_vals _), trivial⟩
    rintro ⟨j, hj, gj⟩
    dsimp only
    refine rn5 ?_
    refine zq ?_ ?_ <;> intro h46
    ·
     have ltj : j < L.length := by simpa using h46
     obtain ⟨q, hjq⟩ := get_lt ltj
     have hdl := doneMj_len (key := key) (out := (mapsV (names.take i) L)) (L := L) (v := v) (show k ≤ (mapsV (names.take i) L).length by omega) (show j ≤ L.length by omega)
     refine rn5 ?_; refine zP (q_elem rfl rfl rfl j rfl _ (val_get hjq) rfl) ?_; refine rn4 ?_; refine awp_weak (weak_freeze 13 2 rfl rfl rfl rfl) ?_
     refine awp_takeF hN 17 rfl (by kernel_rfl) (by kernel_rfl) (fun _ _ h => h) (fun E2 hN2 => ?_)
     refine af_take 0 rfl (by kernel_rfl) (by kernel_rfl) rfl ((wi_move hN2 rfl rfl rfl rfl rfl rfl).wf) ?_
     refine af_take 1 rfl (by kernel_rfl) (by kernel_rfl) rfl ((wi_fieldAddr hN2 rfl rfl rfl rfl rfl rfl rfl rfl).wf) ?_
     refine af_take 2 rfl (by kernel_rfl) (by kernel_rfl) rfl (wf_load hN2 rfl rfl rfl rfl rfl rfl rfl rfl) ?_
     refine af_take 4 rfl (by kernel_rfl) (by kernel_rfl) rfl ((wi_move hN2 rfl rfl rfl rfl rfl rfl).wf) ?_
     refine af_take 7 rfl (by kernel_rfl) (by kernel_rfl) rfl ((wi_fieldAddr hN2 rfl rfl rfl rfl rfl rfl rfl rfl).wf) ?_
     refine af_take 8 rfl (by kernel_rfl) (by kernel_rfl) rfl (wf_load hN2 rfl rfl rfl rfl rfl rfl rfl rfl) ?_
     refine af_take 10 rfl (by kernel_rfl) (by kernel_rfl) rfl (wf_load hN2 rfl rfl rfl rfl rfl rfl rfl rfl) ?_; refine af_rest ?_
     refine au_all [3, 5, 11] (by kernel_rfl) rfl ⟨.inr (.inr (nw_ocall hN2 rfl rfl (clone_fo v.nm (by omega)) (.fn _ _ _ _ rfl rfl) rfl rfl rfl rfl rfl ?_)), .inl (ao_py rfl ?_), .inl (ao_py rfl ?_), trivial⟩
     ·
      change AU _ _ _ _ _ _ _ _
      refine au_all [5, 11] (by kernel_rfl) rfl ⟨.inl (ao_py rfl ?_), .inl (ao_py rfl ?_), trivial⟩
      ·
       refine d_py hN2 (q_bslice rfl rfl rfl rfl (by exact rfl) (by decide) (by decide)) rfl rfl rfl rfl ?_
       change AU _ _ _ _ _ _ _ _
       refine au_all [6, 11] (by kernel_rfl) rfl ⟨.inr (.inr (nw_append_own hN2 rfl rfl rfl rfl (by simp) rfl rfl (by rfl) (by simp [chunkA]; omega) rfl rfl rfl rfl ?_)), .inl (ao_py rfl ?_), trivial⟩
       ·
        change AU _ _ _ _ _ _ _ _
        refine au_all [9, 11] (by kernel_rfl) rfl ⟨.inr (.inr (nw_ocall hN2 rfl rfl (cloneVa_fo v.ps (by omega)) (.fn _ _ _ _ rfl rfl) rfl rfl rfl rfl rfl ?_)), .inl (ao_py rfl ?_), trivial⟩
        ·
         change AU _ _ _ _ _ _ _ _
         refine au_all [11] (by kernel_rfl) rfl ⟨.inl (ao_py rfl ?_), trivial⟩
         refine d_py hN2 (q_bslice rfl rfl rfl rfl (by exact rfl) (by decide) (by decide)) rfl rfl rfl rfl ?_
         change AU _ _ _ _ _ _ _ _
         refine au_all [12] (by kernel_rfl) rfl ⟨.inr (.inr (nw_append_own hN2 rfl rfl rfl rfl (by simp) rfl rfl (by rfl) (by simp [chunkA]; omega) rfl rfl rfl rfl ?_)), trivial⟩
         change AU _ _ _ _ _ _ _ _
         refine au_all [13] (by kernel_rfl) rfl ⟨.inr (.inr (nw_weak hN2 rfl rfl rfl rfl rfl (weak_frow2 44 3 50 4 rfl rfl rfl rfl (by decide) (by decide) (by simp) (okE_app (okE_map (fun _ => rfl) _) (by rfl)) (fz_app (fz_map (fun _ => rfl) _) (by intro e he; simp [chunkA] at he; subst he; rfl)) (by simp) (okE_app (okE_vals _) (by rfl)) (fz_app (fzs_vals _) (by intro e he; simp [chunkA] at he; subst he; rfl)) rfl) (q_build rfl rfl rfl) ?_)), trivial⟩
         change AU _ _ _ _ _ _ _ _
         refine au_all [14] (by kernel_rfl) rfl ⟨.inl (ao_py rfl ?_), trivial⟩
         refine d_py hN2 (q_bslice rfl rfl rfl rfl (by exact rfl) (by decide) (by decide)) rfl rfl rfl rfl ?_
         change AU _ _ _ _ _ _ _ _
         refine au_all [15] (by kernel_rfl) rfl ⟨.inr (.inr (nw_append_own hN2 rfl rfl rfl rfl (by simp) rfl rfl (by rfl) (by rw [List.length_map, hdl]; simp [chunkA]; omega) rfl rfl rfl rfl ?_)), trivial⟩
         change AU _ _ _ _ _ _ _ _
         refine au_take 16 rfl (by kernel_rfl) (by kernel_rfl) rfl (wi_assign hN2 rfl rfl rfl rfl rfl rfl) ?_; refine yD ?_; change AWP _ _ _ _  _
         refine rn1 ?_; refine zP (q_addi rfl rfl rfl (by omega)) ?_; refine zM ?_; refine aops_nil ?_
         exact ⟨⟨j + 1, ltj, trivial⟩, weak_scrub' rfl (zz4 (zz4 ⟨(cgO (by rw [doneMj_succ hjq]; simp [chunkA])), rfl, (zz3 ⟨(cgI (by dsimp only; omega)), rfl, trivial⟩)⟩)) ⟨(cgA (by rw [doneMj_succ hjq, List.map_append, List.map_cons, List.map_nil, ← map_cells]; rfl)), rfl, (ok_vals _), trivial⟩, by dsimp only; omega⟩
        refine d_py hN2 (q_bslice rfl rfl rfl rfl (by exact rfl) (by decide) (by decide)) rfl rfl rfl rfl ?_
        change AU _ _ _ _ _ _ _ _
        refine au_all [9] (by kernel_rfl) rfl ⟨.inr (.inr (nw_ocall hN2 rfl rfl (cloneVa_fo v.ps (by omega)) (.fn _ _ _ _ rfl rfl) rfl rfl rfl rfl rfl ?_)), trivial⟩
        change AU _ _ _ _ _ _ _ _
        refine au_all [12] (by kernel_rfl) rfl ⟨.inr (.inr (nw_append_own hN2 rfl rfl rfl rfl (by simp) rfl rfl (by rfl) (by simp [chunkA]; omega) rfl rfl rfl rfl ?_)), trivial⟩
        change AU _ _ _ _ _ _ _ _
        refine au_all [13] (by kernel_rfl) rfl ⟨.inr (.inr (nw_weak hN2 rfl rfl rfl rfl rfl (weak_frow2 44 3 50 4 rfl rfl rfl rfl (by decide) (by decide) (by simp) (okE_app (okE_map (fun _ => rfl) _) (by rfl)) (fz_app (fz_map (fun _ => rfl) _) (by intro e he; simp [chunkA] at he; subst he; rfl)) (by simp) (okE_app (okE_vals _) (by rfl)) (fz_app (fzs_vals _) (by intro e he; simp [chunkA] at he; subst he; rfl)) rfl) (q_build rfl rfl rfl) ?_)), trivial⟩
        change AU _ _ _ _ _ _ _ _
        refine au_all [14] (by kernel_rfl) rfl ⟨.inl (ao_py rfl ?_), trivial⟩
        refine d_py hN2 (q_bslice rfl rfl rfl rfl (by exact rfl) (by decide) (by decide)) rfl rfl rfl rfl ?_
        change AU _ _ _ _ _ _ _ _
        refine au_all [15] (by kernel_rfl) rfl ⟨.inr (.inr (nw_append_own hN2 rfl rfl rfl rfl (by simp) rfl rfl (by rfl) (by rw [List.length_map, hdl]; simp [chunkA]; omega) rfl rfl rfl rfl ?_)), trivial⟩
        change AU _ _ _ _ _ _ _ _
        refine au_take 16 rfl (by kernel_rfl) (by kernel_rfl) rfl (wi_assign hN2 rfl rfl rfl rfl rfl rfl) ?_; refine yD ?_; change AWP _ _ _ _  _
        refine rn1 ?_; refine zP (q_addi rfl rfl rfl (by omega)) ?_; refine zM ?_; refine aops_nil ?_
        exact ⟨⟨j + 1, ltj, trivial⟩, weak_scrub' rfl (zz4 (zz4 ⟨(cgO (by rw [doneMj_succ hjq]; simp [chunkA])), rfl, (zz3 ⟨(cgI (by dsimp only; omega)), rfl, trivial⟩)⟩)) ⟨(cgA (by rw [doneMj_succ hjq, List.map_append, List.map_cons, List.map_nil, ← map_cells]; rfl)), rfl, (ok_vals _), trivial⟩, by dsimp only; omega⟩
       refine d_py hN2 (q_bslice rfl rfl rfl rfl (by exact rfl) (by decide) (by decide)) rfl rfl rfl rfl ?_
       change AU _ _ _ _ _ _ _ _
       refine au_all [6] (by kernel_rfl) rfl ⟨.inr (.inr (nw_append_own hN2 rfl rfl rfl rfl (by simp) rfl rfl (by rfl) (by simp [chunkA]; omega) rfl rfl rfl rfl ?_)), trivial⟩
       change AU _ _ _ _ _ _ _ _
       refine au_all [9] (by kernel_rfl) rfl ⟨.inr (.inr (nw_ocall hN2 rfl rfl (cloneVa_fo v.ps (by omega)) (.fn _ _ _ _ rfl rfl) rfl rfl rfl rfl rfl ?_)), trivial⟩
       change AU _ _ _ _ _ _ _ _
       refine au_all [12] (by kernel_rfl) rfl ⟨.inr (.inr (nw_append_own hN2 rfl rfl rfl rfl (by simp) rfl rfl (by rfl) (by simp [chunkA]; omega) rfl rfl rfl rfl ?_)), trivial⟩
       change AU _ _ _ _ _ _ _ _
       refine au_all [13] (by kernel_rfl) rfl ⟨.inr (.inr (nw_weak hN2 rfl rfl rfl rfl rfl (weak_frow2 44 3 50 4 rfl rfl rfl rfl (by decide) (by decide) (by simp) (okE_app (okE_map (fun _ => rfl) _) (by rfl)) (fz_app (fz_map (fun _ => rfl) _) (by intro e he; simp [chunkA] at he; subst he; rfl)) (by simp) (okE_app (okE_vals _) (by rfl)) (fz_app (fzs_vals _) (by intro e he; simp [chunkA] at he; subst he; rfl)) rfl) (q_build rfl rfl rfl) ?_)), trivial⟩
       change AU _ _ _ _ _ _ _ _
       refine au_all [14] (by kernel_rfl) rfl ⟨.inl (ao_py rfl ?_), trivial⟩
       refine d_py hN2 (q_bslice rfl rfl rfl rfl (by exact rfl) (by decide) (by decide)) rfl rfl rfl rfl ?_
       change AU _ _ _ _ _ _ _ _
       refine au_all [15] (by kernel_rfl) rfl ⟨.inr (.inr (nw_append_own hN2 rfl rfl rfl rfl (by simp) rfl rfl (by rfl) (by rw [List.length_map, hdl]; simp [chunkA]; omega) rfl rfl rfl rfl ?_)), trivial⟩
       change AU _ _ _ _ _ _ _ _
       refine au_take 16 rfl (by kernel_rfl) (by kernel_rfl) rfl (wi_assign hN2 rfl rfl rfl rfl rfl rfl) ?_; refine yD ?_; change AWP _ _ _ _  _
       refine rn1 ?_; refine zP (q_addi rfl rfl rfl (by omega)) ?_; refine zM ?_; refine aops_nil ?_
       exact ⟨⟨j + 1, ltj, trivial⟩, weak_scrub' rfl (zz4 (zz4 ⟨(cgO (by rw [doneMj_succ hjq]; simp [chunkA])), rfl, (zz3 ⟨(cgI (by dsimp only; omega)), rfl, trivial⟩)⟩)) ⟨(cgA (by rw [doneMj_succ hjq, List.map_append, List.map_cons, List.map_nil, ← map_cells]; rfl)), rfl, (ok_vals _), trivial⟩, by dsimp only; omega⟩
      refine d_py hN2 (q_bslice rfl rfl rfl rfl (by exact rfl) (by decide) (by decide)) rfl rfl rfl rfl ?_
      change AU _ _ _ _ _ _ _ _
      refine au_all [5] (by kernel_rfl) rfl ⟨.inl (ao_py rfl ?_), trivial⟩
      refine d_py hN2 (q_bslice rfl rfl rfl rfl (by exact rfl) (by decide) (by decide)) rfl rfl rfl rfl ?_
      change AU _ _ _ _ _ _ _ _
      refine au_all [6] (by kernel_rfl) rfl ⟨.inr (.inr (nw_append_own hN2 rfl rfl rfl rfl (by simp) rfl rfl (by rfl) (by simp [chunkA]; omega) rfl rfl rfl rfl ?_)), trivial⟩
      change AU _ _ _ _ _ _ _ _
      refine au_all [9] (by kernel_rfl) rfl ⟨.inr (.inr (nw_ocall hN2 rfl rfl (cloneVa_fo v.ps (by omega)) (.fn _ _ _ _ rfl rfl) rfl rfl rfl rfl rfl ?_)), trivial⟩
      change AU _ _ _ _ _ _ _ _
      refine au_all [12] (by kernel_rfl) rfl ⟨.inr (.inr (nw_append_own hN2 rfl rfl rfl rfl (by simp) rfl rfl (by rfl) (by simp [chunkA]; omega) rfl rfl rfl rfl ?_)), trivial⟩
      change AU _ _ _ _ _ _ _ _
      refine au_all [13] (by kernel_rfl) rfl ⟨.inr (.inr (nw_weak hN2 rfl rfl rfl rfl rfl (weak_frow2 44 3 50 4 rfl rfl rfl rfl (by decide) (by decide) (by simp) (okE_app (okE_map (fun _ => rfl) _) (by rfl)) (fz_app (fz_map (fun _ => rfl) _) (by intro e he; simp [chunkA] at he; subst he; rfl)) (by simp) (okE_app (okE_vals _) (by rfl)) (fz_app (fzs_vals _) (by intro e he; simp [chunkA] at he; subst he; rfl)) rfl) (q_build rfl rfl rfl) ?_)), trivial⟩
      change AU _ _ _ _ _ _ _ _
      refine au_all [14] (by kernel_rfl) rfl ⟨.inl (ao_py rfl ?_), trivial⟩
      refine d_py hN2 (q_bslice rfl rfl rfl rfl (by exact rfl) (by decide) (by decide)) rfl rfl rfl rfl ?_
      change AU _ _ _ _ _ _ _ _
      refine au_all [15] (by kernel_rfl) rfl ⟨.inr (.inr (nw_append_own hN2 rfl rfl rfl rfl (by simp) rfl rfl (by rfl) (by rw [List.length_map, hdl]; simp [chunkA]; omega) rfl rfl rfl rfl ?_)), trivial⟩
      change AU _ _ _ _ _ _ _ _
      refine au_take 16 rfl (by kernel_rfl) (by kernel_rfl) rfl (wi_assign hN2 rfl rfl rfl rfl rfl rfl) ?_; refine yD ?_; change AWP _ _ _ _  _
      refine rn1 ?_; refine zP (q_addi rfl rfl rfl (by omega)) ?_; refine zM ?_; refine aops_nil ?_
      exact ⟨⟨j + 1, ltj, trivial⟩, weak_scrub' rfl (zz4 (zz4 ⟨(cgO (by rw [doneMj_succ hjq]; simp [chunkA])), rfl, (zz3 ⟨(cgI (by dsimp only; omega)), rfl, trivial⟩)⟩)) ⟨(cgA (by rw [doneMj_succ hjq, List.map_append, List.map_cons, List.map_nil, ← map_cells]; rfl)), rfl, (ok_vals _), trivial⟩, by dsimp only; omega⟩
     ·
      refine d_py hN2 (q_bslice rfl rfl rfl rfl (by exact rfl) (by decide) (by decide)) rfl rfl rfl rfl ?_
      change AU _ _ _ _ _ _ _ _
      refine au_all [3, 11] (by kernel_rfl) rfl ⟨.inr (.inr (nw_ocall hN2 rfl rfl (clone_fo v.nm (by omega)) (.fn _ _ _ _ rfl rfl) rfl rfl rfl rfl rfl ?_)), .inl (ao_py rfl ?_), trivial⟩
      ·
       change AU _ _ _ _ _ _ _ _
       refine au_all [6, 11] (by kernel_rfl) rfl ⟨.inr (.inr (nw_append_own hN2 rfl rfl rfl rfl (by simp) rfl rfl (by rfl) (by simp [chunkA]; omega) rfl rfl rfl rfl ?_)), .inl (ao_py rfl ?_), trivial⟩
       ·
        change AU _ _ _ _ _ _ _ _
        refine au_all [9, 11] (by kernel_rfl) rfl ⟨.inr (.inr (nw_ocall hN2 rfl rfl (cloneVa_fo v.ps (by omega)) (.fn _ _ _ _ rfl rfl) rfl rfl rfl rfl rfl ?_)), .inl (ao_py rfl ?_), trivial⟩
        ·
         change AU _ _ _ _ _ _ _ _
         refine au_all [11] (by kernel_rfl) rfl ⟨.inl (ao_py rfl ?_), trivial⟩
         refine d_py hN2 (q_bslice rfl rfl rfl rfl (by exact rfl) (by decide) (by decide)) rfl rfl rfl rfl ?_
         change AU _ _ _ _ _ _ _ _
         refine au_all [12] (by kernel_rfl) rfl ⟨.inr (.inr (nw_append_own hN2 rfl rfl rfl rfl (by simp) rfl rfl (by rfl) (by simp [chunkA]; omega) rfl rfl rfl rfl ?_)), trivial⟩
         change AU _ _ _ _ _ _ _ _
         refine au_all [13] (by kernel_rfl) rfl ⟨.inr (.inr (nw_weak hN2 rfl rfl rfl rfl rfl (weak_frow2 44 3 50 4 rfl rfl rfl rfl (by decide) (by decide) (by simp) (okE_app (okE_map (fun _ => rfl) _) (by rfl)) (fz_app (fz_map (fun _ => rfl) _) (by intro e he; simp [chunkA] at he; subst he; rfl)) (by simp) (okE_app (okE_vals _) (by rfl)) (fz_app (fzs_vals _) (by intro e he; simp [chunkA] at he; subst he; rfl)) rfl) (q_build rfl rfl rfl) ?_)), trivial⟩
         change AU _ _ _ _ _ _ _ _
         refine au_all [14] (by kernel_rfl) rfl ⟨.inl (ao_py rfl ?_), trivial⟩
         refine d_py hN2 (q_bslice rfl rfl rfl rfl (by exact rfl) (by decide) (by decide)) rfl rfl rfl rfl ?_
         change AU _ _ _ _ _ _ _ _
         refine au_all [15] (by kernel_rfl) rfl ⟨.inr (.inr (nw_append_own hN2 rfl rfl rfl rfl (by simp) rfl rfl (by rfl) (by rw [List.length_map, hdl]; simp [chunkA]; omega) rfl rfl rfl rfl ?_)), trivial⟩
         change AU _ _ _ _ _ _ _ _
         refine au_take 16 rfl (by kernel_rfl) (by kernel_rfl) rfl (wi_assign hN2 rfl rfl rfl rfl rfl rfl) ?_; refine yD ?_; change AWP _ _ _ _  _
         refine rn1 ?_; refine zP (q_addi rfl rfl rfl (by omega)) ?_; refine zM ?_; refine aops_nil ?_
         exact ⟨⟨j + 1, ltj, trivial⟩, weak_scrub' rfl (zz4 (zz4 ⟨(cgO (by rw [doneMj_succ hjq]; simp [chunkA])), rfl, (zz3 ⟨(cgI (by dsimp only; omega)), rfl, trivial⟩)⟩)) ⟨(cgA (by rw [doneMj_succ hjq, List.map_append, List.map_cons, List.map_nil, ← map_cells]; rfl)), rfl, (ok_vals _), trivial⟩, by dsimp only; omega⟩
        refine d_py hN2 (q_bslice rfl rfl rfl rfl (by exact rfl) (by decide) (by decide)) rfl rfl rfl rfl ?_
        change AU _ _ _ _ _ _ _ _
        refine au_all [9] (by kernel_rfl) rfl ⟨.inr (.inr (nw_ocall hN2 rfl rfl (cloneVa_fo v.ps (by omega)) (.fn _ _ _ _ rfl rfl) rfl rfl rfl rfl rfl ?_)), trivial⟩
        change AU _ _ _ _ _ _ _ _
        refine au_all [12] (by kernel_rfl) rfl ⟨.inr (.inr (nw_append_own hN2 rfl rfl rfl rfl (by simp) rfl rfl (by rfl) (by simp [chunkA]; omega) rfl rfl rfl rfl ?_)), trivial⟩
        change AU _ _ _ _ _ _ _ _
        refine au_all [13] (by kernel_rfl) rfl ⟨.inr (.inr (nw_weak hN2 rfl rfl rfl rfl rfl (weak_frow2 44 3 50 4 rfl rfl rfl rfl (by decide) (by decide) (by simp) (okE_app (okE_map (fun _ => rfl) _) (by rfl)) (fz_app (fz_map (fun _ => rfl) _) (by intro e he; simp [chunkA] at he; subst he; rfl)) (by simp) (okE_app (okE_vals _) (by rfl)) (fz_app (fzs_vals _) (by intro e he; simp [chunkA] at he; subst he; rfl)) rfl) (q_build rfl rfl rfl) ?_)), trivial⟩
        change AU _ _ _ _ _ _ _ _
        refine au_all [14] (by kernel_rfl) rfl ⟨.inl (ao_py rfl ?_), trivial⟩
        refine d_py hN2 (q_bslice rfl rfl rfl rfl (by exact rfl) (by decide) (by decide)) rfl rfl rfl rfl ?_
        change AU _ _ _ _ _ _ _ _
        refine au_all [15] (by kernel_rfl) rfl ⟨.inr (.inr (nw_append_own hN2 rfl rfl rfl rfl (by simp) rfl rfl (by rfl) (by rw [List.length_map, hdl]; simp [chunkA]; omega) rfl rfl rfl rfl ?_)), trivial⟩
        change AU _ _ _ _ _ _ _ _
        refine au_take 16 rfl (by kernel_rfl) (by kernel_rfl) rfl (wi_assign hN2 rfl rfl rfl rfl rfl rfl) ?_; refine yD ?_; change AWP _ _ _ _  _
        refine rn1 ?_; refine zP (q_addi rfl rfl rfl (by omega)) ?_; refine zM ?_; refine aops_nil ?_
        exact ⟨⟨j + 1, ltj, trivial⟩, weak_scrub' rfl (zz4 (zz4 ⟨(cgO (by rw [doneMj_succ hjq]; simp [chunkA])), rfl, (zz3 ⟨(cgI (by dsimp only; omega)), rfl, trivial⟩)⟩)) ⟨(cgA (by rw [doneMj_succ hjq, List.map_append, List.map_cons, List.map_nil, ← map_cells]; rfl)), rfl, (ok_vals _), trivial⟩, by dsimp only; omega⟩
       refine d_py hN2 (q_bslice rfl rfl rfl rfl (by exact rfl) (by decide) (by decide)) rfl rfl rfl rfl ?_
       change AU _ _ _ _ _ _ _ _
       refine au_all [6] (by kernel_rfl) rfl ⟨.inr (.inr (nw_append_own hN2 rfl rfl rfl rfl (by simp) rfl rfl (by rfl) (by simp [chunkA]; omega) rfl rfl rfl rfl ?_)), trivial⟩
       change AU _ _ _ _ _ _ _ _
       refine au_all [9] (by kernel_rfl) rfl ⟨.inr (.inr (nw_ocall hN2 rfl rfl (cloneVa_fo v.ps (by omega)) (.fn _ _ _ _ rfl rfl) rfl rfl rfl rfl rfl ?_)), trivial⟩
       change AU _ _ _ _ _ _ _ _
       refine au_all [12] (by kernel_rfl) rfl ⟨.inr (.inr (nw_append_own hN2 rfl rfl rfl rfl (by simp) rfl rfl (by rfl) (by simp [chunkA]; omega) rfl rfl rfl rfl ?_)), trivial⟩
       change AU _ _ _ _ _ _ _ _
       refine au_all [13] (by kernel_rfl) rfl ⟨.inr (.inr (nw_weak hN2 rfl rfl rfl rfl rfl (weak_frow2 44 3 50 4 rfl rfl rfl rfl (by decide) (by decide) (by simp) (okE_app (okE_map (fun _ => rfl) _) (by rfl)) (fz_app (fz_map (fun _ => rfl) _) (by intro e he; simp [chunkA] at he; subst he; rfl)) (by simp) (okE_app (okE_vals _) (by rfl)) (fz_app (fzs_vals _) (by intro e he; simp [chunkA] at he; subst he; rfl)) rfl) (q_build rfl rfl rfl) ?_)), trivial⟩
       change AU _ _ _ _ _ _ _ _
       refine au_all [14] (by kernel_rfl) rfl ⟨.inl (ao_py rfl ?_), trivial⟩
       refine d_py hN2 (q_bslice rfl rfl rfl rfl (by exact rfl) (by decide) (by decide)) rfl rfl rfl rfl ?_
       change AU _ _ _ _ _ _ _ _
       refine au_all [15] (by kernel_rfl) rfl ⟨.inr (.inr (nw_append_own hN2 rfl rfl rfl rfl (by simp) rfl rfl (by rfl) (by rw [List.length_map, hdl]; simp [chunkA]; omega) rfl rfl rfl rfl ?_)), trivial⟩
       change AU _ _ _ _ _ _ _ _
       refine au_take 16 rfl (by kernel_rfl) (by kernel_rfl) rfl (wi_assign hN2 rfl rfl rfl rfl rfl rfl) ?_; refine yD ?_; change AWP _ _ _ _  _
       refine rn1 ?_; refine zP (q_addi rfl rfl rfl (by omega)) ?_; refine zM ?_; refine aops_nil ?_
       exact ⟨⟨j + 1, ltj, trivial⟩, weak_scrub' rfl (zz4 (zz4 ⟨(cgO (by rw [doneMj_succ hjq]; simp [chunkA])), rfl, (zz3 ⟨(cgI (by dsimp only; omega)), rfl, trivial⟩)⟩)) ⟨(cgA (by rw [doneMj_succ hjq, List.map_append, List.map_cons, List.map_nil, ← map_cells]; rfl)), rfl, (ok_vals _), trivial⟩, by dsimp only; omega⟩
      refine d_py hN2 (q_bslice rfl rfl rfl rfl (by exact rfl) (by decide) (by decide)) rfl rfl rfl rfl ?_
      change AU _ _ _ _ _ _ _ _
      refine au_all [3] (by kernel_rfl) rfl ⟨.inr (.inr (nw_ocall hN2 rfl rfl (clone_fo v.nm (by omega)) (.fn _ _ _ _ rfl rfl) rfl rfl rfl rfl rfl ?_)), trivial⟩
      change AU _ _ _ _ _ _ _ _
      refine au_all [6] (by kernel_rfl) rfl ⟨.inr (.inr (nw_append_own hN2 rfl rfl rfl rfl (by simp) rfl rfl (by rfl) (by simp [chunkA]; omega) rfl rfl rfl rfl ?_)), trivial⟩
      change AU _ _ _ _ _ _ _ _
      refine au_all [9] (by kernel_rfl) rfl ⟨.inr (.inr (nw_ocall hN2 rfl rfl (cloneVa_fo v.ps (by omega)) (.fn _ _ _ _ rfl rfl) rfl rfl rfl rfl rfl ?_)), trivial⟩
      change AU _ _ _ _ _ _ _ _
      refine au_all [12] (by kernel_rfl) rfl ⟨.inr (.inr (nw_append_own hN2 rfl rfl rfl rfl (by simp) rfl rfl (by rfl) (by simp [chunkA]; omega) rfl rfl rfl rfl ?_)), trivial⟩
      change AU _ _ _ _ _ _ _ _
      refine au_all [13] (by kernel_rfl) rfl ⟨.inr (.inr (nw_weak hN2 rfl rfl rfl rfl rfl (weak_frow2 44 3 50 4 rfl rfl rfl rfl (by decide) (by decide) (by simp) (okE_app (okE_map (fun _ => rfl) _) (by rfl)) (fz_app (fz_map (fun _ => rfl) _) (by intro e he; simp [chunkA] at he; subst he; rfl)) (by simp) (okE_app (okE_vals _) (by rfl)) (fz_app (fzs_vals _) (by intro e he; simp [chunkA] at he; subst he; rfl)) rfl) (q_build rfl rfl rfl) ?_)), trivial⟩
      change AU _ _ _ _ _ _ _ _
      refine au_all [14] (by kernel_rfl) rfl ⟨.inl (ao_py rfl ?_), trivial⟩
      refine d_py hN2 (q_bslice rfl rfl rfl rfl (by exact rfl) (by decide) (by decide)) rfl rfl rfl rfl ?_
      change AU _ _ _ _ _ _ _ _
      refine au_all [15] (by kernel_rfl) rfl ⟨.inr (.inr (nw_append_own hN2 rfl rfl rfl rfl (by simp) rfl rfl (by rfl) (by rw [List.length_map, hdl]; simp [chunkA]; omega) rfl rfl rfl rfl ?_)), trivial⟩
      change AU _ _ _ _ _ _ _ _
      refine au_take 16 rfl (by kernel_rfl) (by kernel_rfl) rfl (wi_assign hN2 rfl rfl rfl rfl rfl rfl) ?_; refine yD ?_; change AWP _ _ _ _  _
      refine rn1 ?_; refine zP (q_addi rfl rfl rfl (by omega)) ?_; refine zM ?_; refine aops_nil ?_
      exact ⟨⟨j + 1, ltj, trivial⟩, weak_scrub' rfl (zz4 (zz4 ⟨(cgO (by rw [doneMj_succ hjq]; simp [chunkA])), rfl, (zz3 ⟨(cgI (by dsimp only; omega)), rfl, trivial⟩)⟩)) ⟨(cgA (by rw [doneMj_succ hjq, List.map_append, List.map_cons, List.map_nil, ← map_cells]; rfl)), rfl, (ok_vals _), trivial⟩, by dsimp only; omega⟩
     refine d_py hN2 (q_bslice rfl rfl rfl rfl (by exact rfl) (by decide) (by decide)) rfl rfl rfl rfl ?_
     change AU _ _ _ _ _ _ _ _
     refine au_all [3, 5] (by kernel_rfl) rfl ⟨.inr (.inr (nw_ocall hN2 rfl rfl (clone_fo v.nm (by omega)) (.fn _ _ _ _ rfl rfl) rfl rfl rfl rfl rfl ?_)), .inl (ao_py rfl ?_), trivial⟩
     ·
      change AU _ _ _ _ _ _ _ _
      refine au_all [5] (by kernel_rfl) rfl ⟨.inl (ao_py rfl ?_), trivial⟩
      refine d_py hN2 (q_bslice rfl rfl rfl rfl (by exact rfl) (by decide) (by decide)) rfl rfl rfl rfl ?_
      change AU _ _ _ _ _ _ _ _
      refine au_all [6] (by kernel_rfl) rfl ⟨.inr (.inr (nw_append_own hN2 rfl rfl rfl rfl (by simp) rfl rfl (by rfl) (by simp [chunkA]; omega) rfl rfl rfl rfl ?_)), trivial⟩
      change AU _ _ _ _ _ _ _ _
      refine au_all [9] (by kernel_rfl) rfl ⟨.inr (.inr (nw_ocall hN2 rfl rfl (cloneVa_fo v.ps (by omega)) (.fn _ _ _ _ rfl rfl) rfl rfl rfl rfl rfl ?_)), trivial⟩
      change AU _ _ _ _ _ _ _ _
      refine au_all [12] (by kernel_rfl) rfl ⟨.inr (.inr (nw_append_own hN2 rfl rfl rfl rfl (by simp) rfl rfl (by rfl) (by simp [chunkA]; omega) rfl rfl rfl rfl ?_)), trivial⟩
      change AU _ _ _ _ _ _ _ _
      refine au_all [13] (by kernel_rfl) rfl ⟨.inr (.inr (nw_weak hN2 rfl rfl rfl rfl rfl (weak_frow2 44 3 50 4 rfl rfl rfl rfl (by decide) (by decide) (by simp) (okE_app (okE_map (fun _ => rfl) _) (by rfl)) (fz_app (fz_map (fun _ => rfl) _) (by intro e he; simp [chunkA] at he; subst he; rfl)) (by simp) (okE_app (okE_vals _) (by rfl)) (fz_app (fzs_vals _) (by intro e he; simp [chunkA] at he; subst he; rfl)) rfl) (q_build rfl rfl rfl) ?_)), trivial⟩
      change AU _ _ _ _ _ _ _ _
      refine au_all [14] (by kernel_rfl) rfl ⟨.inl (ao_py rfl ?_), trivial⟩
      refine d_py hN2 (q_bslice rfl rfl rfl rfl (by exact rfl) (by decide) (by decide)) rfl rfl rfl rfl ?_
      change AU _ _ _ _ _ _ _ _
      refine au_all [15] (by kernel_rfl) rfl ⟨.inr (.inr (nw_append_own hN2 rfl rfl rfl rfl (by simp) rfl rfl (by rfl) (by rw [List.length_map, hdl]; simp [chunkA]; omega) rfl rfl rfl rfl ?_)), trivial⟩
      change AU _ _ _ _ _ _ _ _
      refine au_take 16 rfl (by kernel_rfl) (by kernel_rfl) rfl (wi_assign hN2 rfl rfl rfl rfl rfl rfl) ?_; refine yD ?_; change AWP _ _ _ _  _
      refine rn1 ?_; refine zP (q_addi rfl rfl rfl (by omega)) ?_; refine zM ?_; refine aops_nil ?_
      exact ⟨⟨j + 1, ltj, trivial⟩, weak_scrub' rfl (zz4 (zz4 ⟨(cgO (by rw [doneMj_succ hjq]; simp [chunkA])), rfl, (zz3 ⟨(cgI (by dsimp only; omega)), rfl, trivial⟩)⟩)) ⟨(cgA (by rw [doneMj_succ hjq, List.map_append, List.map_cons, List.map_nil, ← map_cells]; rfl)), rfl, (ok_vals _), trivial⟩, by dsimp only; omega⟩
     refine d_py hN2 (q_bslice rfl rfl rfl rfl (by exact rfl) (by decide) (by decide)) rfl rfl rfl rfl ?_
     change AU _ _ _ _ _ _ _ _
     refine au_all [3] (by kernel_rfl) rfl ⟨.inr (.inr (nw_ocall hN2 rfl rfl (clone_fo v.nm (by omega)) (.fn _ _ _ _ rfl rfl) rfl rfl rfl rfl rfl ?_)), trivial⟩
     change AU _ _ _ _ _ _ _ _
     refine au_all [6] (by kernel_rfl) rfl ⟨.inr (.inr (nw_append_own hN2 rfl rfl rfl rfl (by simp) rfl rfl (by rfl) (by simp [chunkA]; omega) rfl rfl rfl rfl ?_)), trivial⟩
     change AU _ _ _ _ _ _ _ _
     refine au_all [9] (by kernel_rfl) rfl ⟨.inr (.inr (nw_ocall hN2 rfl rfl (cloneVa_fo v.ps (by omega)) (.fn _ _ _ _ rfl rfl) rfl rfl rfl rfl rfl ?_)), trivial⟩
     change AU _ _ _ _ _ _ _ _
     refine au_all [12] (by kernel_rfl) rfl ⟨.inr (.inr (nw_append_own hN2 rfl rfl rfl rfl (by simp) rfl rfl (by rfl) (by simp [chunkA]; omega) rfl rfl rfl rfl ?_)), trivial⟩
     change AU _ _ _ _ _ _ _ _
     refine au_all [13] (by kernel_rfl) rfl ⟨.inr (.inr (nw_weak hN2 rfl rfl rfl rfl rfl (weak_frow2 44 3 50 4 rfl rfl rfl rfl (by decide) (by decide) (by simp) (okE_app (okE_map (fun _ => rfl) _) (by rfl)) (fz_app (fz_map (fun _ => rfl) _) (by intro e he; simp [chunkA] at he; subst he; rfl)) (by simp) (okE_app (okE_vals _) (by rfl)) (fz_app (fzs_vals _) (by intro e he; simp [chunkA] at he; subst he; rfl)) rfl) (q_build rfl rfl rfl) ?_)), trivial⟩
     change AU _ _ _ _ _ _ _ _
     refine au_all [14] (by kernel_rfl) rfl ⟨.inl (ao_py rfl ?_), trivial⟩
     refine d_py hN2 (q_bslice rfl rfl rfl rfl (by exact rfl) (by decide) (by decide)) rfl rfl rfl rfl ?_
     change AU _ _ _ _ _ _ _ _
     refine au_all [15] (by kernel_rfl) rfl ⟨.inr (.inr (nw_append_own hN2 rfl rfl rfl rfl (by simp) rfl rfl (by rfl) (by rw [List.length_map, hdl]; simp [chunkA]; omega) rfl rfl rfl rfl ?_)), trivial⟩
     change AU _ _ _ _ _ _ _ _
     refine au_take 16 rfl (by kernel_rfl) (by kernel_rfl) rfl (wi_assign hN2 rfl rfl rfl rfl rfl rfl) ?_; refine yD ?_; change AWP _ _ _ _  _
     refine rn1 ?_; refine zP (q_addi rfl rfl rfl (by omega)) ?_; refine zM ?_; refine aops_nil ?_
     exact ⟨⟨j + 1, ltj, trivial⟩, weak_scrub' rfl (zz4 (zz4 ⟨(cgO (by rw [doneMj_succ hjq]; simp [chunkA])), rfl, (zz3 ⟨(cgI (by dsimp only; omega)), rfl, trivial⟩)⟩)) ⟨(cgA (by rw [doneMj_succ hjq, List.map_append, List.map_cons, List.map_nil, ← map_cells]; rfl)), rfl, (ok_vals _), trivial⟩, by dsimp only; omega⟩
    have gej : L.length ≤ j := by simpa using h46
    have hdl := doneMj_len (key := key) (out := (mapsV (names.take i) L)) (L := L) (v := v) (show k ≤ (mapsV (names.take i) L).length by omega) (show j ≤ L.length by omega)
    refine rn4 ?_; refine zP (q_len_own rfl rfl (by rfl) (by simp)) ?_
    refine zP (q_binb (b := false) rfl rfl rfl (by simp; omega)) ?_
    refine zN ?_; refine c_false rfl rfl ?_; refine rn2 ?_; refine zP (q_addi rfl rfl rfl (by omega)) ?_; refine zM ?_; refine aops_nil ?_
    exact ⟨⟨k + 1, ltk, trivial⟩, weak_scrub' rfl (zz4 (zz3 ⟨(cgI (by dsimp only; omega)), rfl, (cgO (by rw [doneMj_row hkv gej])), rfl, trivial⟩)) ⟨(cgA (by rw [doneMj_row hkv gej])), rfl, (ok_vals _), trivial⟩, by dsimp only; omega⟩
   have gek : (mapsV (names.take i) L).length ≤ k := by simpa using h24
   refine rn6 ?_; refine zP (q_addi rfl rfl rfl (by omega)) ?_; refine zM ?_; refine aops_nil ?_
   by_cases hlast : i + 1 < names.length
   ·exact ⟨.inl ⟨i + 1, hlast⟩, Weak.trans (weak_frow 6 0 rfl rfl (by simp) (okE_vals _) (fzs_vals _) rfl) (weak_scrub' rfl (zz3 ⟨(cgI (by dsimp only; omega)), rfl, (cgVv (by rw [doneM_end gek, mapsV_take hik])), rfl, trivial⟩) trivial), by dsimp only; omega⟩
   have hpe : doneM key (mapsV (names.take i) L) L k = mapsV names L := by
    rw [doneM_end gek, ← mapsV_take hik, List.take_of_length_le (by omega)]
   exact ⟨.inr (), weak_scrub' rfl (zz3 ⟨(cgI (by omega)), rfl, (cgO (by rw [hpe])), rfl, trivial⟩) ⟨(cgA (by rw [hpe])), rfl, (ok_vals _), trivial⟩, by show 0 < names.length - i; omega⟩
  exfalso; simp at h11; omega
 skip
 refine rn5 ?_
 refine zq ?_ ?_ <;> intro h158
 ·
  exfalso; simp at h158
 refine rn7 ?_; refine awp_ret ?_
 change (resX _ _).ntt = _ ∧ _
 refine ret_x rfl ?_ rfl rfl rfl ⟨rfl, rfl, ok_vals _, trivial⟩
 rfl
end Go.Proofs.YtaecccdkjmipeaaGreat
