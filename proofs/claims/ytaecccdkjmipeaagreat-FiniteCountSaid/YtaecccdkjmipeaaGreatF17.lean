/-
  Contracts: finite.products, when a part fails or there are too many (seat r5).
-/
import Derived.Test.YtaecccdkjmipeaaGreatF16
namespace Go.Proofs.YtaecccdkjmipeaaGreat
open Go.RowKit
set_option maxRecDepth 100000 in
set_option maxHeartbeats 1000000 in
theorem productsN_fc (parts : List Lat) (Ls : List (List Val)) (i0 : Nat) (hi0 : i0 < parts.length) (hl : Ls.length = i0) (hA : ∀ (i : Nat) (p : Lat) (L : List Val), parts[i]? = some p → Ls[i]? = some L → GV 48 [.agg (latL p)] L 0 1) (hF : ∀ p, parts[i0]? = some p → FC Tryz.prog 48 [.agg (latL p)] (.tup [.sl [] none, bl false]) ∨ ∃ L, GV 48 [.agg (latL p)] L 0 1 ∧ L.length ≤ 256 ∧ 256 < (prodV Ls).length * L.length) (h256 : ∀ i, i ≤ Ls.length → (prodV (Ls.take i)).length ≤ 256) (hL : ∀ L ∈ Ls, L.length ≤ 256) (h64 : parts.length ≤ 64) : FC Tryz.prog 78 [.sl (parts.map latC) none] (.tup [.sl [] none, bl false]) := by
 refine fc_of_awp [2, 3] Tryz.func78 rfl rfl 64 Tryz.ntmps78 (Nat.le_of_ble_eq_true rfl) ?_
 intro E hN
 refine rn8 ?_; refine zP (q_bslice rfl rfl rfl rfl (by exact rfl) (by decide) (by decide)) ?_; refine rn10 ?_
 refine awp_loop (fun x : {i : Nat // i ≤ i0 ∧ True} => ⟨[(16, .sl (parts.map latC) none), (17, i64 parts.length), (18, i64 (x.1 : Nat)), (4, vals (prodV (Ls.take x.1)))], [], 0⟩) (fun x => i0 - x.1) (⟨0, Nat.zero_le _, by trivial⟩) ?_ ?_
 ·
  exact weak_scrub' rfl (zz1 ⟨(cgI (by simp)), rfl, rfl, rfl, start_v, rfl, trivial⟩) trivial
 rintro ⟨i, hi, gi⟩
 dsimp only
 have hip0 : i < parts.length := by omega
 obtain ⟨pl, hip⟩ := get_lt hip0
 have hcs : i < i0 ∨ (i = i0 ∧ FC Tryz.prog 48 [.agg (latL pl)] (.tup [.sl [] none, bl false])) ∨ (i = i0 ∧ ∃ L, GV 48 [.agg (latL pl)] L 0 1 ∧ L.length ≤ 256 ∧ 256 < (prodV Ls).length * L.length) := by
  rcases Nat.lt_or_ge i i0 with h | h
  ·exact .inl h
  have e : i = i0 := by omega
  subst e
  rcases hF pl hip with h | h
  ·exact .inr (.inl ⟨rfl, h⟩)
  exact .inr (.inr ⟨rfl, h⟩)
 rcases hcs with lti | ⟨ei, hN1⟩ | ⟨ei, L, hN2', hLl, hbig⟩
 ·
  obtain ⟨L, hiL⟩ := get_lt (show i < Ls.length by omega)
  have hLl := hL L (List.mem_of_getElem? hiL)
  have h2i := h256 i (by omega)
  refine rn5 ?_
  refine zq ?_ ?_ <;> intro h9
  ·
   refine rn5 ?_; refine zP (q_elem rfl rfl rfl i rfl _ (lat_get hip) rfl) ?_; refine rn7 ?_
   refine s_xcall hN [] (hA i pl L hip hiL) (.fn _ _ _ _ rfl rfl) rfl rfl rfl trivial rfl ⟨in_fz (fzs_vals _), trivial⟩ rfl (Hn := [(1, .arr 30 4 (L.map valC))]) (ren_arr (fzs_vals _)) rfl rfl rfl rfl rfl rfl ?_
   refine rn8 ?_; refine awp_weak (weak_frow 7 1 rfl rfl (by simp) (okE_vals _) (fzs_vals _) rfl) ?_; refine rn9 ?_
   refine zP (q_binb (b := false) rfl rfl rfl (congrArg Value.bool (small_mul (a := ((prodV (Ls.take i)).map valC).length) (b := (L.map valC).length) (by simp only [List.length_map]; have := h256 (i + 1) (by omega); rw [prodV_take hiL, stepV_len] at this; exact this)))) ?_
   refine zh0 rfl ?_; refine zN ?_; refine c_false rfl rfl ?_; refine rn13 ?_; refine awp_weak (weak_own rfl 9 30 4 rfl) ?_
   refine awp_loop (fun x : {k : Nat // k ≤ (prodV (Ls.take i)).length ∧ True} => ⟨[(16, .sl (parts.map latC) none), (17, i64 parts.length), (18, i64 (i : Nat)), (7, vals L), (37, vals (prodV (Ls.take i))), (38, i64 (prodV (Ls.take i)).length), (39, i64 (x.1 : Nat)), (9, .own 2 (doneV (prodV (Ls.take i)) L x.1 0).length)], [(2, .arr 30 4 ((doneV (prodV (Ls.take i)) L x.1 0).map valC))], 3⟩) (fun x => (prodV (Ls.take i)).length - x.1) (⟨0, Nat.zero_le _, by trivial⟩) ?_ ?_
   ·
    exact weak_scrub' rfl (zz4 (zz1 ⟨(cgI (by simp)), rfl, rfl, rfl, (cgO (by rw [doneV_zero]; rfl)), rfl, trivial⟩)) ⟨(cgA (by rw [doneV_zero]; rfl)), rfl, (ok_vals _), trivial⟩
   rintro ⟨k, hk, gk⟩
   dsimp only
   refine rn5 ?_
   refine zq ?_ ?_ <;> intro h30
   ·
    have ltk : k < (prodV (Ls.take i)).length := by simpa using h30
    obtain ⟨v, hkv⟩ := get_lt ltk
    have hvp := prodV_ps _ v (List.mem_of_getElem? hkv)
    rw [List.length_take] at hvp
    refine rn5 ?_; refine zP (q_elem rfl rfl rfl k rfl _ (val_get hkv) rfl) ?_; refine rn11 ?_
    refine awp_loop (fun x : {j : Nat // j ≤ L.length ∧ True} => ⟨[(16, .sl (parts.map latC) none), (17, i64 parts.length), (18, i64 (i : Nat)), (7, vals L), (37, vals (prodV (Ls.take i))), (38, i64 (prodV (Ls.take i)).length), (39, i64 (k : Nat)), (9, .own 2 (doneV (prodV (Ls.take i)) L k x.1).length), (11, .ptr 3 0), (43, vals L), (44, i64 L.length), (45, i64 (x.1 : Nat))], [(2, .arr 30 4 ((doneV (prodV (Ls.take i)) L k x.1).map valC)), (3, .var 30 (valL v))], 4⟩) (fun x => L.length - x.1) (⟨0, Nat.zero_le _, by trivial⟩) ?_ ?_
    ·
     exact weak_scrub' rfl (zz4 (zz4 (zz2 ⟨(cgI (by simp)), rfl, (zz1 trivial)⟩))) ⟨rfl, rfl, (ok_vals _), rfl, rfl, rfl, trivial⟩
    rintro ⟨j, hj, gj⟩
    dsimp only
    refine rn5 ?_
    refine zq ?_ ?_ <;> intro h48
    ·
     have ltj : j < L.length := by simpa using h48
     obtain ⟨q, hjq⟩ := get_lt ltj
     refine rn5 ?_; refine zP (q_elem rfl rfl rfl j rfl _ (val_get hjq) rfl) ?_; refine rn4 ?_
     refine awp_takeN 11 rfl (by kernel_rfl) (by kernel_rfl) (fun _ _ h => h) ?_; refine yM 0 ?_
     refine au_take 1 rfl (by kernel_rfl) (by kernel_rfl) rfl (wi_fieldAddr hN rfl rfl rfl rfl rfl rfl rfl rfl) ?_
     refine au_all [2, 4] (by kernel_rfl) rfl ⟨.inl (ao_py rfl ?_), .inl (ao_py rfl ?_), trivial⟩
     ·
      refine zl ?_
      change AU _ _ _ _ _ _ _ _
      refine au_all [3, 4] (by kernel_rfl) rfl ⟨.inr (.inr (nw_ocall hN rfl rfl (cloneVa_fo v.ps (by omega)) (.fn _ _ _ _ rfl rfl) rfl rfl rfl rfl rfl ?_)), .inl (ao_py rfl ?_), trivial⟩
      ·
       change AU _ _ _ _ _ _ _ _
       refine yL 4 ?_; refine yP 5 rfl (q_bslice rfl rfl rfl rfl (by exact rfl) (by decide) (by decide)) ?_
       refine au_all [6] (by kernel_rfl) rfl ⟨.inr (.inr (nw_append_own hN rfl rfl rfl rfl (by simp) rfl rfl (by rfl) (by simp [chunkA]; omega) rfl rfl rfl rfl ?_)), trivial⟩
       change AU _ _ _ _ _ _ _ _
       refine au_all [7] (by kernel_rfl) rfl ⟨.inr (.inr (nw_weak hN rfl rfl rfl rfl rfl (weak_frow 55 5 rfl rfl (by simp) (okE_app (okE_vals _) (by rfl)) (fz_app (fzs_vals _) (by intro e he; simp [chunkA] at he; subst he; rfl)) rfl) (q_build rfl rfl rfl) ?_)), trivial⟩
       change AU _ _ _ _ _ _ _ _
       refine yP 8 rfl (q_bslice rfl rfl rfl rfl (by exact rfl) (by decide) (by decide)) ?_
       refine au_all [9] (by kernel_rfl) rfl ⟨.inr (.inr (nw_append_own hN rfl rfl rfl rfl (by simp) rfl rfl (by rfl) (by have := doneV_len (L := L) ltk (show j ≤ L.length by omega); have := Nat.mul_le_mul h2i hLl; simp [chunkA]; omega) rfl rfl rfl rfl ?_)), trivial⟩
       change AU _ _ _ _ _ _ _ _
       refine yA 10 ?_; refine yD ?_; change AWP _ _ _ _  _; refine rn1 ?_; refine zP (q_addi rfl rfl rfl (by omega)) ?_; refine zM ?_
       refine aops_nil ?_
       exact ⟨⟨j + 1, ltj, trivial⟩, weak_scrub' rfl (zz4 (zz3 ⟨(cgO (by rw [doneV_succ hkv hjq]; simp [chunkA])), rfl, (zz3 ⟨(cgI (by dsimp only; omega)), rfl, trivial⟩)⟩)) ⟨(cgA (by rw [doneV_succ hkv hjq, List.map_append, List.map_cons, List.map_nil, ← done_cells])), rfl, (ok_vals _), rfl, rfl, rfl, trivial⟩, by dsimp only; omega⟩
      refine zl ?_
      change AU _ _ _ _ _ _ _ _
      refine au_all [3, 5] (by kernel_rfl) rfl ⟨.inr (.inr (nw_ocall hN rfl rfl (cloneVa_fo v.ps (by omega)) (.fn _ _ _ _ rfl rfl) rfl rfl rfl rfl rfl ?_)), .inl (ao_py rfl ?_), trivial⟩
      ·
       change AU _ _ _ _ _ _ _ _
       refine yP 5 rfl (q_bslice rfl rfl rfl rfl (by exact rfl) (by decide) (by decide)) ?_
       refine au_all [6] (by kernel_rfl) rfl ⟨.inr (.inr (nw_append_own hN rfl rfl rfl rfl (by simp) rfl rfl (by rfl) (by simp [chunkA]; omega) rfl rfl rfl rfl ?_)), trivial⟩
       change AU _ _ _ _ _ _ _ _
       refine au_all [7] (by kernel_rfl) rfl ⟨.inr (.inr (nw_weak hN rfl rfl rfl rfl rfl (weak_frow 55 5 rfl rfl (by simp) (okE_app (okE_vals _) (by rfl)) (fz_app (fzs_vals _) (by intro e he; simp [chunkA] at he; subst he; rfl)) rfl) (q_build rfl rfl rfl) ?_)), trivial⟩
       change AU _ _ _ _ _ _ _ _
       refine yP 8 rfl (q_bslice rfl rfl rfl rfl (by exact rfl) (by decide) (by decide)) ?_
       refine au_all [9] (by kernel_rfl) rfl ⟨.inr (.inr (nw_append_own hN rfl rfl rfl rfl (by simp) rfl rfl (by rfl) (by have := doneV_len (L := L) ltk (show j ≤ L.length by omega); have := Nat.mul_le_mul h2i hLl; simp [chunkA]; omega) rfl rfl rfl rfl ?_)), trivial⟩
       change AU _ _ _ _ _ _ _ _
       refine yA 10 ?_; refine yD ?_; change AWP _ _ _ _  _; refine rn1 ?_; refine zP (q_addi rfl rfl rfl (by omega)) ?_; refine zM ?_
       refine aops_nil ?_
       exact ⟨⟨j + 1, ltj, trivial⟩, weak_scrub' rfl (zz4 (zz3 ⟨(cgO (by rw [doneV_succ hkv hjq]; simp [chunkA])), rfl, (zz3 ⟨(cgI (by dsimp only; omega)), rfl, trivial⟩)⟩)) ⟨(cgA (by rw [doneV_succ hkv hjq, List.map_append, List.map_cons, List.map_nil, ← done_cells])), rfl, (ok_vals _), rfl, rfl, rfl, trivial⟩, by dsimp only; omega⟩
      refine zp (q_bslice rfl rfl rfl rfl (by exact rfl) (by decide) (by decide)) ?_
      change AU _ _ _ _ _ _ _ _
      refine au_all [3] (by kernel_rfl) rfl ⟨.inr (.inr (nw_ocall hN rfl rfl (cloneVa_fo v.ps (by omega)) (.fn _ _ _ _ rfl rfl) rfl rfl rfl rfl rfl ?_)), trivial⟩
      change AU _ _ _ _ _ _ _ _
      refine au_all [6] (by kernel_rfl) rfl ⟨.inr (.inr (nw_append_own hN rfl rfl rfl rfl (by simp) rfl rfl (by rfl) (by simp [chunkA]; omega) rfl rfl rfl rfl ?_)), trivial⟩
      change AU _ _ _ _ _ _ _ _
      refine au_all [7] (by kernel_rfl) rfl ⟨.inr (.inr (nw_weak hN rfl rfl rfl rfl rfl (weak_frow 55 5 rfl rfl (by simp) (okE_app (okE_vals _) (by rfl)) (fz_app (fzs_vals _) (by intro e he; simp [chunkA] at he; subst he; rfl)) rfl) (q_build rfl rfl rfl) ?_)), trivial⟩
      change AU _ _ _ _ _ _ _ _
      refine yP 8 rfl (q_bslice rfl rfl rfl rfl (by exact rfl) (by decide) (by decide)) ?_
      refine au_all [9] (by kernel_rfl) rfl ⟨.inr (.inr (nw_append_own hN rfl rfl rfl rfl (by simp) rfl rfl (by rfl) (by have := doneV_len (L := L) ltk (show j ≤ L.length by omega); have := Nat.mul_le_mul h2i hLl; simp [chunkA]; omega) rfl rfl rfl rfl ?_)), trivial⟩
      change AU _ _ _ _ _ _ _ _
      refine yA 10 ?_; refine yD ?_; change AWP _ _ _ _  _; refine rn1 ?_; refine zP (q_addi rfl rfl rfl (by omega)) ?_; refine zM ?_
      refine aops_nil ?_
      exact ⟨⟨j + 1, ltj, trivial⟩, weak_scrub' rfl (zz4 (zz3 ⟨(cgO (by rw [doneV_succ hkv hjq]; simp [chunkA])), rfl, (zz3 ⟨(cgI (by dsimp only; omega)), rfl, trivial⟩)⟩)) ⟨(cgA (by rw [doneV_succ hkv hjq, List.map_append, List.map_cons, List.map_nil, ← done_cells])), rfl, (ok_vals _), rfl, rfl, rfl, trivial⟩, by dsimp only; omega⟩
     refine zl ?_
     change AU _ _ _ _ _ _ _ _
     refine au_all [2, 5] (by kernel_rfl) rfl ⟨.inl (ao_py rfl ?_), .inl (ao_py rfl ?_), trivial⟩
     ·
      refine zl ?_
      change AU _ _ _ _ _ _ _ _
      refine au_all [3, 5] (by kernel_rfl) rfl ⟨.inr (.inr (nw_ocall hN rfl rfl (cloneVa_fo v.ps (by omega)) (.fn _ _ _ _ rfl rfl) rfl rfl rfl rfl rfl ?_)), .inl (ao_py rfl ?_), trivial⟩
      ·
       change AU _ _ _ _ _ _ _ _
       refine yP 5 rfl (q_bslice rfl rfl rfl rfl (by exact rfl) (by decide) (by decide)) ?_
       refine au_all [6] (by kernel_rfl) rfl ⟨.inr (.inr (nw_append_own hN rfl rfl rfl rfl (by simp) rfl rfl (by rfl) (by simp [chunkA]; omega) rfl rfl rfl rfl ?_)), trivial⟩
       change AU _ _ _ _ _ _ _ _
       refine au_all [7] (by kernel_rfl) rfl ⟨.inr (.inr (nw_weak hN rfl rfl rfl rfl rfl (weak_frow 55 5 rfl rfl (by simp) (okE_app (okE_vals _) (by rfl)) (fz_app (fzs_vals _) (by intro e he; simp [chunkA] at he; subst he; rfl)) rfl) (q_build rfl rfl rfl) ?_)), trivial⟩
       change AU _ _ _ _ _ _ _ _
       refine yP 8 rfl (q_bslice rfl rfl rfl rfl (by exact rfl) (by decide) (by decide)) ?_
       refine au_all [9] (by kernel_rfl) rfl ⟨.inr (.inr (nw_append_own hN rfl rfl rfl rfl (by simp) rfl rfl (by rfl) (by have := doneV_len (L := L) ltk (show j ≤ L.length by omega); have := Nat.mul_le_mul h2i hLl; simp [chunkA]; omega) rfl rfl rfl rfl ?_)), trivial⟩
       change AU _ _ _ _ _ _ _ _
       refine yA 10 ?_; refine yD ?_; change AWP _ _ _ _  _; refine rn1 ?_; refine zP (q_addi rfl rfl rfl (by omega)) ?_; refine zM ?_
       refine aops_nil ?_
       exact ⟨⟨j + 1, ltj, trivial⟩, weak_scrub' rfl (zz4 (zz3 ⟨(cgO (by rw [doneV_succ hkv hjq]; simp [chunkA])), rfl, (zz3 ⟨(cgI (by dsimp only; omega)), rfl, trivial⟩)⟩)) ⟨(cgA (by rw [doneV_succ hkv hjq, List.map_append, List.map_cons, List.map_nil, ← done_cells])), rfl, (ok_vals _), rfl, rfl, rfl, trivial⟩, by dsimp only; omega⟩
      refine zp (q_bslice rfl rfl rfl rfl (by exact rfl) (by decide) (by decide)) ?_
      change AU _ _ _ _ _ _ _ _
      refine au_all [3] (by kernel_rfl) rfl ⟨.inr (.inr (nw_ocall hN rfl rfl (cloneVa_fo v.ps (by omega)) (.fn _ _ _ _ rfl rfl) rfl rfl rfl rfl rfl ?_)), trivial⟩
      change AU _ _ _ _ _ _ _ _
      refine au_all [6] (by kernel_rfl) rfl ⟨.inr (.inr (nw_append_own hN rfl rfl rfl rfl (by simp) rfl rfl (by rfl) (by simp [chunkA]; omega) rfl rfl rfl rfl ?_)), trivial⟩
      change AU _ _ _ _ _ _ _ _
      refine au_all [7] (by kernel_rfl) rfl ⟨.inr (.inr (nw_weak hN rfl rfl rfl rfl rfl (weak_frow 55 5 rfl rfl (by simp) (okE_app (okE_vals _) (by rfl)) (fz_app (fzs_vals _) (by intro e he; simp [chunkA] at he; subst he; rfl)) rfl) (q_build rfl rfl rfl) ?_)), trivial⟩
      change AU _ _ _ _ _ _ _ _
      refine yP 8 rfl (q_bslice rfl rfl rfl rfl (by exact rfl) (by decide) (by decide)) ?_
      refine au_all [9] (by kernel_rfl) rfl ⟨.inr (.inr (nw_append_own hN rfl rfl rfl rfl (by simp) rfl rfl (by rfl) (by have := doneV_len (L := L) ltk (show j ≤ L.length by omega); have := Nat.mul_le_mul h2i hLl; simp [chunkA]; omega) rfl rfl rfl rfl ?_)), trivial⟩
      change AU _ _ _ _ _ _ _ _
      refine yA 10 ?_; refine yD ?_; change AWP _ _ _ _  _; refine rn1 ?_; refine zP (q_addi rfl rfl rfl (by omega)) ?_; refine zM ?_
      refine aops_nil ?_
      exact ⟨⟨j + 1, ltj, trivial⟩, weak_scrub' rfl (zz4 (zz3 ⟨(cgO (by rw [doneV_succ hkv hjq]; simp [chunkA])), rfl, (zz3 ⟨(cgI (by dsimp only; omega)), rfl, trivial⟩)⟩)) ⟨(cgA (by rw [doneV_succ hkv hjq, List.map_append, List.map_cons, List.map_nil, ← done_cells])), rfl, (ok_vals _), rfl, rfl, rfl, trivial⟩, by dsimp only; omega⟩
     refine zp (q_bslice rfl rfl rfl rfl (by exact rfl) (by decide) (by decide)) ?_
     change AU _ _ _ _ _ _ _ _
     refine yL 2 ?_
     refine au_all [3] (by kernel_rfl) rfl ⟨.inr (.inr (nw_ocall hN rfl rfl (cloneVa_fo v.ps (by omega)) (.fn _ _ _ _ rfl rfl) rfl rfl rfl rfl rfl ?_)), trivial⟩
     change AU _ _ _ _ _ _ _ _
     refine au_all [6] (by kernel_rfl) rfl ⟨.inr (.inr (nw_append_own hN rfl rfl rfl rfl (by simp) rfl rfl (by rfl) (by simp [chunkA]; omega) rfl rfl rfl rfl ?_)), trivial⟩
     change AU _ _ _ _ _ _ _ _
     refine au_all [7] (by kernel_rfl) rfl ⟨.inr (.inr (nw_weak hN rfl rfl rfl rfl rfl (weak_frow 55 5 rfl rfl (by simp) (okE_app (okE_vals _) (by rfl)) (fz_app (fzs_vals _) (by intro e he; simp [chunkA] at he; subst he; rfl)) rfl) (q_build rfl rfl rfl) ?_)), trivial⟩
     change AU _ _ _ _ _ _ _ _
     refine yP 8 rfl (q_bslice rfl rfl rfl rfl (by exact rfl) (by decide) (by decide)) ?_
     refine au_all [9] (by kernel_rfl) rfl ⟨.inr (.inr (nw_append_own hN rfl rfl rfl rfl (by simp) rfl rfl (by rfl) (by have := doneV_len (L := L) ltk (show j ≤ L.length by omega); have := Nat.mul_le_mul h2i hLl; simp [chunkA]; omega) rfl rfl rfl rfl ?_)), trivial⟩
     change AU _ _ _ _ _ _ _ _
     refine yA 10 ?_; refine yD ?_; change AWP _ _ _ _  _; refine rn1 ?_; refine zP (q_addi rfl rfl rfl (by omega)) ?_; refine zM ?_
     refine aops_nil ?_
     exact ⟨⟨j + 1, ltj, trivial⟩, weak_scrub' rfl (zz4 (zz3 ⟨(cgO (by rw [doneV_succ hkv hjq]; simp [chunkA])), rfl, (zz3 ⟨(cgI (by dsimp only; omega)), rfl, trivial⟩)⟩)) ⟨(cgA (by rw [doneV_succ hkv hjq, List.map_append, List.map_cons, List.map_nil, ← done_cells])), rfl, (ok_vals _), rfl, rfl, rfl, trivial⟩, by dsimp only; omega⟩
    have gej : L.length ≤ j := by simpa using h48
    refine rn2 ?_; refine zP (q_addi rfl rfl rfl (by omega)) ?_; refine zM ?_; refine aops_nil ?_
    exact ⟨⟨k + 1, ltk, trivial⟩, weak_scrub' rfl (zz4 (zz2 ⟨(cgI (by dsimp only; omega)), rfl, (cgO (by rw [doneV_row hkv gej])), rfl, trivial⟩)) ⟨(cgA (by rw [doneV_row hkv gej])), rfl, (ok_vals _), trivial⟩, by dsimp only; omega⟩
   have gek : (prodV (Ls.take i)).length ≤ k := by simpa using h30
   refine rn6 ?_; refine zP (q_addi rfl rfl rfl (by omega)) ?_; refine zM ?_; refine aops_nil ?_
   exact ⟨⟨i + 1, lti, trivial⟩, Weak.trans (weak_frow 4 2 rfl rfl (by simp) (okE_vals _) (fzs_vals _) rfl) (weak_scrub' rfl (zz2 ⟨(cgI (by dsimp only; omega)), rfl, (cgVv (by rw [doneV_end gek, prodV_take hiL])), rfl, trivial⟩) trivial), by dsimp only; omega⟩
  exfalso; simp at h9; omega
 ·
  skip
  refine rn5 ?_
  refine zq ?_ ?_ <;> intro h111
  ·
   refine rn5 ?_; refine zP (q_elem rfl rfl rfl i rfl _ (lat_get hip) rfl) ?_; refine rn7 ?_; refine zP (q_call hN1 rfl rfl rfl) ?_; refine rn8 ?_
   skip
   refine rn10 ?_; refine zh1 rfl ?_; refine zN ?_; refine c_true rfl rfl ?_; refine rn4 ?_; refine zQ ?_
   rfl
  exfalso; simp at h111; omega
 skip
 refine rn5 ?_
 refine zq ?_ ?_ <;> intro h120
 ·
  refine rn5 ?_; refine zP (q_elem rfl rfl rfl i rfl _ (lat_get hip) rfl) ?_; refine rn7 ?_
  refine s_xcall hN [] hN2' (.fn _ _ _ _ rfl rfl) rfl rfl rfl trivial rfl ⟨in_fz (fzs_vals _), trivial⟩ rfl (Hn := [(1, .arr 30 4 (L.map valC))]) (ren_arr (fzs_vals _)) rfl rfl rfl rfl rfl rfl ?_
  refine rn8 ?_; refine awp_weak (weak_frow 7 1 rfl rfl (by simp) (okE_vals _) (fzs_vals _) rfl) ?_; refine rn9 ?_
  refine zP (q_binb (b := true) rfl rfl rfl (congrArg Value.bool (by rw [← Int.natCast_mul, IntWalk.i64_in _ (by have := Nat.mul_le_mul (h256 i (by omega)) hLl; simp only [List.length_map]; omega)]; simp; rw [ei, List.take_of_length_le (by omega)]; rw [← Int.natCast_mul]; exact Int.ofNat_lt.2 hbig))) ?_
  refine zh0 rfl ?_; refine zN ?_; refine c_true rfl rfl ?_; refine rn4 ?_; refine zQ ?_
  rfl
 exfalso; simp at h120; omega
end Go.Proofs.YtaecccdkjmipeaaGreat
