/-
  Contracts: the law JoinMaximal.
-/
import Derived.Test.YtciojbjoijedjaaGreatB24
namespace Go.Proofs.YtciojbjoijedjaaGreat
open Go.RowKit
theorem mx_fc (l : Lat) (vs : List Val) (hvs : vs.length ≤ 1000000) (hc : checkJ l vs = 0) : FC Tryz.prog 34 [.agg (latL l), vals vs] (.tup [ivs (mxl l vs vs.length), i64 0]) := by
 have h := maximal_fc l vs hvs
 rw [maximalV_of hc rfl] at h
 exact h
theorem any_take {α : Type} {p : α → Bool} {l : List α} {k : Nat} {x : α} (h : l[k]? = some x) : (l.take (k + 1)).any p = ((l.take k).any p || p x) := by
 rw [List.take_add_one, h]; simp
theorem mx_step {vs : List Val} {o : List Int} {k : Nat} {y : Int} (hy : o[k]? = some y) : (((o.take k).map (getV vs)).map valC) ++ chunkA 4 1 (valL (getV vs y)) = (((o.take (k + 1)).map (getV vs)).map valC) := by
 have : chunkA 4 1 (valL (getV vs y)) = [valC (getV vs y)] := by rw [valC_eq]; rfl
 rw [this, List.take_add_one, hy]; simp
theorem mx_get {vs : List Val} {o : List Int} {k : Nat} {y : Int} (hy : o[k]? = some y) : ((o.map (getV vs)).map valC)[k]? = some (valL (getV vs y)) := val_get (by rw [List.getElem?_map, hy]; rfl)
set_option maxRecDepth 100000 in
set_option maxHeartbeats 1000000 in
theorem lawMaximal_fc (l : Lat) (vs : List Val) : FC Tryz.prog 11 [.agg (latL l), vals vs] (bl true) := by
 refine fc_of_awp [4] Tryz.func11 rfl rfl 155 Tryz.ntmps11 (Nat.le_of_ble_eq_true rfl) ?_
 intro E hN
 refine zG ?_
 refine zX hN ?_
 refine zS hN ?_
 refine zN ?_
 refine awp_seq ?_
 refine zG ?_
 refine zP hN (q_call awake_fc rfl rfl rfl) ?_
 refine zP hN (q_not rfl rfl) ?_
 refine zN ?_
 refine c_false rfl rfl ?_
 refine awp_skip ?_
 change AWP _ _ _ _ _
 refine awp_seq ?_
 refine zG ?_
 refine zL hN ?_
 refine zM hN ?_
 refine zP hN (q_call (lvalid_fc l vs) rfl rfl rfl) ?_
 refine zP hN (q_not rfl rfl) ?_
 refine zN ?_
 refine c_cond rfl (fun h5 => ?_) (fun h5 => ?_)
 ·
  refine zG ?_
  refine zS hN ?_
  refine zQ ?_
  rfl
 ·
  have hV := n0 h5
  have hv3 := validL_ok hV
  have hc := hv3.1
  have hn8 := hv3.2.1
  have hel := validL_el hV
  have hS := validL_small hV
  have hcJ := checkJ_all hc hel
  have hO := check_ok hc
  have hlen := mxl_len l vs vs.length
  have hmlen : ((mxl l vs vs.length).map (getV vs)).length = (mxl l vs vs.length).length := List.length_map ..
  have hvs : ∀ v ∈ vs, elemB v l = true ∧ SmV 1000 v := fun v hv => ⟨hel v hv, (hS v hv).up (by decide)⟩
  have hmb : ∀ y ∈ (mxl l vs vs.length), 0 ≤ y ∧ y < (vs.length : Int) := fun y hy => by
   obtain ⟨i, v, e1, e2, -, -⟩ := (mxl_mem (Nat.le_refl _)).1 hy
   omega
  have hmv : ∀ y ∈ (mxl l vs vs.length), getV vs y ∈ vs := fun y hy => List.mem_of_getElem? (getV_at (hmb y hy) (Nat.le_refl _))
  have hme : ∀ {k : Nat} (y : Int), (mxl l vs vs.length)[k]? = some y → elemB (getV vs y) l = true := fun y hy => hel _ (hmv y (List.mem_of_getElem? hy))
  refine awp_skip ?_
  change AWP _ _ _ _ _
  refine zG ?_
  refine zL hN ?_
  refine zM hN ?_
  refine zP hN (q_call (mx_fc l vs (by omega) hcJ) rfl rfl rfl) ?_
  refine zM hN ?_
  refine zP hN (q_extract rfl rfl rfl) ?_
  refine zP hN (q_extract rfl rfl rfl) ?_
  refine zS hN ?_
  refine zS hN ?_
  refine zN ?_
  refine awp_seq ?_
  refine zG ?_
  refine zM hN ?_
  refine zP hN (q_binb (b := false) rfl rfl rfl rfl) ?_
  refine zN ?_
  refine c_false rfl rfl ?_
  refine awp_skip ?_
  change AWP _ _ _ _ _
  refine zG ?_
  refine zS hN ?_
  refine zN ?_
  refine awp_seq ?_
  refine zG ?_
  refine zS hN ?_
  refine zN ?_
  refine awp_block ?_
  refine awp_weak (weak_tok rfl 7 30 4 rfl) ?_
  refine awp_loop (fun x : {k : Nat // k ≤ ((mxl l vs vs.length)).length ∧ True} => ⟨[(2, .ptr 0 0), (1, vals vs), (5, ivs (mxl l vs vs.length)), (7, .sl ((((mxl l vs vs.length).take x.1).map (getV vs)).map valC) (some 1)), (8, i64 (x.1 : Nat))], [(0, .var 26 (latL l)), (1, .tok 30 4 ((mxl l vs vs.length).take x.1).length)], 2⟩) (fun x => ((mxl l vs vs.length)).length - x.1) (⟨0, Nat.zero_le _, by simp⟩) ?_ ?_
  ·
   exact weak_scrub' rfl ⟨rfl, rfl, rfl, rfl, rfl, rfl, rfl, rfl, rfl, rfl, trivial⟩ ⟨rfl, rfl, rfl, rfl, rfl, rfl, trivial⟩
  ·rintro ⟨k, hk, hg⟩
   dsimp only
   refine awp_seq ?_
   refine zG ?_
   refine zM hN ?_
   refine zM hN ?_
   refine zE hN ?_
   refine zB hN ?_
   refine zN ?_
   refine c_cond rfl (fun h16 => ?_) (fun h16 => ?_)
   ·
    have hlt : k < (mxl l vs vs.length).length := by simpa using h16
    obtain ⟨y, hy⟩ := get_lt hlt
    have hyb := hmb y (List.mem_of_getElem? hy)
    refine awp_skip ?_
    change AWP _ _ _ _ _
    refine awp_seq ?_
    refine awp_block ?_
    refine awp_seq ?_
    refine awp_seq ?_
    refine awp_draw 29 (by kernel_rfl) (by kernel_rfl) ?_
    refine zm hN ?_
    refine zm hN ?_
    refine zp hN (q_elem rfl rfl rfl k rfl _ (map_get hy) rfl) ?_
    refine zl hN ?_
    refine zp hN (q_binb (b := false) rfl rfl rfl (by simp; omega)) ?_
    refine zm hN ?_
    refine zm hN ?_
    refine zm hN ?_
    refine zp hN (q_elem rfl rfl rfl k rfl _ (map_get hy) rfl) ?_
    refine zl hN ?_
    refine zm hN ?_
    refine ze hN ?_
    refine zp hN (q_binb (b := false) rfl rfl rfl (by simp; omega)) ?_
    refine zp hN (q_pick0 rfl rfl rfl rfl) ?_
    refine zm hN ?_
    refine zm hN ?_
    refine zp hN (q_bin rfl rfl rfl) ?_
    refine zm hN ?_
    refine d_case 55 rfl (fun h22 => ?_) (fun h22 => ?_)
    ·
     have hk0 : 0 < k := by simpa using h22
     obtain ⟨y', hy'⟩ := get_lt (show k - 1 < (mxl l vs vs.length).length by omega)
     have hyy : y' < y := by
      obtain ⟨g1, g2⟩ := List.getElem?_eq_some_iff.1 hy'
      obtain ⟨g3, g4⟩ := List.getElem?_eq_some_iff.1 hy
      have := List.pairwise_iff_getElem.1 (mxl_sorted (l := l) (vs := vs) (Nat.le_refl _)) (k - 1) k g1 g3 (by omega)
      rw [g2, g4] at this; exact this
     refine d_py hN (q_move rfl rfl) rfl (w11 h22) rfl rfl ?_
     refine d_py hN (q_move rfl rfl) rfl (w11 h22) rfl rfl ?_
     refine d_py hN (q_elem rfl rfl rfl k rfl _ (map_get hy) rfl) rfl (w11 h22) rfl rfl ?_
     refine d_py hN (q_load rfl rfl rfl rfl rfl) rfl (w11 h22) rfl rfl ?_
     refine d_py hN (q_move rfl rfl) rfl (w11 h22) rfl rfl ?_
     refine d_py hN (q_move rfl rfl) rfl (w11 h22) rfl rfl ?_
     refine d_py hN (q_subi rfl rfl rfl (by omega)) rfl (w11 h22) rfl rfl ?_
     refine d_py hN (q_elem rfl rfl rfl (k - 1) (by omega) _ (map_get hy') rfl) rfl (w11 h22) rfl rfl ?_
     refine d_py hN (q_load rfl rfl rfl rfl rfl) rfl (w11 h22) rfl rfl ?_
     refine d_py hN (q_binb (b := false) rfl rfl rfl (by simp; omega)) rfl (w11 h22) rfl rfl ?_
     refine zp hN (q_pick1 rfl rfl h22 rfl) ?_
     change AOps _ _ _ _ _ _
     refine zP hN (q_pick0 rfl rfl rfl rfl) ?_
     refine zN ?_
     refine c_false rfl rfl ?_
     refine awp_skip ?_
     change AWP _ _ _ _ _
     refine awp_region ?_
     refine zM hN ?_
     refine zM hN ?_
     refine zM hN ?_
     refine zM hN ?_
     refine zP hN (q_elem rfl rfl rfl k rfl _ (map_get hy) rfl) ?_
     refine zL hN ?_
     refine zP hN (q_elem rfl rfl rfl y.toNat (by omega) _ (val_get (getV_at hyb (Nat.le_refl _))) rfl) ?_
     refine zL hN ?_
     refine zP hN (q_bslice rfl rfl rfl rfl (by exact rfl) (by decide) (by decide)) ?_
     refine s_append_tok hN rfl rfl rfl (by simp) rfl rfl (all_okE okE_val _) rfl (by simp [chunk_4]; omega) rfl rfl rfl rfl ?_
     refine zS hN ?_
     refine aops_nil ?_
     change AWP _ _ _ _  _
     refine awp_region ?_
     refine zM hN ?_
     refine zP hN (q_addi rfl rfl rfl (by omega)) ?_
     refine zS hN ?_
     refine aops_nil ?_
     exact ⟨⟨k + 1, hlt, trivial⟩, weak_scrub' rfl ⟨rfl, rfl, rfl, rfl, rfl, rfl, (cgL (mx_step hy)), rfl, (cgI (by dsimp only; omega)), rfl, trivial⟩ ⟨rfl, rfl, rfl, (cgT (by rw [List.take_add_one, hy]; simp [chunk_4] <;> omega)), rfl, rfl, trivial⟩, by dsimp only; omega⟩
    ·
     refine d_skip hN rfl (w01 h22) rfl rfl ?_
     refine d_skip hN rfl (w01 h22) rfl rfl ?_
     refine d_skip hN rfl (w01 h22) rfl rfl ?_
     refine d_skip hN rfl (w01 h22) rfl rfl ?_
     refine d_skip hN rfl (w01 h22) rfl rfl ?_
     refine d_skip hN rfl (w01 h22) rfl rfl ?_
     refine d_skip hN rfl (w01 h22) rfl rfl ?_
     refine d_skip hN rfl (w01 h22) rfl rfl ?_
     refine d_skip hN rfl (w01 h22) rfl rfl ?_
     refine d_skip hN rfl (w01 h22) rfl rfl ?_
     refine zp hN (q_pick0 rfl rfl h22 rfl) ?_
     change AOps _ _ _ _ _ _
     refine zP hN (q_pick0 rfl rfl rfl rfl) ?_
     refine zN ?_
     refine c_false rfl rfl ?_
     refine awp_skip ?_
     change AWP _ _ _ _ _
     refine awp_region ?_
     refine zM hN ?_
     refine zM hN ?_
     refine zM hN ?_
     refine zM hN ?_
     refine zP hN (q_elem rfl rfl rfl k rfl _ (map_get hy) rfl) ?_
     refine zL hN ?_
     refine zP hN (q_elem rfl rfl rfl y.toNat (by omega) _ (val_get (getV_at hyb (Nat.le_refl _))) rfl) ?_
     refine zL hN ?_
     refine zP hN (q_bslice rfl rfl rfl rfl (by exact rfl) (by decide) (by decide)) ?_
     refine s_append_tok hN rfl rfl rfl (by simp) rfl rfl (all_okE okE_val _) rfl (by simp [chunk_4]; omega) rfl rfl rfl rfl ?_
     refine zS hN ?_
     refine aops_nil ?_
     change AWP _ _ _ _  _
     refine awp_region ?_
     refine zM hN ?_
     refine zP hN (q_addi rfl rfl rfl (by omega)) ?_
     refine zS hN ?_
     refine aops_nil ?_
     exact ⟨⟨k + 1, hlt, trivial⟩, weak_scrub' rfl ⟨rfl, rfl, rfl, rfl, rfl, rfl, (cgL (mx_step hy)), rfl, (cgI (by dsimp only; omega)), rfl, trivial⟩ ⟨rfl, rfl, rfl, (cgT (by rw [List.take_add_one, hy]; simp [chunk_4] <;> omega)), rfl, rfl, trivial⟩, by dsimp only; omega⟩
   ·
    have hge : (mxl l vs vs.length).length ≤ k := by simpa using h16
    refine awp_exit ?_
    change AWP _ _ _ _  _
    refine awp_seq ?_
    refine zG ?_
    refine zS hN ?_
    refine zN ?_
    refine awp_block ?_
    refine awp_loop (fun x : {k : Nat // k ≤ (vs).length ∧ True} => ⟨[(2, .ptr 0 0), (1, vals vs), (7, .sl (((mxl l vs vs.length).map (getV vs)).map valC) (some 1)), (9, i64 (x.1 : Nat))], [(0, .var 26 (latL l)), (1, .tok 30 4 (mxl l vs vs.length).length)], 2⟩) (fun x => (vs).length - x.1) (⟨0, Nat.zero_le _, by simp⟩) ?_ ?_
    ·
     exact weak_scrub' rfl ⟨rfl, rfl, rfl, rfl, (cgL (by rw [List.take_of_length_le hge])), rfl, rfl, rfl, trivial⟩ ⟨rfl, rfl, rfl, (cgT (by rw [List.take_of_length_le hge])), rfl, rfl, trivial⟩
    ·rintro ⟨k, hk, hg⟩
     dsimp only
     refine awp_seq ?_
     refine zG ?_
     refine zM hN ?_
     refine zM hN ?_
     refine zE hN ?_
     refine zB hN ?_
     refine zN ?_
     refine c_cond rfl (fun h47 => ?_) (fun h47 => ?_)
     ·
      have hlt : k < vs.length := by simpa using h47
      obtain ⟨v, hv⟩ := get_lt hlt
      refine awp_skip ?_
      change AWP _ _ _ _ _
      refine awp_seq ?_
      refine awp_block ?_
      refine zG ?_
      refine zS hN ?_
      refine zN ?_
      refine awp_seq ?_
      refine zG ?_
      refine zS hN ?_
      refine zN ?_
      refine awp_block ?_
      refine awp_loop (fun z : {j : Nat // j ≤ ((mxl l vs vs.length).map (getV vs)).length} => ⟨[(2, .ptr 0 0), (1, vals vs), (7, .sl (((mxl l vs vs.length).map (getV vs)).map valC) (some 1)), (9, i64 (k : Nat)), (10, bl ((((mxl l vs vs.length).map (getV vs)).take z.1).any (leqB l v))), (11, i64 (z.1 : Nat))], [(0, .var 26 (latL l)), (1, .tok 30 4 (mxl l vs vs.length).length)], 2⟩) (fun z => ((mxl l vs vs.length).map (getV vs)).length - z.1) (⟨0, Nat.zero_le _⟩) ?_ ?_
      ·
       exact weak_scrub' rfl ⟨rfl, rfl, rfl, rfl, rfl, rfl, rfl, rfl, (cgB (by simp)), rfl, rfl, rfl, trivial⟩ ⟨rfl, rfl, rfl, rfl, rfl, rfl, trivial⟩
      ·rintro ⟨j, hj⟩
       dsimp only
       refine awp_seq ?_
       refine zG ?_
       refine zM hN ?_
       refine zM hN ?_
       refine zE hN ?_
       refine zB hN ?_
       refine zN ?_
       refine c_cond rfl (fun h55 => ?_) (fun h55 => ?_)
       ·
        have hjl : j < ((mxl l vs vs.length).map (getV vs)).length := by simpa using h55
        obtain ⟨y, hy⟩ := get_lt (show j < (mxl l vs vs.length).length by simpa using hjl)
        have hmj : ((mxl l vs vs.length).map (getV vs))[j]? = some (getV vs y) := by rw [List.getElem?_map, hy]; rfl
        refine awp_skip ?_
        change AWP _ _ _ _ _
        refine awp_seq ?_
        refine awp_block ?_
        refine awp_draw 13 (by kernel_rfl) (by kernel_rfl) ?_
        refine zm hN ?_
        refine zm hN ?_
        refine d_case 91 rfl (fun h52 => ?_) (fun h52 => ?_)
        ·
         refine d_skip hN rfl (w10 h52) rfl rfl ?_
         refine d_skip hN rfl (w10 h52) rfl rfl ?_
         refine d_skip hN rfl (w10 h52) rfl rfl ?_
         refine d_skip hN rfl (w10 h52) rfl rfl ?_
         refine d_skip hN rfl (w10 h52) rfl rfl ?_
         refine d_skip hN rfl (w10 h52) rfl rfl ?_
         refine d_skip hN rfl (w10 h52) rfl rfl ?_
         refine d_skip hN rfl (w10 h52) rfl rfl ?_
         refine d_skip hN rfl (w10 h52) rfl rfl ?_
         refine d_skip hN rfl (w10 h52) rfl rfl ?_
         refine zp hN (q_pick1 rfl rfl h52 rfl) ?_
         change AOps _ _ _ _ _ _
         refine zS hN ?_
         refine aops_nil ?_
         change AWP _ _ _ _  _
         refine awp_region ?_
         refine zM hN ?_
         refine zP hN (q_addi rfl rfl rfl (by omega)) ?_
         refine zS hN ?_
         refine aops_nil ?_
         exact ⟨⟨j + 1, hjl⟩, weak_scrub' rfl ⟨rfl, rfl, rfl, rfl, rfl, rfl, rfl, rfl, (cgB (by rw [any_take hmj]; simp_all)), rfl, (cgI (by dsimp only; omega)), rfl, trivial⟩ ⟨rfl, rfl, rfl, rfl, rfl, rfl, trivial⟩, by dsimp only; omega⟩
        ·
         refine d_py hN (q_load rfl rfl rfl rfl rfl) rfl (w00 h52) rfl rfl ?_
         refine d_py hN (q_move rfl rfl) rfl (w00 h52) rfl rfl ?_
         refine d_py hN (q_move rfl rfl) rfl (w00 h52) rfl rfl ?_
         refine d_py hN (q_elem rfl rfl rfl k rfl _ (val_get hv) rfl) rfl (w00 h52) rfl rfl ?_
         refine d_py hN (q_load rfl rfl rfl rfl rfl) rfl (w00 h52) rfl rfl ?_
         refine d_py hN (q_move rfl rfl) rfl (w00 h52) rfl rfl ?_
         refine d_py hN (q_move rfl rfl) rfl (w00 h52) rfl rfl ?_
         refine d_py hN (q_elem rfl rfl rfl j rfl _ (mx_get hy) rfl) rfl (w00 h52) rfl rfl ?_
         refine d_py hN (q_load rfl rfl rfl rfl rfl) rfl (w00 h52) rfl rfl ?_
         refine d_py hN (q_call (fcb (leqJ_fc l v (getV vs y)) (leqJ_on hc (hel v (List.mem_of_getElem? hv)) (hme y hy))) rfl rfl rfl) rfl (w00 h52) rfl rfl ?_
         refine zp hN (q_pick0 rfl rfl h52 rfl) ?_
         change AOps _ _ _ _ _ _
         refine zS hN ?_
         refine aops_nil ?_
         change AWP _ _ _ _  _
         refine awp_region ?_
         refine zM hN ?_
         refine zP hN (q_addi rfl rfl rfl (by omega)) ?_
         refine zS hN ?_
         refine aops_nil ?_
         exact ⟨⟨j + 1, hjl⟩, weak_scrub' rfl ⟨rfl, rfl, rfl, rfl, rfl, rfl, rfl, rfl, (cgB (by rw [any_take hmj]; simp_all)), rfl, (cgI (by dsimp only; omega)), rfl, trivial⟩ ⟨rfl, rfl, rfl, rfl, rfl, rfl, trivial⟩, by dsimp only; omega⟩
       ·
        have hje : ((mxl l vs vs.length).map (getV vs)).length ≤ j := by simpa using h55
        have hfull : (((mxl l vs vs.length).map (getV vs)).take j).any (leqB l v) = true := by
         rw [List.take_of_length_le hje, List.any_eq_true]
         obtain ⟨y, hy, hl⟩ := mxl_above hO hel _ v (List.mem_of_getElem? hv) (Nat.le_refl _)
         exact ⟨getV vs y, List.mem_map.2 ⟨y, hy, rfl⟩, hl⟩
        rw [hfull]
        refine awp_exit ?_
        change AWP _ _ _ _  _
        refine zG ?_
        refine zM hN ?_
        refine zP hN (q_not rfl rfl) ?_
        refine zN ?_
        refine c_cond rfl (fun h52 => ?_) (fun h52 => ?_)
        ·
         cases h52
        ·
         refine awp_skip ?_
         change AWP _ _ _ _  _
         refine awp_region ?_
         refine zM hN ?_
         refine zP hN (q_addi rfl rfl rfl (by omega)) ?_
         refine zS hN ?_
         refine aops_nil ?_
         exact ⟨⟨k + 1, hlt, trivial⟩, weak_scrub' rfl ⟨rfl, rfl, rfl, rfl, rfl, rfl, (cgI (by dsimp only; omega)), rfl, trivial⟩ ⟨rfl, rfl, rfl, rfl, rfl, rfl, trivial⟩, by dsimp only; omega⟩
     ·
      refine awp_exit ?_
      change AWP _ _ _ _  _
      refine awp_seq ?_
      refine zG ?_
      refine zS hN ?_
      refine zN ?_
      refine awp_block ?_
      refine awp_loop (fun x : {k : Nat // k ≤ (((mxl l vs vs.length).map (getV vs))).length ∧ True} => ⟨[(2, .ptr 0 0), (1, vals vs), (7, .sl (((mxl l vs vs.length).map (getV vs)).map valC) (some 1)), (12, i64 (x.1 : Nat))], [(0, .var 26 (latL l)), (1, .tok 30 4 (mxl l vs vs.length).length)], 2⟩) (fun x => (((mxl l vs vs.length).map (getV vs))).length - x.1) (⟨0, Nat.zero_le _, by simp⟩) ?_ ?_
      ·
       exact weak_scrub' rfl ⟨rfl, rfl, rfl, rfl, rfl, rfl, rfl, rfl, trivial⟩ ⟨rfl, rfl, rfl, rfl, rfl, rfl, trivial⟩
      ·rintro ⟨k, hk, hg⟩
       dsimp only
       refine awp_seq ?_
       refine zG ?_
       refine zM hN ?_
       refine zM hN ?_
       refine zE hN ?_
       refine zB hN ?_
       refine zN ?_
       refine c_cond rfl (fun h70 => ?_) (fun h70 => ?_)
       ·
        have hlt : k < ((mxl l vs vs.length).map (getV vs)).length := by simpa using h70
        obtain ⟨y, hy⟩ := get_lt (show k < (mxl l vs vs.length).length by simpa using hlt)
        refine awp_skip ?_
        change AWP _ _ _ _ _
        refine awp_seq ?_
        refine awp_block ?_
        refine zG ?_
        refine zS hN ?_
        refine zN ?_
        refine awp_block ?_
        refine awp_loop (fun z : {j : Nat // j ≤ ((mxl l vs vs.length).map (getV vs)).length} => ⟨[(2, .ptr 0 0), (1, vals vs), (7, .sl (((mxl l vs vs.length).map (getV vs)).map valC) (some 1)), (12, i64 (k : Nat)), (13, i64 (z.1 : Nat))], [(0, .var 26 (latL l)), (1, .tok 30 4 (mxl l vs vs.length).length)], 2⟩) (fun z => ((mxl l vs vs.length).map (getV vs)).length - z.1) (⟨0, Nat.zero_le _⟩) ?_ ?_
        ·
         exact weak_scrub' rfl ⟨rfl, rfl, rfl, rfl, rfl, rfl, rfl, rfl, rfl, rfl, trivial⟩ ⟨rfl, rfl, rfl, rfl, rfl, rfl, trivial⟩
        ·rintro ⟨j, hj⟩
         dsimp only
         refine awp_seq ?_
         refine zG ?_
         refine zM hN ?_
         refine zM hN ?_
         refine zE hN ?_
         refine zB hN ?_
         refine zN ?_
         refine c_cond rfl (fun h77 => ?_) (fun h77 => ?_)
         ·
          have hjl : j < ((mxl l vs vs.length).map (getV vs)).length := by simpa using h77
          obtain ⟨z, hz⟩ := get_lt (show j < (mxl l vs vs.length).length by simpa using hjl)
          refine awp_skip ?_
          change AWP _ _ _ _ _
          refine awp_seq ?_
          refine awp_block ?_
          refine awp_seq ?_
          refine awp_draw 14 (by kernel_rfl) (by kernel_rfl) ?_
          refine zm hN ?_
          refine zm hN ?_
          refine zp hN (q_bin rfl rfl rfl) ?_
          refine zm hN ?_
          refine d_case 120 rfl (fun h78 => ?_) (fun h78 => ?_)
          ·
           have hne : k ≠ j := by
            have e : ¬ (k : Int) = (j : Int) := by simpa using h78
            omega
           refine d_py hN (q_load rfl rfl rfl rfl rfl) rfl (w11 h78) rfl rfl ?_
           refine d_py hN (q_move rfl rfl) rfl (w11 h78) rfl rfl ?_
           refine d_py hN (q_move rfl rfl) rfl (w11 h78) rfl rfl ?_
           refine d_py hN (q_elem rfl rfl rfl k rfl _ (mx_get hy) rfl) rfl (w11 h78) rfl rfl ?_
           refine d_py hN (q_load rfl rfl rfl rfl rfl) rfl (w11 h78) rfl rfl ?_
           refine d_py hN (q_move rfl rfl) rfl (w11 h78) rfl rfl ?_
           refine d_py hN (q_move rfl rfl) rfl (w11 h78) rfl rfl ?_
           refine d_py hN (q_elem rfl rfl rfl j rfl _ (mx_get hz) rfl) rfl (w11 h78) rfl rfl ?_
           refine d_py hN (q_load rfl rfl rfl rfl rfl) rfl (w11 h78) rfl rfl ?_
           refine d_py hN (q_call (fcb (leqJ_fc l (getV vs y) (getV vs z)) ((leqJ_on hc (hme y hy) (hme z hz)).trans (mxl_apart hy hz hne))) rfl rfl rfl) rfl (w11 h78) rfl rfl ?_
           change AOps _ _ _ _ _ _
           refine zP hN (q_pick1 rfl rfl h78 rfl) ?_
           refine zN ?_
           refine c_false rfl rfl ?_
           refine awp_skip ?_
           change AWP _ _ _ _  _
           refine awp_region ?_
           refine zM hN ?_
           refine zP hN (q_addi rfl rfl rfl (by omega)) ?_
           refine zS hN ?_
           refine aops_nil ?_
           exact ⟨⟨j + 1, hjl⟩, weak_scrub' rfl ⟨rfl, rfl, rfl, rfl, rfl, rfl, rfl, rfl, (cgI (by dsimp only; omega)), rfl, trivial⟩ ⟨rfl, rfl, rfl, rfl, rfl, rfl, trivial⟩, by dsimp only; omega⟩
          ·
           refine d_skip hN rfl (w01 h78) rfl rfl ?_
           refine d_skip hN rfl (w01 h78) rfl rfl ?_
           refine d_skip hN rfl (w01 h78) rfl rfl ?_
           refine d_skip hN rfl (w01 h78) rfl rfl ?_
           refine d_skip hN rfl (w01 h78) rfl rfl ?_
           refine d_skip hN rfl (w01 h78) rfl rfl ?_
           refine d_skip hN rfl (w01 h78) rfl rfl ?_
           refine d_skip hN rfl (w01 h78) rfl rfl ?_
           refine d_skip hN rfl (w01 h78) rfl rfl ?_
           refine d_skip hN rfl (w01 h78) rfl rfl ?_
           change AOps _ _ _ _ _ _
           refine zP hN (q_pick0 rfl rfl h78 rfl) ?_
           refine zN ?_
           refine c_false rfl rfl ?_
           refine awp_skip ?_
           change AWP _ _ _ _  _
           refine awp_region ?_
           refine zM hN ?_
           refine zP hN (q_addi rfl rfl rfl (by omega)) ?_
           refine zS hN ?_
           refine aops_nil ?_
           exact ⟨⟨j + 1, hjl⟩, weak_scrub' rfl ⟨rfl, rfl, rfl, rfl, rfl, rfl, rfl, rfl, (cgI (by dsimp only; omega)), rfl, trivial⟩ ⟨rfl, rfl, rfl, rfl, rfl, rfl, trivial⟩, by dsimp only; omega⟩
         ·
          refine awp_exit ?_
          change AWP _ _ _ _  _
          refine awp_region ?_
          refine zM hN ?_
          refine zP hN (q_addi rfl rfl rfl (by omega)) ?_
          refine zS hN ?_
          refine aops_nil ?_
          exact ⟨⟨k + 1, hlt, trivial⟩, weak_scrub' rfl ⟨rfl, rfl, rfl, rfl, rfl, rfl, (cgI (by dsimp only; omega)), rfl, trivial⟩ ⟨rfl, rfl, rfl, rfl, rfl, rfl, trivial⟩, by dsimp only; omega⟩
       ·
        refine awp_exit ?_
        change AWP _ _ _ _  _
        refine zG ?_
        refine zL hN ?_
        refine zM hN ?_
        refine zP hN (q_call (allJ_fc l vs hc hvs (by omega)) rfl rfl rfl) ?_
        refine zM hN ?_
        refine zP hN (q_extract rfl rfl rfl) ?_
        refine zP hN (q_extract rfl rfl rfl) ?_
        refine zO hN ?_
        refine zC ?_
        refine zS hN ?_
        refine zA ?_
        refine zL hN ?_
        refine zM hN ?_
        refine zP hN (q_call (allJ_fc l ((mxl l vs vs.length).map (getV vs)) hc (fun v hv => by obtain ⟨y, hy, rfl⟩ := List.mem_map.1 hv; exact hvs _ (hmv y hy)) (by simp; omega)) rfl rfl rfl) ?_
        refine zM hN ?_
        refine zP hN (q_extract rfl rfl rfl) ?_
        refine zP hN (q_extract rfl rfl rfl) ?_
        refine zO hN ?_
        refine zC ?_
        refine zS hN ?_
        refine zA ?_
        refine zM hN ?_
        refine zP hN (q_binb (b := true) rfl rfl rfl (by rfl)) ?_
        refine zM hN ?_
        refine zM hN ?_
        refine zP hN (q_binb (b := true) rfl rfl rfl (by rfl)) ?_
        refine zP hN (q_pick1 rfl rfl rfl rfl) ?_
        refine zM hN ?_
        refine zL hN ?_
        refine zL hN ?_
        refine zP hN (q_call (fcb (rEqual_fc (foldJ l vs) (foldJ l ((mxl l vs vs.length).map (getV vs)))) ((eqV_iff _ _).2 (mxl_join hO hel).symm)) rfl rfl rfl) ?_
        refine zP hN (q_pick1 rfl rfl rfl rfl) ?_
        refine zS hN ?_
        refine zQ ?_
        rfl
end Go.Proofs.YtciojbjoijedjaaGreat
