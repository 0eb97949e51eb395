/-
  Contracts: finite.subsets, closed (seat r5).
  Contracts: slices.IndexFunc, DeleteFunc at values (seat r5).
-/
import Derived.Test.YtaecccdkjmipeaaGreatF7
import Derived.Test.YtaecccdkjmipeaaGreatA10
namespace Go.Proofs.YtaecccdkjmipeaaGreat
open Go.RowKit
set_option maxRecDepth 100000 in
set_option maxHeartbeats 1000000 in
theorem fclosed_fc (rs : List Ru) (l : List Nm) : FC Tryz.prog 73 [rus rs, svs l] (bl (closedB rs l)) := by
 refine fc_of_awp [4] Tryz.func73 rfl rfl 25 Tryz.ntmps73 (Nat.le_of_ble_eq_true rfl) ?_
 intro E hN
 refine a_lm 0 rfl (fun hl0 => ?_)
 refine rn12 ?_
 refine awp_loop (fun x : {k : Nat // k ≤ (rs).length ∧ (rs.drop k).all (okRule l) = rs.all (okRule l)} => ⟨[(1, svs l), (7, rus rs), (8, i64 rs.length), (9, i64 (x.1 : Nat))], [], 0⟩) (fun x => (rs).length - x.1) (⟨0, Nat.zero_le _, by simp⟩) ?_ ?_
 ·
  exact weak_scrub' rfl (zz2 ⟨(cgI (by simp)), rfl, (zz1 trivial)⟩) trivial
 rintro ⟨k, hk, hg⟩
 dsimp only
 refine rn5 ?_
 refine zq ?_ ?_ <;> intro h7
 ·
  have hlt : k < (rs).length := by simpa using h7
  obtain ⟨x, hx⟩ := get_lt hlt
  refine rn5 ?_; refine zP (q_elem rfl rfl rfl k rfl _ (map_get hx) rfl) ?_; refine rn9 ?_; refine zP (q_call (subset_fc _ l) rfl rfl rfl) ?_
  refine zM ?_
  refine zc 17 ?_ ?_ <;> intro h14
  ·
   refine uM (w11 h14) ?_; refine uF (w11 h14) ?_; refine uL (w11 h14) ?_; refine uP (w11 h14) (q_call (has_fc l _) rfl rfl rfl) ?_
   refine uP (w11 h14) (q_not rfl rfl) ?_; refine zh1 h14 ?_; refine zN ?_
   refine zq ?_ ?_ <;> intro h17
   ·
    refine rn3 ?_; refine zQ ?_
    exact retB (all_no hg hx (by simp_all [okRule])).symm
   refine rn2 ?_; refine zP (q_addi rfl rfl rfl (by omega)) ?_; refine zM ?_; refine aops_nil ?_
   exact ⟨⟨k + 1, hlt, all_go hg hx (by simp_all [okRule])⟩, weak_scrub' rfl (zz3 ⟨(cgI (by dsimp only; omega)), rfl, trivial⟩) trivial, by dsimp only; omega⟩
  iterate 5 refine uK (w01 h14) ?_
  refine zh0 h14 ?_; refine zN ?_; refine c_false rfl rfl ?_; refine rn2 ?_; refine zP (q_addi rfl rfl rfl (by omega)) ?_; refine zM ?_
  refine aops_nil ?_
  exact ⟨⟨k + 1, hlt, all_go hg hx (by simp_all [okRule])⟩, weak_scrub' rfl (zz3 ⟨(cgI (by dsimp only; omega)), rfl, trivial⟩) trivial, by dsimp only; omega⟩
 have hge : (rs).length ≤ k := by simpa using h7
 refine rn4 ?_; refine zQ ?_
 exact retB (all_end hg hge).symm
set_option maxRecDepth 100000 in
set_option maxHeartbeats 1000000 in
theorem all1_fc (s : List Nm) : FC Tryz.prog 71 [svs s] (bl true) := by
 refine fc_of_awp [2] Tryz.func71 rfl rfl 3 Tryz.ntmps71 (Nat.le_of_ble_eq_true rfl) ?_
 intro E hN
 refine rn7 ?_; refine zQ ?_
 rfl
set_option maxRecDepth 100000 in
set_option maxHeartbeats 1000000 in
theorem all2_fc (l : Lat) (s : List Nm) : FC Tryz.prog 72 [svs s, .el (latL l)] (bl (closedB l.rs s)) := by
 refine fc_of_awp [3] Tryz.func72 rfl rfl 8 Tryz.ntmps72 (Nat.le_of_ble_eq_true rfl) ?_
 intro E hN
 refine rn9 ?_; refine zP (q_call (fclosed_fc l.rs s) rfl rfl rfl) ?_; refine zS ?_; refine zQ ?_
 rfl
/-- the names of which the bits are set -/
def selB : List Nm → Nat → List Nm
 | [], _ => []
 | s :: r, b => if b % 2 = 1 then s :: selB r (b / 2) else selB r (b / 2)
theorem selB_succ {s : Nm} : ∀ {l : List Nm} {k : Nat} (b : Nat), l[k]? = some s → selB (l.take (k + 1)) b = selB (l.take k) b ++ (if b / 2 ^ k % 2 = 1 then [s] else [])
 | [], k, b, h => by simp at h
 | a :: r, 0, b, h => by
  simp at h; subst h
  simp [selB]
 | a :: r, k + 1, b, h => by
  have ih := selB_succ (k := k) (b / 2) (by simpa using h)
  rw [Nat.div_div_eq_div_mul, show 2 * 2 ^ k = 2 ^ (k + 1) by rw [Nat.pow_succ, Nat.mul_comm]] at ih
  rw [List.take_succ_cons, List.take_succ_cons]
  unfold selB
  split
  ·rw [ih]; rfl
  rw [ih]
theorem selB_yes {s : Nm} {l : List Nm} {k b : Nat} (h : l[k]? = some s) (hb : b / 2 ^ k % 2 = 1) : selB (l.take (k + 1)) b = selB (l.take k) b ++ [s] := by rw [selB_succ b h, if_pos hb]
theorem selB_no {s : Nm} {l : List Nm} {k b : Nat} (h : l[k]? = some s) (hb : ¬ b / 2 ^ k % 2 = 1) : selB (l.take (k + 1)) b = selB (l.take k) b := by rw [selB_succ b h, if_neg hb, List.append_nil]
theorem selB_len : ∀ (l : List Nm) (b : Nat), (selB l b).length ≤ l.length
 | [], _ => Nat.le_refl _
 | s :: r, b => by
  have := selB_len r (b / 2)
  unfold selB
  split <;> simp <;> omega
def setV (s : List Nm) : Val := .mk 0 s [] []
/-- the accepted subsets, of the first B -/
def subsV (acc : List Nm → Bool) (l : List Nm) (B : Nat) : List Val := (((List.range B).map (selB l)).filter acc).map setV
theorem subsV_yes {acc : List Nm → Bool} {l : List Nm} {b : Nat} (h : acc (selB l b) = true) : subsV acc l (b + 1) = subsV acc l b ++ [setV (selB l b)] := by
 unfold subsV
 rw [List.range_succ, List.map_append, List.filter_append, List.map_append]
 simp [h]
theorem subsV_no {acc : List Nm → Bool} {l : List Nm} {b : Nat} (h : acc (selB l b) = false) : subsV acc l (b + 1) = subsV acc l b := by
 unfold subsV
 rw [List.range_succ, List.map_append, List.filter_append, List.map_append]
 simp [h]
theorem subsV_mono {acc : List Nm → Bool} {l : List Nm} (b : Nat) : ∀ d, (subsV acc l b).length ≤ (subsV acc l (b + d)).length
 | 0 => Nat.le_refl _
 | d + 1 => by
  refine Nat.le_trans (subsV_mono b d) ?_
  rw [show b + (d + 1) = (b + d) + 1 from rfl]
  cases h : acc (selB l (b + d)) with
  | true => rw [subsV_yes h]; simp
  | false => rw [subsV_no h]; exact Nat.le_refl _
theorem pow_le_12 {n : Nat} (h : n ≤ 12) : 2 ^ n ≤ 4096 := Nat.pow_le_pow_right (by decide) h
theorem set_cells (s : List Nm) : chunkA 4 1 [i64 0, svs s, .sl [] none, .sl [] none] = [valC (setV s)] := by rw [valC_eq]; rfl
theorem div_lt62 {b i : Nat} (h : b ≤ 4096) : b / 2 ^ i < 2 ^ 62 := Nat.lt_of_le_of_lt (Nat.div_le_self _ _) (by omega)
set_option maxRecDepth 100000 in
set_option maxHeartbeats 1000000 in
theorem subsets_gx {g : FuncId} [TFn Tryz.prog g] {acc : List Nm → Bool} (l : List Nm) (hl : l.length ≤ 12) (hc : ∀ s, FC Tryz.prog g (svs s :: []) (bl (acc s))) (h256 : (subsV acc l (2 ^ l.length)).length ≤ 256) : GV 70 [svs l, .fn g []] (subsV acc l (2 ^ l.length)) 0 1 := by
 refine gx_of_awp [4, 5] Tryz.func70 rfl rfl 47 Tryz.ntmps70 (Nat.le_of_ble_eq_true rfl) ?_
 intro E hN
 refine a_lm 0 rfl (fun hl0 => ?_)
 have hp := pow_le_12 hl
 refine rn14 ?_
 refine zP (q_shl1 rfl rfl rfl (by rw [List.length_map]; omega)) ?_
 refine rn3 ?_; refine awp_weak (weak_own rfl 6 30 4 rfl) ?_
 refine awp_loop (fun x : {b : Nat // b ≤ 2 ^ l.length ∧ (subsV acc l b).length ≤ 256} => ⟨[(0, svs l), (1, .fn g []), (6, .own 0 (subsV acc l x.1).length), (13, i64 (2 ^ l.length : Nat)), (14, i64 (x.1 : Nat))], [(0, .arr 30 4 ((subsV acc l x.1).map valC))], 1⟩) (fun x => 2 ^ l.length - x.1) (⟨0, Nat.zero_le _, by simp [subsV]⟩) ?_ ?_
 ·
  exact weak_scrub' rfl (zz3 ⟨(cgI (by rw [List.length_map])), rfl, (zz1 trivial)⟩) ⟨rfl, rfl, (ok_vals _), trivial⟩
 rintro ⟨b, hb, gb⟩
 dsimp only
 refine rn5 ?_
 refine zq ?_ ?_ <;> intro h10
 ·
  have ltb : b < 2 ^ l.length := by have := of_decide_eq_true h10; omega
  refine rn20 ?_; refine awp_weak (weak_own rfl 8 9 1 rfl) ?_
  refine awp_loop (fun x : {i : Nat // i ≤ l.length ∧ True} => ⟨[(0, svs l), (1, .fn g []), (6, .own 0 (subsV acc l b).length), (13, i64 (2 ^ l.length : Nat)), (14, i64 (b : Nat)), (7, i64 (b : Nat)), (8, .own 1 (selB (l.take x.1) b).length), (17, svs l), (18, i64 l.length), (19, i64 (x.1 : Nat))], [(0, .arr 30 4 ((subsV acc l b).map valC)), (1, .arr 9 1 ((selB (l.take x.1) b).map sv1))], 2⟩) (fun x => l.length - x.1) (⟨0, Nat.zero_le _, by trivial⟩) ?_ ?_
  ·
   exact weak_scrub' rfl (zz4 (zz4 ⟨(cgI (by simp)), rfl, (zz1 trivial)⟩)) ⟨rfl, rfl, (ok_vals _), rfl, rfl, (ok_arr (fun _ => rfl) _), trivial⟩
  rintro ⟨i, hi, gi⟩
  dsimp only
  refine rn5 ?_
  refine zq ?_ ?_ <;> intro h22
  ·
   have lti : i < l.length := by simpa using h22
   obtain ⟨s, hls⟩ := get_lt lti
   refine rn6 ?_; refine zP (q_elem rfl rfl rfl i rfl _ (map_get hls) rfl) ?_; refine rn8 ?_; refine zP (q_shrN rfl rfl rfl (by omega)) ?_
   refine zP (q_and1 rfl rfl rfl (div_lt62 (by omega))) ?_; refine rn2 ?_
   refine zq ?_ ?_ <;> intro h27
   ·
    have h9 : b / 2 ^ i % 2 = 1 := Int.ofNat.inj (eq_of_beq h27)
    refine rn3 ?_; refine zP (q_bslice rfl rfl rfl rfl (by exact rfl) (by decide) (by decide)) ?_
    refine s_append_own hN rfl rfl rfl (by simp) rfl rfl (by rfl) (by have := selB_len (l.take i) b; simp [chunkA]; simp at this; omega) rfl rfl rfl rfl ?_
    refine rn3 ?_; refine zP (q_addi rfl rfl rfl (by omega)) ?_; refine zM ?_; refine aops_nil ?_
    exact ⟨⟨i + 1, lti, trivial⟩, weak_scrub' rfl (zz4 (zz2 ⟨(cgO (by first | rw [selB_no hls h9] | (rw [selB_yes hls h9]; simp [chunkA]))), rfl, (zz2 ⟨(cgI (by dsimp only; omega)), rfl, trivial⟩)⟩)) ⟨rfl, rfl, (ok_vals _), (cgA (by first | rw [selB_no hls h9] | (rw [selB_yes hls h9, List.map_append]; rfl))), rfl, (ok_arr (fun _ => rfl) _), trivial⟩, by dsimp only; omega⟩
   have h9 : ¬ b / 2 ^ i % 2 = 1 := fun e => ne_of_beq_false h27 (by rw [e]; rfl)
   refine rn2 ?_; refine zP (q_addi rfl rfl rfl (by omega)) ?_; refine zM ?_; refine aops_nil ?_
   exact ⟨⟨i + 1, lti, trivial⟩, weak_scrub' rfl (zz4 (zz2 ⟨(cgO (by first | rw [selB_no hls h9] | (rw [selB_yes hls h9]; simp [chunkA]))), rfl, (zz2 ⟨(cgI (by dsimp only; omega)), rfl, trivial⟩)⟩)) ⟨rfl, rfl, (ok_vals _), (cgA (by first | rw [selB_no hls h9] | (rw [selB_yes hls h9, List.map_append]; rfl))), rfl, (ok_arr (fun _ => rfl) _), trivial⟩, by dsimp only; omega⟩
  have gei : l.length ≤ i := by simpa using h22
  obtain rfl : l.length = i := by omega
  refine rn3 ?_
  have hsel : selB (l.take l.length) b = selB l b := by rw [List.take_of_length_le (Nat.le_refl _)]
  rw [hsel]
  refine awp_weak (weak_frow 8 1 rfl rfl (by simp) (okE_map (fun _ => rfl) _) (fz_map (fun _ => rfl) _) rfl) ?_; refine rn3 ?_
  refine zP (q_callv (hc (selB l b)) rfl rfl rfl rfl) ?_; refine zN ?_
  refine zq ?_ ?_ <;> intro h32
  ·
   have h12 : acc (selB l b) = true := h32
   refine rn4 ?_; refine zP (q_bslice rfl rfl rfl rfl (by exact rfl) (by decide) (by decide)) ?_
   refine s_append_own hN rfl rfl rfl (by simp) rfl rfl (by rfl) (by simp [chunkA]; omega) rfl rfl rfl rfl ?_
   refine rn5 ?_; refine zP (q_len_own rfl rfl (by rfl) (by simp)) ?_; refine rn2 ?_
   refine zq ?_ ?_ <;> intro h37
   ·
    exfalso
    have h14 := of_decide_eq_true h37
    have hm := subsV_mono (acc := acc) (l := l) (b + 1) (2 ^ l.length - (b + 1))
    rw [show b + 1 + (2 ^ l.length - (b + 1)) = 2 ^ l.length by omega] at hm
    first
     | (rw [subsV_yes h12] at hm; simp [chunkA] at hm h14; omega)
     | (rw [subsV_no h12] at hm; simp at hm h14; omega)
   have h14 := of_decide_eq_false h37
   refine rn2 ?_; refine zP (q_addi rfl rfl rfl (by omega)) ?_; refine zM ?_; refine aops_nil ?_
   exact ⟨⟨b + 1, ltb, (by first | (rw [subsV_no h12]; omega) | (have h15 := h14; rw [List.length_map] at h15; rw [subsV_yes h12, List.length_append, List.length_singleton]; omega) | (rw [subsV_yes h12, List.length_append]; have h15 := h14; simp [chunkA] at h15 ⊢; omega))⟩, weak_scrub' rfl (zz2 ⟨(cgO (by first | rw [subsV_no h12] | (rw [subsV_yes h12]; simp [chunkA]))), rfl, rfl, rfl, (cgI (by dsimp only; omega)), rfl, trivial⟩) ⟨(cgA (by first | rw [subsV_no h12] | (rw [subsV_yes h12, List.map_append, List.map_cons, List.map_nil, ← set_cells]))), rfl, (ok_vals _), trivial⟩, by dsimp only; omega⟩
  have h12 : acc (selB l b) = false := h32
  refine rn4 ?_; refine zP (q_len_own rfl rfl (by rfl) (by simp)) ?_; refine rn2 ?_
  refine zq ?_ ?_ <;> intro h40
  ·
   exfalso
   have h14 := of_decide_eq_true h40
   have hm := subsV_mono (acc := acc) (l := l) (b + 1) (2 ^ l.length - (b + 1))
   rw [show b + 1 + (2 ^ l.length - (b + 1)) = 2 ^ l.length by omega] at hm
   first
    | (rw [subsV_yes h12] at hm; simp [chunkA] at hm h14; omega)
    | (rw [subsV_no h12] at hm; simp at hm h14; omega)
  have h14 := of_decide_eq_false h40
  refine rn2 ?_; refine zP (q_addi rfl rfl rfl (by omega)) ?_; refine zM ?_; refine aops_nil ?_
  exact ⟨⟨b + 1, ltb, (by first | (rw [subsV_no h12]; omega) | (have h15 := h14; rw [List.length_map] at h15; rw [subsV_yes h12, List.length_append, List.length_singleton]; omega) | (rw [subsV_yes h12, List.length_append]; have h15 := h14; simp [chunkA] at h15 ⊢; omega))⟩, weak_scrub' rfl (zz2 ⟨(cgO (by first | rw [subsV_no h12] | (rw [subsV_yes h12]; simp [chunkA]))), rfl, rfl, rfl, (cgI (by dsimp only; omega)), rfl, trivial⟩) ⟨(cgA (by first | rw [subsV_no h12] | (rw [subsV_yes h12, List.map_append, List.map_cons, List.map_nil, ← set_cells]))), rfl, (ok_vals _), trivial⟩, by dsimp only; omega⟩
 have geb : 2 ^ l.length ≤ b := by have := of_decide_eq_false h10; omega
 obtain rfl : 2 ^ l.length = b := by omega
 refine rn7 ?_; refine awp_ret ?_
 change (resX _ _).ntt = _ ∧ _
 refine ret_x rfl ?_ rfl rfl rfl ⟨rfl, rfl, ok_vals _, trivial⟩
 rfl
set_option maxRecDepth 100000 in
set_option maxHeartbeats 1000000 in
theorem subsetsE_gx {g : FuncId} [TFn Tryz.prog g] {cs : List AV} {acc : List Nm → Bool} (l : List Nm) (hl : l.length ≤ 12) (hc : ∀ s, FC Tryz.prog g (svs s :: [.el cs]) (bl (acc s))) (h256 : (subsV acc l (2 ^ l.length)).length ≤ 256) : GV 70 [svs l, .fn g [.el cs]] (subsV acc l (2 ^ l.length)) 0 1 := by
 refine gx_of_awp [4, 5] Tryz.func70 rfl rfl 47 Tryz.ntmps70 (Nat.le_of_ble_eq_true rfl) ?_
 intro E hN
 refine a_lm 0 rfl (fun hl0 => ?_)
 have hp := pow_le_12 hl
 refine rn14 ?_
 refine zP (q_shl1 rfl rfl rfl (by rw [List.length_map]; omega)) ?_
 refine rn3 ?_; refine awp_weak (weak_own rfl 6 30 4 rfl) ?_
 refine awp_loop (fun x : {b : Nat // b ≤ 2 ^ l.length ∧ (subsV acc l b).length ≤ 256} => ⟨[(0, svs l), (1, .fn g [.el cs]), (6, .own 0 (subsV acc l x.1).length), (13, i64 (2 ^ l.length : Nat)), (14, i64 (x.1 : Nat))], [(0, .arr 30 4 ((subsV acc l x.1).map valC))], 1⟩) (fun x => 2 ^ l.length - x.1) (⟨0, Nat.zero_le _, by simp [subsV]⟩) ?_ ?_
 ·
  exact weak_scrub' rfl (zz3 ⟨(cgI (by rw [List.length_map])), rfl, (zz1 trivial)⟩) ⟨rfl, rfl, (ok_vals _), trivial⟩
 rintro ⟨b, hb, gb⟩
 dsimp only
 refine rn5 ?_
 refine zq ?_ ?_ <;> intro h10
 ·
  have ltb : b < 2 ^ l.length := by have := of_decide_eq_true h10; omega
  refine rn20 ?_; refine awp_weak (weak_own rfl 8 9 1 rfl) ?_
  refine awp_loop (fun x : {i : Nat // i ≤ l.length ∧ True} => ⟨[(0, svs l), (1, .fn g [.el cs]), (6, .own 0 (subsV acc l b).length), (13, i64 (2 ^ l.length : Nat)), (14, i64 (b : Nat)), (7, i64 (b : Nat)), (8, .own 1 (selB (l.take x.1) b).length), (17, svs l), (18, i64 l.length), (19, i64 (x.1 : Nat))], [(0, .arr 30 4 ((subsV acc l b).map valC)), (1, .arr 9 1 ((selB (l.take x.1) b).map sv1))], 2⟩) (fun x => l.length - x.1) (⟨0, Nat.zero_le _, by trivial⟩) ?_ ?_
  ·
   exact weak_scrub' rfl (zz4 (zz4 ⟨(cgI (by simp)), rfl, (zz1 trivial)⟩)) ⟨rfl, rfl, (ok_vals _), rfl, rfl, (ok_arr (fun _ => rfl) _), trivial⟩
  rintro ⟨i, hi, gi⟩
  dsimp only
  refine rn5 ?_
  refine zq ?_ ?_ <;> intro h22
  ·
   have lti : i < l.length := by simpa using h22
   obtain ⟨s, hls⟩ := get_lt lti
   refine rn6 ?_; refine zP (q_elem rfl rfl rfl i rfl _ (map_get hls) rfl) ?_; refine rn8 ?_; refine zP (q_shrN rfl rfl rfl (by omega)) ?_
   refine zP (q_and1 rfl rfl rfl (div_lt62 (by omega))) ?_; refine rn2 ?_
   refine zq ?_ ?_ <;> intro h27
   ·
    have h9 : b / 2 ^ i % 2 = 1 := Int.ofNat.inj (eq_of_beq h27)
    refine rn3 ?_; refine zP (q_bslice rfl rfl rfl rfl (by exact rfl) (by decide) (by decide)) ?_
    refine s_append_own hN rfl rfl rfl (by simp) rfl rfl (by rfl) (by have := selB_len (l.take i) b; simp [chunkA]; simp at this; omega) rfl rfl rfl rfl ?_
    refine rn3 ?_; refine zP (q_addi rfl rfl rfl (by omega)) ?_; refine zM ?_; refine aops_nil ?_
    exact ⟨⟨i + 1, lti, trivial⟩, weak_scrub' rfl (zz4 (zz2 ⟨(cgO (by first | rw [selB_no hls h9] | (rw [selB_yes hls h9]; simp [chunkA]))), rfl, (zz2 ⟨(cgI (by dsimp only; omega)), rfl, trivial⟩)⟩)) ⟨rfl, rfl, (ok_vals _), (cgA (by first | rw [selB_no hls h9] | (rw [selB_yes hls h9, List.map_append]; rfl))), rfl, (ok_arr (fun _ => rfl) _), trivial⟩, by dsimp only; omega⟩
   have h9 : ¬ b / 2 ^ i % 2 = 1 := fun e => ne_of_beq_false h27 (by rw [e]; rfl)
   refine rn2 ?_; refine zP (q_addi rfl rfl rfl (by omega)) ?_; refine zM ?_; refine aops_nil ?_
   exact ⟨⟨i + 1, lti, trivial⟩, weak_scrub' rfl (zz4 (zz2 ⟨(cgO (by first | rw [selB_no hls h9] | (rw [selB_yes hls h9]; simp [chunkA]))), rfl, (zz2 ⟨(cgI (by dsimp only; omega)), rfl, trivial⟩)⟩)) ⟨rfl, rfl, (ok_vals _), (cgA (by first | rw [selB_no hls h9] | (rw [selB_yes hls h9, List.map_append]; rfl))), rfl, (ok_arr (fun _ => rfl) _), trivial⟩, by dsimp only; omega⟩
  have gei : l.length ≤ i := by simpa using h22
  obtain rfl : l.length = i := by omega
  refine rn3 ?_
  have hsel : selB (l.take l.length) b = selB l b := by rw [List.take_of_length_le (Nat.le_refl _)]
  rw [hsel]
  refine awp_weak (weak_frow 8 1 rfl rfl (by simp) (okE_map (fun _ => rfl) _) (fz_map (fun _ => rfl) _) rfl) ?_; refine rn3 ?_
  refine zP (q_callv (hc (selB l b)) rfl rfl rfl rfl) ?_; refine zN ?_
  refine zq ?_ ?_ <;> intro h32
  ·
   have h12 : acc (selB l b) = true := h32
   refine rn4 ?_; refine zP (q_bslice rfl rfl rfl rfl (by exact rfl) (by decide) (by decide)) ?_
   refine s_append_own hN rfl rfl rfl (by simp) rfl rfl (by rfl) (by simp [chunkA]; omega) rfl rfl rfl rfl ?_
   refine rn5 ?_; refine zP (q_len_own rfl rfl (by rfl) (by simp)) ?_; refine rn2 ?_
   refine zq ?_ ?_ <;> intro h37
   ·
    exfalso
    have h14 := of_decide_eq_true h37
    have hm := subsV_mono (acc := acc) (l := l) (b + 1) (2 ^ l.length - (b + 1))
    rw [show b + 1 + (2 ^ l.length - (b + 1)) = 2 ^ l.length by omega] at hm
    first
     | (rw [subsV_yes h12] at hm; simp [chunkA] at hm h14; omega)
     | (rw [subsV_no h12] at hm; simp at hm h14; omega)
   have h14 := of_decide_eq_false h37
   refine rn2 ?_; refine zP (q_addi rfl rfl rfl (by omega)) ?_; refine zM ?_; refine aops_nil ?_
   exact ⟨⟨b + 1, ltb, (by first | (rw [subsV_no h12]; omega) | (have h15 := h14; rw [List.length_map] at h15; rw [subsV_yes h12, List.length_append, List.length_singleton]; omega) | (rw [subsV_yes h12, List.length_append]; have h15 := h14; simp [chunkA] at h15 ⊢; omega))⟩, weak_scrub' rfl (zz2 ⟨(cgO (by first | rw [subsV_no h12] | (rw [subsV_yes h12]; simp [chunkA]))), rfl, rfl, rfl, (cgI (by dsimp only; omega)), rfl, trivial⟩) ⟨(cgA (by first | rw [subsV_no h12] | (rw [subsV_yes h12, List.map_append, List.map_cons, List.map_nil, ← set_cells]))), rfl, (ok_vals _), trivial⟩, by dsimp only; omega⟩
  have h12 : acc (selB l b) = false := h32
  refine rn4 ?_; refine zP (q_len_own rfl rfl (by rfl) (by simp)) ?_; refine rn2 ?_
  refine zq ?_ ?_ <;> intro h40
  ·
   exfalso
   have h14 := of_decide_eq_true h40
   have hm := subsV_mono (acc := acc) (l := l) (b + 1) (2 ^ l.length - (b + 1))
   rw [show b + 1 + (2 ^ l.length - (b + 1)) = 2 ^ l.length by omega] at hm
   first
    | (rw [subsV_yes h12] at hm; simp [chunkA] at hm h14; omega)
    | (rw [subsV_no h12] at hm; simp at hm h14; omega)
  have h14 := of_decide_eq_false h40
  refine rn2 ?_; refine zP (q_addi rfl rfl rfl (by omega)) ?_; refine zM ?_; refine aops_nil ?_
  exact ⟨⟨b + 1, ltb, (by first | (rw [subsV_no h12]; omega) | (have h15 := h14; rw [List.length_map] at h15; rw [subsV_yes h12, List.length_append, List.length_singleton]; omega) | (rw [subsV_yes h12, List.length_append]; have h15 := h14; simp [chunkA] at h15 ⊢; omega))⟩, weak_scrub' rfl (zz2 ⟨(cgO (by first | rw [subsV_no h12] | (rw [subsV_yes h12]; simp [chunkA]))), rfl, rfl, rfl, (cgI (by dsimp only; omega)), rfl, trivial⟩) ⟨(cgA (by first | rw [subsV_no h12] | (rw [subsV_yes h12, List.map_append, List.map_cons, List.map_nil, ← set_cells]))), rfl, (ok_vals _), trivial⟩, by dsimp only; omega⟩
 have geb : 2 ^ l.length ≤ b := by have := of_decide_eq_false h10; omega
 obtain rfl : 2 ^ l.length = b := by omega
 refine rn7 ?_; refine awp_ret ?_
 change (resX _ _).ntt = _ ∧ _
 refine ret_x rfl ?_ rfl rfl rfl ⟨rfl, rfl, ok_vals _, trivial⟩
 rfl
set_option maxRecDepth 100000 in
set_option maxHeartbeats 1000000 in
theorem subsetsEN_fc {g : FuncId} [TFn Tryz.prog g] {cs : List AV} {acc : List Nm → Bool} (l : List Nm) (hl : l.length ≤ 12) (hc : ∀ s, FC Tryz.prog g (svs s :: [.el cs]) (bl (acc s))) (h256 : 256 < (subsV acc l (2 ^ l.length)).length) : FC Tryz.prog 70 [svs l, .fn g [.el cs]] (.tup [.sl [] none, bl false]) := by
 refine fc_of_awp [4, 5] Tryz.func70 rfl rfl 47 Tryz.ntmps70 (Nat.le_of_ble_eq_true rfl) ?_
 intro E hN
 refine a_lm 0 rfl (fun hl0 => ?_)
 have hp := pow_le_12 hl
 refine rn14 ?_
 refine zP (q_shl1 rfl rfl rfl (by rw [List.length_map]; omega)) ?_
 refine rn3 ?_; refine awp_weak (weak_own rfl 6 30 4 rfl) ?_
 refine awp_loop (fun x : {b : Nat // b ≤ 2 ^ l.length ∧ (subsV acc l b).length ≤ 256} => ⟨[(0, svs l), (1, .fn g [.el cs]), (6, .own 0 (subsV acc l x.1).length), (13, i64 (2 ^ l.length : Nat)), (14, i64 (x.1 : Nat))], [(0, .arr 30 4 ((subsV acc l x.1).map valC))], 1⟩) (fun x => 2 ^ l.length - x.1) (⟨0, Nat.zero_le _, by simp [subsV]⟩) ?_ ?_
 ·
  exact weak_scrub' rfl (zz3 ⟨(cgI (by rw [List.length_map])), rfl, (zz1 trivial)⟩) ⟨rfl, rfl, (ok_vals _), trivial⟩
 rintro ⟨b, hb, gb⟩
 dsimp only
 refine rn5 ?_
 refine zq ?_ ?_ <;> intro h10
 ·
  have ltb : b < 2 ^ l.length := by have := of_decide_eq_true h10; omega
  refine rn20 ?_; refine awp_weak (weak_own rfl 8 9 1 rfl) ?_
  refine awp_loop (fun x : {i : Nat // i ≤ l.length ∧ True} => ⟨[(0, svs l), (1, .fn g [.el cs]), (6, .own 0 (subsV acc l b).length), (13, i64 (2 ^ l.length : Nat)), (14, i64 (b : Nat)), (7, i64 (b : Nat)), (8, .own 1 (selB (l.take x.1) b).length), (17, svs l), (18, i64 l.length), (19, i64 (x.1 : Nat))], [(0, .arr 30 4 ((subsV acc l b).map valC)), (1, .arr 9 1 ((selB (l.take x.1) b).map sv1))], 2⟩) (fun x => l.length - x.1) (⟨0, Nat.zero_le _, by trivial⟩) ?_ ?_
  ·
   exact weak_scrub' rfl (zz4 (zz4 ⟨(cgI (by simp)), rfl, (zz1 trivial)⟩)) ⟨rfl, rfl, (ok_vals _), rfl, rfl, (ok_arr (fun _ => rfl) _), trivial⟩
  rintro ⟨i, hi, gi⟩
  dsimp only
  refine rn5 ?_
  refine zq ?_ ?_ <;> intro h22
  ·
   have lti : i < l.length := by simpa using h22
   obtain ⟨s, hls⟩ := get_lt lti
   refine rn6 ?_; refine zP (q_elem rfl rfl rfl i rfl _ (map_get hls) rfl) ?_; refine rn8 ?_; refine zP (q_shrN rfl rfl rfl (by omega)) ?_
   refine zP (q_and1 rfl rfl rfl (div_lt62 (by omega))) ?_; refine rn2 ?_
   refine zq ?_ ?_ <;> intro h27
   ·
    have h9 : b / 2 ^ i % 2 = 1 := Int.ofNat.inj (eq_of_beq h27)
    refine rn3 ?_; refine zP (q_bslice rfl rfl rfl rfl (by exact rfl) (by decide) (by decide)) ?_
    refine s_append_own hN rfl rfl rfl (by simp) rfl rfl (by rfl) (by have := selB_len (l.take i) b; simp [chunkA]; simp at this; omega) rfl rfl rfl rfl ?_
    refine rn3 ?_; refine zP (q_addi rfl rfl rfl (by omega)) ?_; refine zM ?_; refine aops_nil ?_
    exact ⟨⟨i + 1, lti, trivial⟩, weak_scrub' rfl (zz4 (zz2 ⟨(cgO (by first | rw [selB_no hls h9] | (rw [selB_yes hls h9]; simp [chunkA]))), rfl, (zz2 ⟨(cgI (by dsimp only; omega)), rfl, trivial⟩)⟩)) ⟨rfl, rfl, (ok_vals _), (cgA (by first | rw [selB_no hls h9] | (rw [selB_yes hls h9, List.map_append]; rfl))), rfl, (ok_arr (fun _ => rfl) _), trivial⟩, by dsimp only; omega⟩
   have h9 : ¬ b / 2 ^ i % 2 = 1 := fun e => ne_of_beq_false h27 (by rw [e]; rfl)
   refine rn2 ?_; refine zP (q_addi rfl rfl rfl (by omega)) ?_; refine zM ?_; refine aops_nil ?_
   exact ⟨⟨i + 1, lti, trivial⟩, weak_scrub' rfl (zz4 (zz2 ⟨(cgO (by first | rw [selB_no hls h9] | (rw [selB_yes hls h9]; simp [chunkA]))), rfl, (zz2 ⟨(cgI (by dsimp only; omega)), rfl, trivial⟩)⟩)) ⟨rfl, rfl, (ok_vals _), (cgA (by first | rw [selB_no hls h9] | (rw [selB_yes hls h9, List.map_append]; rfl))), rfl, (ok_arr (fun _ => rfl) _), trivial⟩, by dsimp only; omega⟩
  have gei : l.length ≤ i := by simpa using h22
  obtain rfl : l.length = i := by omega
  refine rn3 ?_
  have hsel : selB (l.take l.length) b = selB l b := by rw [List.take_of_length_le (Nat.le_refl _)]
  rw [hsel]
  refine awp_weak (weak_frow 8 1 rfl rfl (by simp) (okE_map (fun _ => rfl) _) (fz_map (fun _ => rfl) _) rfl) ?_; refine rn3 ?_
  refine zP (q_callv (hc (selB l b)) rfl rfl rfl rfl) ?_; refine zN ?_
  refine zq ?_ ?_ <;> intro h32
  ·
   have h12 : acc (selB l b) = true := h32
   refine rn4 ?_; refine zP (q_bslice rfl rfl rfl rfl (by exact rfl) (by decide) (by decide)) ?_
   refine s_append_own hN rfl rfl rfl (by simp) rfl rfl (by rfl) (by simp [chunkA]; omega) rfl rfl rfl rfl ?_
   refine rn5 ?_; refine zP (q_len_own rfl rfl (by rfl) (by simp)) ?_; refine rn2 ?_
   refine zq ?_ ?_ <;> intro h37
   ·
    have h14 := of_decide_eq_true h37
    refine rn4 ?_; refine zQ ?_
    rfl
   have h14 := of_decide_eq_false h37
   refine rn2 ?_; refine zP (q_addi rfl rfl rfl (by omega)) ?_; refine zM ?_; refine aops_nil ?_
   exact ⟨⟨b + 1, ltb, (by first | (rw [subsV_no h12]; omega) | (have h15 := h14; rw [List.length_map] at h15; rw [subsV_yes h12, List.length_append, List.length_singleton]; omega) | (rw [subsV_yes h12, List.length_append]; have h15 := h14; simp [chunkA] at h15 ⊢; omega))⟩, weak_scrub' rfl (zz2 ⟨(cgO (by first | rw [subsV_no h12] | (rw [subsV_yes h12]; simp [chunkA]))), rfl, rfl, rfl, (cgI (by dsimp only; omega)), rfl, trivial⟩) ⟨(cgA (by first | rw [subsV_no h12] | (rw [subsV_yes h12, List.map_append, List.map_cons, List.map_nil, ← set_cells]))), rfl, (ok_vals _), trivial⟩, by dsimp only; omega⟩
  have h12 : acc (selB l b) = false := h32
  refine rn4 ?_; refine zP (q_len_own rfl rfl (by rfl) (by simp)) ?_; refine rn2 ?_
  refine zq ?_ ?_ <;> intro h40
  ·
   have h14 := of_decide_eq_true h40
   refine rn4 ?_; refine zQ ?_
   rfl
  have h14 := of_decide_eq_false h40
  refine rn2 ?_; refine zP (q_addi rfl rfl rfl (by omega)) ?_; refine zM ?_; refine aops_nil ?_
  exact ⟨⟨b + 1, ltb, (by first | (rw [subsV_no h12]; omega) | (have h15 := h14; rw [List.length_map] at h15; rw [subsV_yes h12, List.length_append, List.length_singleton]; omega) | (rw [subsV_yes h12, List.length_append]; have h15 := h14; simp [chunkA] at h15 ⊢; omega))⟩, weak_scrub' rfl (zz2 ⟨(cgO (by first | rw [subsV_no h12] | (rw [subsV_yes h12]; simp [chunkA]))), rfl, rfl, rfl, (cgI (by dsimp only; omega)), rfl, trivial⟩) ⟨(cgA (by first | rw [subsV_no h12] | (rw [subsV_yes h12, List.map_append, List.map_cons, List.map_nil, ← set_cells]))), rfl, (ok_vals _), trivial⟩, by dsimp only; omega⟩
 exfalso
 have geb : 2 ^ l.length ≤ b := by have := of_decide_eq_false h10; omega
 obtain rfl : 2 ^ l.length = b := by omega
 omega
end Go.Proofs.YtaecccdkjmipeaaGreat

namespace Go.Proofs.YtaecccdkjmipeaaGreat
open Go.RowKit
set_option maxRecDepth 100000 in
set_option maxHeartbeats 1000000 in
theorem idxFV_fc {g : FuncId} [TFn Tryz.prog g] {cs : List AV} {q : Val → Bool} (l : List Val) (hc : ∀ y ∈ l, FC Tryz.prog g [.agg (valL y), .el cs] (bl (q y))) : FC Tryz.prog 110 [vals l, .fn g [.el cs]] (i64 (idxF q l 0)) := by
 refine fc_of_awp [4] Tryz.func110 rfl rfl 19 Tryz.ntmps110 (Nat.le_of_ble_eq_true rfl) ?_
 intro E hN
 refine a_lm 0 rfl (fun hl0 => ?_)
 refine rn12 ?_
 refine awp_loop (fun x : {k : Nat // k ≤ (l).length ∧ idxF q (l.drop k) k = idxF q l 0} => ⟨[(0, vals l), (1, .fn g [.el cs]), (7, i64 l.length), (8, i64 (x.1 : Nat))], [], 0⟩) (fun x => (l).length - x.1) (⟨0, Nat.zero_le _, by simp⟩) ?_ ?_
 ·
  exact weak_scrub' rfl (zz2 ⟨(cgI (by simp)), rfl, (zz1 trivial)⟩) trivial
 rintro ⟨k, hk, hg⟩
 dsimp only
 refine rn5 ?_
 refine zq ?_ ?_ <;> intro h8
 ·
  have hlt : k < (l).length := by simpa using h8
  obtain ⟨x, hx⟩ := get_lt hlt
  have hs : idxF q l 0 = if q x then (k : Int) else idxF q (l.drop (k + 1)) (k + 1) := by rw [← hg, drop_get hx]; rfl
  refine rn13 ?_; refine zP (q_elem rfl rfl rfl k rfl _ (val_get hx) rfl) ?_; refine zL ?_
  refine zP (q_callv (hc x (List.mem_of_getElem? hx)) rfl rfl rfl rfl) ?_; refine zN ?_
  refine zq ?_ ?_ <;> intro h11
  ·
   have h4 := h11
   refine rn4 ?_; refine zQ ?_
   exact retI (by rw [hs, if_pos (by simp_all)])
  have hn : idxF q (l.drop (k + 1)) (k + 1) = idxF q l 0 := by rw [hs, if_neg (by simp_all)]
  refine rn2 ?_; refine zP (q_addi rfl rfl rfl (by omega)) ?_; refine zM ?_; refine aops_nil ?_
  exact ⟨⟨k + 1, hlt, hn⟩, weak_scrub' rfl (zz3 ⟨(cgI (by dsimp only; omega)), rfl, trivial⟩) trivial, by dsimp only; omega⟩
 have hge : (l).length ≤ k := by simpa using h8
 refine rn4 ?_; refine zQ ?_
 exact retI (by rw [← hg, List.drop_of_length_le hge]; rfl)
theorem idxF_spec {α : Type} (q : α → Bool) : ∀ (l : List α) (i : Nat), (idxF q l i = -1 ∧ l.filter (fun x => !q x) = l) ∨ ∃ k, k < l.length ∧ idxF q l i = ((i + k : Nat) : Int) ∧ (l.take (k + 1)).filter (fun x => !q x) = l.take k
 | [], i => .inl ⟨rfl, rfl⟩
 | x :: l, i => by
  unfold idxF
  cases h : q x with
  | true => exact .inr ⟨0, by simp, by simp, by simp [h]⟩
  | false =>
   rcases idxF_spec q l (i + 1) with ⟨h1, h2⟩ | ⟨k, h1, h2, h3⟩
   ·exact .inl ⟨by simpa using h1, by simp [h, h2]⟩
   refine .inr ⟨k + 1, by simp; omega, by rw [if_neg (by simp), h2]; congr 1; omega, ?_⟩
   rw [List.take_succ_cons, List.filter_cons_of_pos (by simp [h]), h3, List.take_succ_cons]
theorem q_toE {P : Program} {E : Env} {st : St} {o : Oper} {n : Nat} {tt : TypeId} {x y : Operand} (ho : o.op = .slice tt x none (some y) none) {e : TypeId} [hT : TElem P tt e n] {es : List (List AV)} {tk : Option Nat} (hx : ev? st x = some (.sl es tk)) {k : IntKind} {i : Int} (hy : ev? st y = some (.p (.int k i)))
  (h : Nat) (hi : i = (h : Int)) (hh : h ≤ es.length) (hn : ∀ e ∈ es, e.length = n) : PY P E o st (.sl (es.take h) none) := by
 have := py_slice (P := P) (E := E) (st := st) tt x none (some y) ho es tk (ev_of hx) 0 h (.inl ⟨rfl, rfl⟩) (.inr ⟨y, k, rfl, by rw [ev_of hy, hi]⟩) (Nat.zero_le _) hh hn
 simpa using this
/-- the row while it is rewritten: i kept, j seen -/
structure DfI (q : Val → Bool) (l : List Val) (i j : Nat) (g : List Val) : Prop where
 lt : i < j
 le : j ≤ l.length
 len : g.length = l.length
 kept : g.take i = (l.take j).filter (fun x => !q x)
 rest : g.drop j = l.drop j
theorem DfI.get {q : Val → Bool} {l : List Val} {i j : Nat} {g : List Val} {x : Val} (h : DfI q l i j g) (hx : l[j]? = some x) : g[j]? = some x := by
 have h1 := congrArg (·[0]?) h.rest
 simp only [List.getElem?_drop, Nat.add_zero] at h1
 rw [h1, hx]
theorem DfI.keep {q : Val → Bool} {l : List Val} {i j : Nat} {g : List Val} {x : Val} (h : DfI q l i j g) (hx : l[j]? = some x) (hq : q x = false) : DfI q l (i + 1) (j + 1) (g.set i x) := by
 have hj := (List.getElem?_eq_some_iff.1 hx).1
 have := h.lt
 have hi : i < g.length := by rw [h.len]; omega
 refine ⟨by omega, hj, by rw [List.length_set, h.len], ?_, ?_⟩
 ·rw [List.take_add_one, List.getElem?_set_self hi, List.take_set_of_le (Nat.le_refl i), h.kept, List.take_add_one, hx, List.filter_append]
  simp [hq]
 rw [List.drop_set_of_lt (by omega)]
 have := congrArg (List.drop 1) h.rest
 rwa [List.drop_drop, List.drop_drop] at this
theorem DfI.drop {q : Val → Bool} {l : List Val} {i j : Nat} {g : List Val} {x : Val} (h : DfI q l i j g) (hx : l[j]? = some x) (hq : q x = true) : DfI q l i (j + 1) g := by
 have hj := (List.getElem?_eq_some_iff.1 hx).1
 have := h.lt
 refine ⟨by omega, hj, h.len, ?_, ?_⟩
 ·rw [h.kept, List.take_add_one, hx, List.filter_append]
  simp [hq]
 have := congrArg (List.drop 1) h.rest
 rwa [List.drop_drop, List.drop_drop] at this
theorem val_one {l : List Val} : ∀ e ∈ l.map valC, e.length = 4 := fun e he => by
 obtain ⟨v, -, rfl⟩ := List.mem_map.1 he
 rw [valC_eq]; rfl
theorem set_valC {l : List Val} {i : Nat} {x : Val} : (l.map valC).set i (valL x) = (l.set i x).map valC := by rw [← valC_eq, List.map_set]
theorem zV_ok (c : Cx) (i : Nat) (u : Value) (y : AV) (hu : [Value.int .i64 0, .slice none 0 0, .slice none 0 0, .slice none 0 0][i]? = some u) (hy : (valL Val.zero)[i]? = some y) : VR c u y := by
 match i, hu, hy with
 | 0, hu, hy => cases hu; cases hy; exact .fr _ _ (.p _)
 | 1, hu, hy => cases hu; cases hy; exact .fr _ _ (.nil _ _ _ _ (Nat.zero_le _))
 | 2, hu, hy => cases hu; cases hy; exact .fr _ _ (.nil _ _ _ _ (Nat.zero_le _))
 | 3, hu, hy => cases hu; cases hy; exact .fr _ _ (.nil _ _ _ _ (Nat.zero_le _))
 | i + 4, hu, _ => simp at hu
theorem zV_eq {l : List Val} {i m : Nat} : (l.map valC).take i ++ List.replicate m (valL Val.zero) = (l.take i ++ List.replicate m Val.zero).map valC := by
 rw [List.map_append, List.map_take, List.map_replicate, valC_eq]
set_option maxRecDepth 100000 in
set_option maxHeartbeats 1000000 in
theorem delF_gx {g : FuncId} [TFn Tryz.prog g] {cs : List AV} {q : Val → Bool} (l : List Val) (hc : ∀ y ∈ l, FC Tryz.prog g [.agg (valL y), .el cs] (bl (q y))) (hl6 : l.length ≤ 1000000) : GX Tryz.prog 74 [.own idB l.length, .fn g [.el cs]] [(idB, .arr 30 4 (l.map valC))] (vals (l.filter fun x => !q x)) [] 0 := by
 refine gx_of_awp [4] Tryz.func74 rfl rfl 42 Tryz.ntmps74 (Nat.le_of_ble_eq_true rfl) ?_
 intro E hN
 
 refine rn8 ?_; refine zP (q_lend (idxFV_fc l hc) rfl rfl rfl (.cons (.own rfl (by simp) (okE_vals l) (fzs_vals l)) (.cons (.fz rfl) .nil))) ?_
 refine rn8 ?_
 refine zq ?_ ?_ <;> intro h4
 ·
  have h2 := eq_of_beq h4
  have hfl : (l.filter fun x => !q x) = l := by
   rcases idxF_spec q l 0 with ⟨-, h⟩ | ⟨k, -, h, -⟩
   ·exact h
   rw [h2] at h; omega
  refine rn1 ?_; refine awp_weak (weak_frow 0 idB rfl rfl (by simp) (okE_vals l) (fzs_vals l) rfl) ?_; refine rn4 ?_; refine awp_ret ?_
  change (resX _ _).ntt = _ ∧ _
  refine ret_x rfl ?_ rfl rfl rfl trivial
  rw [hfl]; rfl
 ·
  have h2 := ne_of_beq_false h4
  obtain ⟨i0, hi0, e0, hk0⟩ : ∃ k, k < l.length ∧ idxF q l 0 = (k : Int) ∧ (l.take (k + 1)).filter (fun x => !q x) = l.take k := by
   rcases idxF_spec q l 0 with ⟨h, -⟩ | ⟨k, h1, h3, h4⟩
   ·exact absurd h h2
   exact ⟨k, h1, by rw [h3, Nat.zero_add], h4⟩
  refine rn5 ?_
  refine zP (q_addi rfl rfl rfl (by rw [e0]; omega)) ?_
  refine rn3 ?_
  refine awp_loop (fun x : {p : Nat × Nat × List Val // DfI q l p.1 p.2.1 p.2.2} => ⟨[(0, .own idB l.length), (1, .fn g [.el cs]), (5, i64 (x.1.1 : Nat)), (6, i64 (x.1.2.1 : Nat))], [(idB, .arr 30 4 (x.1.2.2.map valC))], 0⟩) (fun x => l.length - x.1.2.1) (⟨(i0, i0 + 1, l), Nat.lt_succ_self _, hi0, rfl, hk0.symm, rfl⟩) ?_ ?_
  ·
   exact weak_scrub' rfl (zz2 ⟨(cgI e0), rfl, (cgI (by rw [e0]; rfl)), rfl, trivial⟩) ⟨rfl, rfl, (ok_vals _), trivial⟩
  ·rintro ⟨⟨i, j, g'⟩, dg⟩
   dsimp only at dg ⊢
   refine rn5 ?_; refine zP (q_len_own rfl rfl (by rfl) (by rw [List.length_map, dg.len])) ?_; refine rn2 ?_
   refine zq ?_ ?_ <;> intro h11
   ·
    have ltj : j < l.length := by have := of_decide_eq_true h11; omega
    obtain ⟨x, hx⟩ := get_lt ltj
    refine rn7 ?_; refine zP (q_eown rfl rfl rfl rfl (by rw [List.length_map, dg.len]) j rfl ltj) ?_
    refine zP (q_loadO rfl rfl rfl (by rw [List.length_map, dg.len]) val_one j rfl (val_get (dg.get hx)) (r := .agg (valL x)) (fun _ => by cases x; rfl) rfl) ?_
    refine rn7 ?_; refine zP (q_callv (hc x (List.mem_of_getElem? hx)) rfl rfl rfl rfl) ?_; refine rn2 ?_
    refine zq ?_ ?_ <;> intro h17
    ·
     have h8 : q x = false := by simpa using h17
     refine rn5 ?_
     refine zP (q_eown rfl rfl rfl rfl (by rw [List.length_map, dg.len]) i rfl (by have := dg.lt; omega)) ?_
     refine s_storeO hN rfl rfl rfl (by rw [List.length_map, dg.len]) i rfl (by rw [List.length_map, dg.len]; have := dg.lt; omega) rfl rfl rfl rfl val_one rfl rfl rfl rfl ?_
     refine rn3 ?_
     refine zP (q_addi rfl rfl rfl (by have := dg.lt; omega)) ?_
     refine rn4 ?_
     refine zP (q_addi rfl rfl rfl (by have := dg.le; omega)) ?_
     refine zS ?_; refine aops_nil ?_
     exact ⟨⟨(i + 1, j + 1, g'.set i x), dg.keep hx h8⟩, weak_scrub' rfl (zz2 ⟨(cgI (by first | rfl | (dsimp only; omega))), rfl, (cgI (by dsimp only; omega)), rfl, trivial⟩) ⟨(cgA (by first | rfl | exact set_valC)), rfl, (ok_vals _), trivial⟩, by have := dg.lt; dsimp only; omega⟩
    have h8 : q x = true := by simpa using h17
    refine rn3 ?_
    refine zP (q_addi rfl rfl rfl (by have := dg.le; omega)) ?_
    refine zS ?_; refine aops_nil ?_
    exact ⟨⟨(i, j + 1, g'), dg.drop hx h8⟩, weak_scrub' rfl (zz2 ⟨(cgI (by first | rfl | (dsimp only; omega))), rfl, (cgI (by dsimp only; omega)), rfl, trivial⟩) ⟨(cgA (by first | rfl | exact set_valC)), rfl, (ok_vals _), trivial⟩, by have := dg.lt; dsimp only; omega⟩
   ·
    have gej : j = l.length := by have := of_decide_eq_false h11; have := dg.le; omega
    subst gej
    refine rn5 ?_
    refine s_clearT hN rfl (k := 4) (zs := [.int .i64 0, .slice none 0 0, .slice none 0 0, .slice none 0 0]) rfl (valL Val.zero) rfl zV_ok rfl rfl rfl rfl rfl (by rw [List.length_map, dg.len]) val_one i rfl (by have := dg.lt; omega) rfl rfl rfl rfl rfl ?_
    
    refine rn2 ?_
    refine awp_weak (weak_frow 0 idB rfl (es := (g'.take i ++ List.replicate (l.length - i) Val.zero).map valC) (by exact cgA zV_eq) (by simp; have := dg.lt; have := dg.len; omega) (okE_vals _) (fzs_vals _) rfl) ?_
    refine rn3 ?_
    refine zP (q_toE rfl rfl rfl i rfl (by simp; have := dg.lt; have := dg.len; omega) val_one) ?_
    refine zT ?_; refine awp_ret ?_
    change (resX _ _).ntt = _ ∧ _
    refine ret_x rfl ?_ rfl rfl rfl trivial
    show AV.sl _ none = AV.sl _ none
    rw [← List.map_take, List.take_append_of_le_length (by simp; have := dg.lt; have := dg.len; omega), List.take_take, Nat.min_self, dg.kept, List.take_of_length_le (Nat.le_refl _)]
end Go.Proofs.YtaecccdkjmipeaaGreat
