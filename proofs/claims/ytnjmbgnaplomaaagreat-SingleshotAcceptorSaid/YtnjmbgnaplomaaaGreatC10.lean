/-
  Contracts of the reference: bounds of maps.
  Contracts of the reference: bounds, Join, Meet.
-/
import Derived.Test.YtnjmbgnaplomaaaGreatC9
import Derived.Test.YtnjmbgnaplomaaaGreatB23
namespace Go.Proofs.YtnjmbgnaplomaaaGreat
open Go.RowKit
theorem rUnion2_fc (a b : List Nm) (ha : sortedB a = true) (hb : sortedB b = true) (hl : a.length + b.length ≤ 1000000) : FC Tryz.prog 85 [svs a, svs b] (svs (uni a b)) := uni_of ha hb ▸ rUnion_fc a b hl
theorem rInter2_fc (a b : List Nm) (ha : sortedB a = true) (hb : sortedB b = true) (hl : a.length ≤ 1000000) : FC Tryz.prog 84 [svs a, svs b] (svs (itr a b)) := itr_of ha hb ▸ rInter_fc a b hl
theorem rOf2_fc (a : List Nm) (ha : sortedB a = true) (hl : a.length ≤ 1000000) : FC Tryz.prog 87 [svs a] (svs a) := by
 have h := rOf_fc a hl
 rwa [← ofN_one (sorted_pw ha) (fun _ => Iff.rfl)] at h
theorem key_yes {v : Val} {s : Nm} (hl : v.nm.length = v.ps.length) (h : decide (indexN s v.nm 0 ≥ 0) = true) : ∃ (j : Nat) (y : Val), indexN s v.nm 0 = (j : Int) ∧ v.ps[j]? = some y ∧ partOf v s = some y := by
 rcases indexN_lt s v.nm 0 with h1 | ⟨j, -, h2, h3⟩
 ·rw [h1] at h; simp at h
 obtain ⟨y, hy⟩ := get_lt (show j < v.ps.length by omega)
 exact ⟨j, y, h3, hy, partOf_some h3 hy⟩
theorem key_no {v : Val} {s : Nm} (h : decide (indexN s v.nm 0 ≥ 0) = false) : partOf v s = none := partOf_none (by have := of_decide_eq_false h; omega)
theorem key_other {a b : Val} {s : Nm} (la : a.nm.length = a.ps.length) (sa : sortedB a.nm = true) (lb : b.nm.length = b.ps.length) (sb : sortedB b.nm = true) (h : s ∈ uni a.nm b.nm) (hn : partOf a s = none) : ∃ (j : Nat) (y : Val), indexN s b.nm 0 = (j : Int) ∧ b.ps[j]? = some y ∧ partOf b s = some y := by
 rcases (uni_mem sa sb).1 h with h | h
 ·obtain ⟨x, hx, -⟩ := partOf_in la sa h
  rw [hn] at hx; cases hx
 obtain ⟨k, hk⟩ := List.mem_iff_getElem?.1 h
 have hi := indexN_at b.nm 0 k (nodup_of sb) hk
 refine key_yes lb ?_
 rw [hi]
 exact decide_eq_true (by omega)
section
variable {up : Bool} {q : Lat} {a b : Val} {s : Nm} {x y : Val}
theorem bf_bot (h1 : partOf a s = some x) (h2 : partOf b s = some y) (h : eqV (bdV up q x y) (bottomV q) = true) : bdF up q a b s = none := by unfold bdF; rw [h1, h2]; simp only; rw [if_pos h]
theorem bf_two (h1 : partOf a s = some x) (h2 : partOf b s = some y) (h : eqV (bdV up q x y) (bottomV q) = false) : bdF up q a b s = some (bdV up q x y) := by unfold bdF; rw [h1, h2]; simp only; rw [if_neg (by rw [h]; decide)]
theorem bf_dn (h : partOf a s = none ∨ partOf b s = none) : bdF false q a b s = none := by
 unfold bdF
 rcases h with h | h
 ·rw [h]; cases partOf b s <;> rfl
 rw [h]; cases partOf a s <;> rfl
theorem bf_a (h1 : partOf a s = some x) (h2 : partOf b s = none) : bdF true q a b s = some x := by unfold bdF; rw [h1, h2]; rfl
theorem bf_b (h1 : partOf a s = none) (h2 : partOf b s = some y) : bdF true q a b s = some y := by unfold bdF; rw [h1, h2]; rfl
end
section
variable {f : Nm → Option Val} {u : List Nm} {k : Nat} {s : Nm} {v : Val}
theorem nm_some (hx : u[k]? = some s) (h : f s = some v) : (u.take (k + 1)).filter (fun s => (f s).isSome) = (u.take k).filter (fun s => (f s).isSome) ++ [s] := fl_yes hx (by rw [h]; rfl)
theorem nm_none (hx : u[k]? = some s) (h : f s = none) : (u.take (k + 1)).filter (fun s => (f s).isSome) = (u.take k).filter (fun s => (f s).isSome) := fl_no hx (by rw [h]; rfl)
theorem fm_some (hx : u[k]? = some s) (h : f s = some v) : (u.take (k + 1)).filterMap f = (u.take k).filterMap f ++ [v] := by rw [fm_step hx, h]; rfl
theorem fm_none (hx : u[k]? = some s) (h : f s = none) : (u.take (k + 1)).filterMap f = (u.take k).filterMap f := by rw [fm_step hx, h]; simp
end
def mapsR (up : Bool) (q : Lat) (a b : Val) : Val := .mk 0 ((uni a.nm b.nm).filter fun s => (bdF up q a b s).isSome) ((uni a.nm b.nm).filterMap (bdF up q a b)) []
set_option maxRecDepth 100000 in
set_option maxHeartbeats 1000000 in
theorem rIsBottom_fc (l : Lat) (v : Val) (hc : checkX l = 0) : FC Tryz.prog 115 [.agg (latL l), .agg (valL v)] (bl (eqV v (bottomV l))) := by
 refine fc_of_awp [4] Tryz.func115 rfl rfl 14 Tryz.ntmps115 (Nat.le_of_ble_eq_true rfl) ?_
 intro E hN
 refine zG ?_; refine zX ?_; refine zX ?_; refine zT ?_; refine awp_seq ?_; refine awp_draw 9 (by kernel_rfl) (by kernel_rfl) ?_; refine zl ?_
 refine zp (q_call (r9Check_fc l) rfl rfl rfl) ?_; refine zp (q_bin rfl rfl rfl) ?_; refine zm ?_
 refine zd 8 ?_ ?_ <;> intro h7
 ·
  refine vP (w11 h7) (q_load rfl rfl rfl rfl rfl) ?_; refine vP (w11 h7) (q_load rfl rfl rfl rfl rfl) ?_
  refine vP (w11 h7) (q_call (rleast_fc l (check_ok hc)) rfl rfl rfl) ?_; refine vP (w11 h7) (q_call (rEqual_fc _ _) rfl rfl rfl) ?_
  refine zp (q_pick1 rfl rfl h7 rfl) ?_; change AOps _ _ _ _ _ _; refine zS ?_; refine zQ ?_
  exact retB (by simp_all)
 iterate 4 refine vK (w01 h7) ?_
 refine zp (q_pick0 rfl rfl h7 rfl) ?_; change AOps _ _ _ _ _ _; refine zS ?_; refine zQ ?_
 exact retB (by simp_all)
set_option maxRecDepth 100000 in
set_option maxHeartbeats 1000000 in
theorem rmaps_fc (up : Bool) (q : Lat) (hq : checkX q = 0) (a b : Val) (la : a.nm.length = a.ps.length) (sa : sortedB a.nm = true) (lb : b.nm.length = b.ps.length) (sb : sortedB b.nm = true) (hl : a.nm.length + b.nm.length ≤ 1000000) (hB : ∀ x ∈ a.ps, ∀ y ∈ b.ps, FC Tryz.prog 59 [.agg (latL q), .agg (valL x), .agg (valL y), bl up] (.agg (valL (bdV up q x y)))) : FC Tryz.prog 81 [.agg (latL q), .agg (valL a), .agg (valL b), bl up] (.agg (valL (mapsR up q a b))) := by
 have hul := uni_len sa sb
 refine fc_of_awpR [.c 8 41 4 true] ⟨⟨inferInstance, rfl⟩, trivial⟩ Tryz.func81 rfl rfl 92 Tryz.ntmps81 (Nat.le_of_ble_eq_true rfl) ?_
 intro E hN
 refine zG ?_; refine zX ?_; refine zX ?_; refine zX ?_; refine zO ?_; refine zA ?_; refine zF ?_; refine zL ?_; refine zF ?_; refine zL ?_
 refine zP (q_call (rUnion2_fc _ _ sa sb hl) rfl rfl rfl) ?_; refine zS ?_; refine zA ?_; refine zP (q_build rfl rfl rfl) ?_; refine zO ?_
 refine zC ?_; refine zN ?_; refine zH ?_; refine zT ?_; refine awp_block ?_; refine awp_weak (weak_tokc rfl 4 1 9 1 rfl rfl rfl) ?_
 refine awp_weak (weak_tokc rfl 4 2 41 4 rfl rfl rfl) ?_
 refine awp_loop (fun x : {k : Nat // k ≤ ((uni a.nm b.nm)).length ∧ True} => ⟨[(3, bl up), (4, .ptr 0 0), (5, .ptr 1 0), (6, .ptr 2 0), (8, .ptr 3 0), (9, svs (uni a.nm b.nm)), (10, .ptr 4 0), (11, i64 (x.1 : Nat))], [(0, .var 26 (latL q)), (1, .var 41 (valL a)), (2, .var 41 (valL b)), (3, .var 41 [i64 0, .p (.slice none 0 0), .p (.slice none 0 0), .p (.slice none 0 0)]), (4, .var 41 [i64 0, .sl ((((uni a.nm b.nm).take x.1).filter fun s => (bdF up q a b s).isSome).map sv1) (some 5), .sl ((((uni a.nm b.nm).take x.1).filterMap (bdF up q a b)).map valC) (some 6), .p (.slice none 0 0)]), (5, .tok 9 1 (((uni a.nm b.nm).take x.1).filter fun s => (bdF up q a b s).isSome).length), (6, .tok 41 4 (((uni a.nm b.nm).take x.1).filterMap (bdF up q a b)).length)], 7⟩) (fun x => ((uni a.nm b.nm)).length - x.1) (⟨0, Nat.zero_le _, by simp⟩) ?_ ?_
 ·
  exact weak_scrub' rfl (zz4 (zz4 trivial)) ⟨rfl, rfl, rfl, rfl, rfl, rfl, rfl, rfl, rfl, rfl, rfl, rfl, rfl, rfl, rfl, rfl, rfl, rfl, rfl, rfl, rfl, trivial⟩
 rintro ⟨k, hk, hg⟩
 dsimp only
 refine zH ?_; refine zM ?_; refine zM ?_; refine zE ?_; refine zB ?_; refine zN ?_
 refine zq ?_ ?_ <;> intro h25
 ·
  have hlt : k < (uni a.nm b.nm).length := by simpa using h25
  obtain ⟨s, hx⟩ := get_lt hlt
  have hsm := List.mem_of_getElem? hx
  have hfl1 : (((uni a.nm b.nm).take k).filter fun s => (bdF up q a b s).isSome).length ≤ k := fl_len
  have hfl2 : (((uni a.nm b.nm).take k).filterMap (bdF up q a b)).length ≤ k := Nat.le_trans (List.length_filterMap_le _ _) (by simp; omega)
  refine zW ?_; refine awp_seq ?_; refine awp_block ?_; refine awp_seq ?_; refine awp_draw 13 (by kernel_rfl) (by kernel_rfl) ?_; refine zl ?_
  refine zm ?_; refine zm ?_; refine zp (q_elem rfl rfl rfl k rfl _ (map_get hx) rfl) ?_; refine zl ?_; refine zp (q_call (rkey_fc a s) rfl rfl rfl) ?_
  refine zl ?_; refine zm ?_; refine zm ?_; refine zp (q_elem rfl rfl rfl k rfl _ (map_get hx) rfl) ?_; refine zl ?_
  refine zp (q_call (rkey_fc b s) rfl rfl rfl) ?_; refine zp (q_assign rfl rfl) ?_; change AOps _ _ _ _ _ _; refine zS ?_; refine zA ?_
  refine zP (q_build rfl rfl rfl) ?_; refine zO ?_; refine zC ?_; refine zN ?_; refine zH ?_; refine zM ?_; refine zB ?_; refine zM ?_
  refine zc 42 ?_ ?_ <;> intro h37
  ·
   obtain ⟨i, x1, hi, hx1, hpa⟩ := key_yes la h37
   refine uM (w11 h37) ?_; refine uP (w11 h37) (q_bin rfl rfl rfl) ?_; refine zh1 h37 ?_; refine zN ?_
   refine zq ?_ ?_ <;> intro h38
   ·
    obtain ⟨j, y, hj, hy, hpb⟩ := key_yes lb h38
    refine awp_seq ?_; refine awp_draw 13 (by kernel_rfl) (by kernel_rfl) ?_; refine zl ?_; refine zf ?_; refine zl ?_; refine zm ?_
    refine zp (q_elem rfl rfl rfl i hi _ (val_get hx1) rfl) ?_; refine zl ?_; refine zf ?_; refine zl ?_; refine zm ?_
    refine zp (q_elem rfl rfl rfl j hj _ (val_get hy) rfl) ?_; refine zl ?_; refine zm ?_
    refine zp (q_call (hB x1 (List.mem_of_getElem? hx1) y (List.mem_of_getElem? hy)) rfl rfl rfl) ?_; change AOps _ _ _ _ _ _; refine zC ?_
    refine zA ?_; refine zL ?_; refine zL ?_; refine zP (q_call (rIsBottom_fc q _ hq) rfl rfl rfl) ?_; refine zN ?_
    refine zq ?_ ?_ <;> intro h52
    ·
     have hF := bf_bot hpa hpb h52
     refine awp_exit ?_; change AWP _ _ _ _  _; refine awp_region ?_; refine zM ?_; refine zP (q_addi rfl rfl rfl (by omega)) ?_; refine zS ?_
     refine aops_nil ?_
     exact ⟨⟨k + 1, hlt, trivial⟩, weak_scrub' rfl (zz4 (zz3 ⟨(cgI (by dsimp only; omega)), rfl, trivial⟩)) ⟨rfl, rfl, rfl, rfl, rfl, rfl, rfl, rfl, rfl, rfl, rfl, rfl, (cgM (by first | (rw [nm_some hx hF]; simp [chunk_1, sv1]; done) | rw [nm_none hx hF]) (by first | (rw [fm_some hx hF]; simp [chunk_val]; done) | rw [fm_none hx hF])), rfl, rfl, (cgT (by first | (rw [nm_some hx hF]; simp [chunk_1]; done) | rw [nm_none hx hF])), rfl, rfl, (cgT (by first | (rw [fm_some hx hF]; simp [chunk_4]; done) | rw [fm_none hx hF])), rfl, rfl, trivial⟩, by dsimp only; omega⟩
    have hF := bf_two hpa hpb h52
    refine zW ?_; refine awp_seq ?_; refine awp_draw 7 (by kernel_rfl) (by kernel_rfl) ?_; refine zf ?_; refine zl ?_; refine zm ?_; refine zm ?_
    refine zp (q_elem rfl rfl rfl _ rfl _ (by first | assumption | exact map_get (by assumption)) (by rfl)) ?_; refine zl ?_
    refine zp (q_bslice rfl rfl rfl rfl (by exact rfl) (by decide) (by decide)) ?_; change AOps _ _ _ _ _ _
    refine s_append_tok hN rfl rfl rfl (by simp) rfl rfl (all_okE okE_nm _) rfl (by simp [chunk_1]; omega) rfl rfl rfl rfl ?_
    refine zF ?_; refine zC ?_; refine zN ?_; refine awp_region ?_; refine zF ?_; refine zL ?_; refine zL ?_
    refine zP (q_bslice rfl rfl rfl rfl (by exact rfl) (by decide) (by decide)) ?_
    refine s_append_tok hN rfl rfl rfl (by simp) rfl rfl (all_okE okE_val _) rfl (by simp [chunk_4]; omega) rfl rfl rfl rfl ?_
    refine zF ?_; refine zC ?_; refine aops_nil ?_; change AWP _ _ _ _  _; refine awp_region ?_; refine zM ?_
    refine zP (q_addi rfl rfl rfl (by omega)) ?_; refine zS ?_; refine aops_nil ?_
    exact ⟨⟨k + 1, hlt, trivial⟩, weak_scrub' rfl (zz4 (zz3 ⟨(cgI (by dsimp only; omega)), rfl, trivial⟩)) ⟨rfl, rfl, rfl, rfl, rfl, rfl, rfl, rfl, rfl, rfl, rfl, rfl, (cgM (by first | (rw [nm_some hx hF]; simp [chunk_1, sv1]; done) | rw [nm_none hx hF]) (by first | (rw [fm_some hx hF]; simp [chunk_val]; done) | rw [fm_none hx hF])), rfl, rfl, (cgT (by first | (rw [nm_some hx hF]; simp [chunk_1]; done) | rw [nm_none hx hF])), rfl, rfl, (cgT (by first | (rw [fm_some hx hF]; simp [chunk_4]; done) | rw [fm_none hx hF])), rfl, rfl, trivial⟩, by dsimp only; omega⟩
   have hpb := key_no h38
   refine zG ?_; refine zM ?_; refine zP (q_not rfl rfl) ?_; refine zN ?_
   refine zq ?_ ?_ <;> intro h4
   ·
    have hup : up = false := by simpa using h4
    have hF : bdF up q a b s = none := by
     rw [hup]
     first | exact bf_dn (.inr hpb) | exact bf_dn (.inl hpa0)
    refine awp_exit ?_; change AWP _ _ _ _  _; refine awp_region ?_; refine zM ?_; refine zP (q_addi rfl rfl rfl (by omega)) ?_; refine zS ?_
    refine aops_nil ?_
    exact ⟨⟨k + 1, hlt, trivial⟩, weak_scrub' rfl (zz4 (zz3 ⟨(cgI (by dsimp only; omega)), rfl, trivial⟩)) ⟨rfl, rfl, rfl, rfl, rfl, rfl, rfl, rfl, rfl, rfl, rfl, rfl, (cgM (by first | (rw [nm_some hx hF]; simp [chunk_1, sv1]; done) | rw [nm_none hx hF]) (by first | (rw [fm_some hx hF]; simp [chunk_val]; done) | rw [fm_none hx hF])), rfl, rfl, (cgT (by first | (rw [nm_some hx hF]; simp [chunk_1]; done) | rw [nm_none hx hF])), rfl, rfl, (cgT (by first | (rw [fm_some hx hF]; simp [chunk_4]; done) | rw [fm_none hx hF])), rfl, rfl, trivial⟩, by dsimp only; omega⟩
   have hup : up = true := by simpa using h4
   refine zG ?_; refine zM ?_; refine zB ?_; refine zN ?_
   refine zq ?_ ?_ <;> intro h71
   ·
    obtain ⟨i, x1, hi, hx1, hpa⟩ := key_yes la h71
    have hF : bdF up q a b s = some x1 := by
     rw [hup]
     first | exact bf_a hpa hpb | (rw [hpa] at hpa0; cases hpa0)
    refine awp_region ?_; refine zF ?_; refine zL ?_; refine zM ?_; refine zP (q_elem rfl rfl rfl i hi _ (val_get hx1) rfl) ?_; refine zL ?_
    refine zC ?_; refine zN ?_; refine awp_seq ?_; refine awp_draw 7 (by kernel_rfl) (by kernel_rfl) ?_; refine zf ?_; refine zl ?_; refine zm ?_
    refine zm ?_; refine zp (q_elem rfl rfl rfl _ rfl _ (by first | assumption | exact map_get (by assumption)) (by rfl)) ?_; refine zl ?_
    refine zp (q_bslice rfl rfl rfl rfl (by exact rfl) (by decide) (by decide)) ?_; change AOps _ _ _ _ _ _
    refine s_append_tok hN rfl rfl rfl (by simp) rfl rfl (all_okE okE_nm _) rfl (by simp [chunk_1]; omega) rfl rfl rfl rfl ?_
    refine zF ?_; refine zC ?_; refine zN ?_; refine awp_region ?_; refine zF ?_; refine zL ?_; refine zL ?_
    refine zP (q_bslice rfl rfl rfl rfl (by exact rfl) (by decide) (by decide)) ?_
    refine s_append_tok hN rfl rfl rfl (by simp) rfl rfl (all_okE okE_val _) rfl (by simp [chunk_4]; omega) rfl rfl rfl rfl ?_
    refine zF ?_; refine zC ?_; refine aops_nil ?_; change AWP _ _ _ _  _; refine awp_region ?_; refine zM ?_
    refine zP (q_addi rfl rfl rfl (by omega)) ?_; refine zS ?_; refine aops_nil ?_
    exact ⟨⟨k + 1, hlt, trivial⟩, weak_scrub' rfl (zz4 (zz3 ⟨(cgI (by dsimp only; omega)), rfl, trivial⟩)) ⟨rfl, rfl, rfl, rfl, rfl, rfl, rfl, rfl, rfl, rfl, rfl, rfl, (cgM (by first | (rw [nm_some hx hF]; simp [chunk_1, sv1]; done) | rw [nm_none hx hF]) (by first | (rw [fm_some hx hF]; simp [chunk_val]; done) | rw [fm_none hx hF])), rfl, rfl, (cgT (by first | (rw [nm_some hx hF]; simp [chunk_1]; done) | rw [nm_none hx hF])), rfl, rfl, (cgT (by first | (rw [fm_some hx hF]; simp [chunk_4]; done) | rw [fm_none hx hF])), rfl, rfl, trivial⟩, by dsimp only; omega⟩
   have hpa1 := key_no h71
   obtain ⟨j, y, hj, hy, hpb⟩ := key_other la sa lb sb hsm hpa1
   have hF : bdF up q a b s = some y := by rw [hup]; exact bf_b hpa1 hpb
   refine awp_region ?_; refine zF ?_; refine zL ?_; refine zM ?_; refine zP (q_elem rfl rfl rfl j hj _ (val_get hy) rfl) ?_; refine zL ?_
   refine zC ?_; refine zN ?_; refine awp_seq ?_; refine awp_draw 7 (by kernel_rfl) (by kernel_rfl) ?_; refine zf ?_; refine zl ?_; refine zm ?_
   refine zm ?_; refine zp (q_elem rfl rfl rfl _ rfl _ (by first | assumption | exact map_get (by assumption)) (by rfl)) ?_; refine zl ?_
   refine zp (q_bslice rfl rfl rfl rfl (by exact rfl) (by decide) (by decide)) ?_; change AOps _ _ _ _ _ _
   refine s_append_tok hN rfl rfl rfl (by simp) rfl rfl (all_okE okE_nm _) rfl (by simp [chunk_1]; omega) rfl rfl rfl rfl ?_
   refine zF ?_; refine zC ?_; refine zN ?_; refine awp_region ?_; refine zF ?_; refine zL ?_; refine zL ?_
   refine zP (q_bslice rfl rfl rfl rfl (by exact rfl) (by decide) (by decide)) ?_
   refine s_append_tok hN rfl rfl rfl (by simp) rfl rfl (all_okE okE_val _) rfl (by simp [chunk_4]; omega) rfl rfl rfl rfl ?_
   refine zF ?_; refine zC ?_; refine aops_nil ?_; change AWP _ _ _ _  _; refine awp_region ?_; refine zM ?_
   refine zP (q_addi rfl rfl rfl (by omega)) ?_; refine zS ?_; refine aops_nil ?_
   exact ⟨⟨k + 1, hlt, trivial⟩, weak_scrub' rfl (zz4 (zz3 ⟨(cgI (by dsimp only; omega)), rfl, trivial⟩)) ⟨rfl, rfl, rfl, rfl, rfl, rfl, rfl, rfl, rfl, rfl, rfl, rfl, (cgM (by first | (rw [nm_some hx hF]; simp [chunk_1, sv1]; done) | rw [nm_none hx hF]) (by first | (rw [fm_some hx hF]; simp [chunk_val]; done) | rw [fm_none hx hF])), rfl, rfl, (cgT (by first | (rw [nm_some hx hF]; simp [chunk_1]; done) | rw [nm_none hx hF])), rfl, rfl, (cgT (by first | (rw [fm_some hx hF]; simp [chunk_4]; done) | rw [fm_none hx hF])), rfl, rfl, trivial⟩, by dsimp only; omega⟩
  have hpa0 := key_no h37
  iterate 2 refine uK (w01 h37) ?_
  refine zh0 h37 ?_; refine zN ?_; refine c_false rfl rfl ?_; refine zG ?_; refine zM ?_; refine zP (q_not rfl rfl) ?_; refine zN ?_
  refine zq ?_ ?_ <;> intro h4
  ·
   have hup : up = false := by simpa using h4
   have hF : bdF up q a b s = none := by
    rw [hup]
    first | exact bf_dn (.inr hpb) | exact bf_dn (.inl hpa0)
   refine awp_exit ?_; change AWP _ _ _ _  _; refine awp_region ?_; refine zM ?_; refine zP (q_addi rfl rfl rfl (by omega)) ?_; refine zS ?_
   refine aops_nil ?_
   exact ⟨⟨k + 1, hlt, trivial⟩, weak_scrub' rfl (zz4 (zz3 ⟨(cgI (by dsimp only; omega)), rfl, trivial⟩)) ⟨rfl, rfl, rfl, rfl, rfl, rfl, rfl, rfl, rfl, rfl, rfl, rfl, (cgM (by first | (rw [nm_some hx hF]; simp [chunk_1, sv1]; done) | rw [nm_none hx hF]) (by first | (rw [fm_some hx hF]; simp [chunk_val]; done) | rw [fm_none hx hF])), rfl, rfl, (cgT (by first | (rw [nm_some hx hF]; simp [chunk_1]; done) | rw [nm_none hx hF])), rfl, rfl, (cgT (by first | (rw [fm_some hx hF]; simp [chunk_4]; done) | rw [fm_none hx hF])), rfl, rfl, trivial⟩, by dsimp only; omega⟩
  have hup : up = true := by simpa using h4
  refine zG ?_; refine zM ?_; refine zB ?_; refine zN ?_
  refine zq ?_ ?_ <;> intro h115
  ·
   obtain ⟨i, x1, hi, hx1, hpa⟩ := key_yes la h115
   have hF : bdF up q a b s = some x1 := by
    rw [hup]
    first | exact bf_a hpa hpb | (rw [hpa] at hpa0; cases hpa0)
   refine awp_region ?_; refine zF ?_; refine zL ?_; refine zM ?_; refine zP (q_elem rfl rfl rfl i hi _ (val_get hx1) rfl) ?_; refine zL ?_
   refine zC ?_; refine zN ?_; refine awp_seq ?_; refine awp_draw 7 (by kernel_rfl) (by kernel_rfl) ?_; refine zf ?_; refine zl ?_; refine zm ?_
   refine zm ?_; refine zp (q_elem rfl rfl rfl _ rfl _ (by first | assumption | exact map_get (by assumption)) (by rfl)) ?_; refine zl ?_
   refine zp (q_bslice rfl rfl rfl rfl (by exact rfl) (by decide) (by decide)) ?_; change AOps _ _ _ _ _ _
   refine s_append_tok hN rfl rfl rfl (by simp) rfl rfl (all_okE okE_nm _) rfl (by simp [chunk_1]; omega) rfl rfl rfl rfl ?_
   refine zF ?_; refine zC ?_; refine zN ?_; refine awp_region ?_; refine zF ?_; refine zL ?_; refine zL ?_
   refine zP (q_bslice rfl rfl rfl rfl (by exact rfl) (by decide) (by decide)) ?_
   refine s_append_tok hN rfl rfl rfl (by simp) rfl rfl (all_okE okE_val _) rfl (by simp [chunk_4]; omega) rfl rfl rfl rfl ?_
   refine zF ?_; refine zC ?_; refine aops_nil ?_; change AWP _ _ _ _  _; refine awp_region ?_; refine zM ?_
   refine zP (q_addi rfl rfl rfl (by omega)) ?_; refine zS ?_; refine aops_nil ?_
   exact ⟨⟨k + 1, hlt, trivial⟩, weak_scrub' rfl (zz4 (zz3 ⟨(cgI (by dsimp only; omega)), rfl, trivial⟩)) ⟨rfl, rfl, rfl, rfl, rfl, rfl, rfl, rfl, rfl, rfl, rfl, rfl, (cgM (by first | (rw [nm_some hx hF]; simp [chunk_1, sv1]; done) | rw [nm_none hx hF]) (by first | (rw [fm_some hx hF]; simp [chunk_val]; done) | rw [fm_none hx hF])), rfl, rfl, (cgT (by first | (rw [nm_some hx hF]; simp [chunk_1]; done) | rw [nm_none hx hF])), rfl, rfl, (cgT (by first | (rw [fm_some hx hF]; simp [chunk_4]; done) | rw [fm_none hx hF])), rfl, rfl, trivial⟩, by dsimp only; omega⟩
  have hpa1 := key_no h115
  obtain ⟨j, y, hj, hy, hpb⟩ := key_other la sa lb sb hsm hpa1
  have hF : bdF up q a b s = some y := by rw [hup]; exact bf_b hpa1 hpb
  refine awp_region ?_; refine zF ?_; refine zL ?_; refine zM ?_; refine zP (q_elem rfl rfl rfl j hj _ (val_get hy) rfl) ?_; refine zL ?_; refine zC ?_
  refine zN ?_; refine awp_seq ?_; refine awp_draw 7 (by kernel_rfl) (by kernel_rfl) ?_; refine zf ?_; refine zl ?_; refine zm ?_; refine zm ?_
  refine zp (q_elem rfl rfl rfl _ rfl _ (by first | assumption | exact map_get (by assumption)) (by rfl)) ?_; refine zl ?_
  refine zp (q_bslice rfl rfl rfl rfl (by exact rfl) (by decide) (by decide)) ?_; change AOps _ _ _ _ _ _
  refine s_append_tok hN rfl rfl rfl (by simp) rfl rfl (all_okE okE_nm _) rfl (by simp [chunk_1]; omega) rfl rfl rfl rfl ?_
  refine zF ?_; refine zC ?_; refine zN ?_; refine awp_region ?_; refine zF ?_; refine zL ?_; refine zL ?_
  refine zP (q_bslice rfl rfl rfl rfl (by exact rfl) (by decide) (by decide)) ?_
  refine s_append_tok hN rfl rfl rfl (by simp) rfl rfl (all_okE okE_val _) rfl (by simp [chunk_4]; omega) rfl rfl rfl rfl ?_
  refine zF ?_; refine zC ?_; refine aops_nil ?_; change AWP _ _ _ _  _; refine awp_region ?_; refine zM ?_
  refine zP (q_addi rfl rfl rfl (by omega)) ?_; refine zS ?_; refine aops_nil ?_
  exact ⟨⟨k + 1, hlt, trivial⟩, weak_scrub' rfl (zz4 (zz3 ⟨(cgI (by dsimp only; omega)), rfl, trivial⟩)) ⟨rfl, rfl, rfl, rfl, rfl, rfl, rfl, rfl, rfl, rfl, rfl, rfl, (cgM (by first | (rw [nm_some hx hF]; simp [chunk_1, sv1]; done) | rw [nm_none hx hF]) (by first | (rw [fm_some hx hF]; simp [chunk_val]; done) | rw [fm_none hx hF])), rfl, rfl, (cgT (by first | (rw [nm_some hx hF]; simp [chunk_1]; done) | rw [nm_none hx hF])), rfl, rfl, (cgT (by first | (rw [fm_some hx hF]; simp [chunk_4]; done) | rw [fm_none hx hF])), rfl, rfl, trivial⟩, by dsimp only; omega⟩
 have hge : (uni a.nm b.nm).length ≤ k := by simpa using h25
 rw [List.take_of_length_le hge]
 refine awp_exit ?_; change AWP _ _ _ _  _; refine zG ?_; refine zL ?_; refine zC ?_; refine zN ?_; refine awp_ret ?_
 change (resY _ _).bind AV.fzt = some _
 refine ret_r rfl ?_
 rfl
end Go.Proofs.YtnjmbgnaplomaaaGreat

namespace Go.Proofs.YtnjmbgnaplomaaaGreat
open Go.RowKit
theorem regs_part {up : Bool} {l q : Lat} (h : up = false → regsB l = false) (hq : q ∈ l.ps) : up = false → regsB q = false := fun e => by
 have h1 := h e
 rw [regsB_eq, Bool.or_eq_false_iff, List.any_eq_false] at h1
 simpa using h1.2 q hq
theorem regs_up {up : Bool} {l : Lat} (h : up = false → regsB l = false) (hk : l.k = 9) : up = true := by
 cases up
 ·have h1 := h rfl
  rw [regsB_eq, hk] at h1
  cases h1
 rfl
theorem bd_dn_set {l : Lat} {a b : Val} (hk : l.k = 4 ∨ l.k = 10) : bdV false l a b = .mk 0 (itr a.nm b.nm) [] [] := by
 rcases hk with hk | hk
 ·exact bd_set false hk
 exact bd_closed false hk
def joinR (l : Lat) (a b : Val) : Val × Int := if checkJ l [a, b] = 0 then (joinV l a b, 0) else (Val.zero, checkJ l [a, b])
set_option maxRecDepth 100000 in
set_option maxHeartbeats 1000000 in
theorem bound_s (up : Bool) {n m : Nat} (hnm : n + m ≤ 1000000) (l : Lat) (hO : OkL l) (hC : ChL l) (hR : up = false → regsB l = false) (ih : ∀ q ∈ l.ps, ∀ x y, elemB x q = true → elemB y q = true → SmV n x → SmV m y → FC Tryz.prog 59 [.agg (latL q), .agg (valL x), .agg (valL y), bl up] (.agg (valL (bdV up q x y)))) (a b : Val) (ha : elemB a l = true) (hb : elemB b l = true) (sa : SmV n a) (sb : SmV m b) : FC Tryz.prog 59 [.agg (latL l), .agg (valL a), .agg (valL b), bl up] (.agg (valL (bdV up l a b))) := by
 have na := sa.nm
 have nb := sb.nm
 have ea := sa.es
 have eb := sb.es
 have npl := hO.small
 refine fc_of_awpR [.c 8 41 4 true] ⟨⟨inferInstance, rfl⟩, trivial⟩ Tryz.func59 rfl rfl 158 Tryz.ntmps59 (Nat.le_of_ble_eq_true rfl) ?_
 intro E hN
 refine zG ?_; refine zX ?_; refine zX ?_; refine zX ?_; refine zO ?_; refine zN ?_; refine zH ?_; refine zF ?_; refine zL ?_; refine zN ?_
 refine awp_block ?_; refine zH ?_; refine zB ?_; refine zT ?_
 refine zq ?_ ?_ <;> intro h11
 ·
  refine zW ?_; refine c_true rfl h11 ?_; refine zG ?_; refine zL ?_; refine zL ?_; refine zM ?_; refine zP (q_call (rnumber_fc a b up) rfl rfl rfl) ?_
  refine zC ?_; refine zN ?_; refine awp_ret ?_
  change (resY _ _).bind AV.fzt = some _
  refine ret_r rfl ?_
  rw [bd_num up (by simp_all)]
 refine awp_region ?_; refine zB ?_; refine zT ?_
 refine zq ?_ ?_ <;> intro h16
 ·
  refine zG ?_; refine zL ?_; refine zL ?_; refine zM ?_; refine zP (q_call (rnumber_fc a b up) rfl rfl rfl) ?_; refine zC ?_; refine zN ?_
  refine awp_ret ?_
  change (resY _ _).bind AV.fzt = some _
  refine ret_r rfl ?_
  rw [bd_num up (by simp_all)]
 refine zG ?_; refine zB ?_; refine zT ?_
 refine zq ?_ ?_ <;> intro h21
 ·
  refine zG ?_; refine zL ?_; refine zL ?_; refine zM ?_; refine zP (q_not rfl rfl) ?_; refine zP (q_call (rnumber_fc a b (!up)) rfl rfl rfl) ?_
  refine zC ?_; refine zN ?_; refine awp_ret ?_
  change (resY _ _).bind AV.fzt = some _
  refine ret_r rfl ?_
  rw [bd_min up (by simp_all) ha hb]
 refine zG ?_; refine zB ?_; refine zT ?_
 refine zq ?_ ?_ <;> intro h26
 ·
  refine awp_seq ?_
  have hk5 : l.k = 5 := by simp_all
  obtain ⟨q, r, hps⟩ := shape_5 hO.shape hk5
  have hq0 : l.ps[0]? = some q := by rw [hps]; rfl
  have hqm : q ∈ l.ps := by rw [hps]; exact List.mem_cons_self
  obtain ⟨-, -, hla, hsa, -, hea⟩ := el_map ha hk5 hps
  obtain ⟨-, -, hlb, hsb, -, heb⟩ := el_map hb hk5 hps
  refine awp_draw 8 (by kernel_rfl) (by kernel_rfl) ?_; refine zf ?_; refine zl ?_; refine zp (q_elem rfl rfl rfl 0 rfl _ (lat_get hq0) rfl) ?_
  refine zl ?_; refine zl ?_; refine zl ?_; refine zm ?_
  refine zp (q_call (rmaps_fc up q (hC.part q hqm).ok a b hla hsa hlb hsb (by omega) (fun x hx y hy => ih q hqm x y (hea x hx).1 (heb y hy).1 (sa.part x hx) (sb.part y hy))) rfl rfl rfl) ?_
  change AOps _ _ _ _ _ _; refine zC ?_; refine zN ?_; refine awp_ret ?_
  change (resY _ _).bind AV.fzt = some _
  refine ret_r rfl ?_
  rw [bd_map up hO hC hk5 hps ha hb]; rfl
 refine zG ?_; refine zB ?_; refine zT ?_
 refine zq ?_ ?_ <;> intro h35
 ·
  refine zG ?_; refine zL ?_; refine zL ?_; refine zM ?_; refine zP (q_call (rflat_fc a b up) rfl rfl rfl) ?_; refine zC ?_; refine zN ?_
  refine awp_ret ?_
  change (resY _ _).bind AV.fzt = some _
  refine ret_r rfl ?_
  rw [bd_flat up (by simp_all) ha hb]
 refine zG ?_; refine zB ?_; refine zT ?_
 refine zq ?_ ?_ <;> intro h40
 ·
  refine awp_seq ?_
  have hk9 : l.k = 9 := by simp_all
  have hup := regs_up hR hk9
  have rga := (el_reg ha hk9).2.2.2
  have rgb := (el_reg hb hk9).2.2.2
  refine awp_region ?_; refine zF ?_; refine zL ?_; refine zF ?_; refine zL ?_
  refine zP (q_call (rentries_fc a.es b.es rga rgb (by omega)) rfl rfl rfl) ?_; refine zP (q_build rfl rfl rfl) ?_; refine zC ?_; refine zN ?_
  refine awp_ret ?_
  change (resY _ _).bind AV.fzt = some _
  refine ret_r rfl ?_
  rw [hup, bd_reg hk9]; rfl
 refine zG ?_; refine zB ?_; refine zT ?_
 refine zq ?_ ?_ <;> intro h48
 ·
  refine awp_seq ?_; refine awp_seq ?_
  have hk7 : l.k = 7 := by simp_all
  obtain ⟨q1, q2, hps⟩ := shape_72 hO.shape hk7
  obtain ⟨x1, x2, hpa, hx1, hx2⟩ := two_of ha hk7 hps
  obtain ⟨y1, y2, hpb, hy1, hy2⟩ := two_of hb hk7 hps
  have hq1' : l.ps[0]? = some q1 := by rw [hps]; rfl
  have hq2' : l.ps[1]? = some q2 := by rw [hps]; rfl
  have hx1' : a.ps[0]? = some x1 := by rw [hpa]; rfl
  have hx2' : a.ps[1]? = some x2 := by rw [hpa]; rfl
  have hy1' : b.ps[0]? = some y1 := by rw [hpb]; rfl
  have hy2' : b.ps[1]? = some y2 := by rw [hpb]; rfl
  refine awp_draw 8 (by kernel_rfl) (by kernel_rfl) ?_; refine zf ?_; refine zl ?_; refine zp (q_elem rfl rfl rfl 0 rfl _ (val_get hx1') rfl) ?_
  refine zl ?_; refine zf ?_; refine zl ?_; refine zp (q_elem rfl rfl rfl 0 rfl _ (val_get hy1') rfl) ?_; refine zl ?_; change AOps _ _ _ _ _ _
  refine zP (q_call (rEqual_fc _ _) rfl rfl rfl) ?_; refine zN ?_
  refine zq ?_ ?_ <;> intro h57
  ·
   have h14 := h57
   refine awp_seq ?_; refine awp_draw 20 (by kernel_rfl) (by kernel_rfl) ?_; refine zf ?_; refine zl ?_
   refine zp (q_elem rfl rfl rfl 0 rfl _ (val_get hx1') rfl) ?_; refine zl ?_; refine zf ?_; refine zl ?_
   refine zp (q_elem rfl rfl rfl 1 rfl _ (lat_get hq2') rfl) ?_; refine zl ?_; refine zf ?_; refine zl ?_
   refine zp (q_elem rfl rfl rfl 1 rfl _ (val_get hx2') rfl) ?_; refine zl ?_; refine zf ?_; refine zl ?_
   refine zp (q_elem rfl rfl rfl 1 rfl _ (val_get hy2') rfl) ?_; refine zl ?_; refine zm ?_
   refine zp (q_call (ih q2 (by rw [hps]; simp) x2 y2 hx2 hy2 (sa.part x2 (by rw [hpa]; simp)) (sb.part y2 (by rw [hpb]; simp))) rfl rfl rfl) ?_
   refine zp (q_bslice2 rfl rfl rfl rfl (by exact rfl) (by decide) (by decide) (vals_2 _ _)) ?_; refine zp (q_build rfl rfl rfl) ?_
   change AOps _ _ _ _ _ _; refine zC ?_; refine zN ?_; refine awp_ret ?_
   change (resY _ _).bind AV.fzt = some _
   refine ret_r rfl ?_
   rw [bd_lex up hO hk7 hps hpa hpb hx1 hy1, if_pos h14]; rfl
  have h14 := h57
  refine zW ?_; refine awp_seq ?_; refine awp_seq ?_; refine awp_draw 14 (by kernel_rfl) (by kernel_rfl) ?_; refine zf ?_; refine zl ?_
  refine zp (q_elem rfl rfl rfl 0 rfl _ (lat_get hq1') rfl) ?_; refine zl ?_; refine zf ?_; refine zl ?_
  refine zp (q_elem rfl rfl rfl 0 rfl _ (val_get hx1') rfl) ?_; refine zl ?_; refine zf ?_; refine zl ?_
  refine zp (q_elem rfl rfl rfl 0 rfl _ (val_get hy1') rfl) ?_; refine zl ?_
  refine zp (q_call (rleq_fc q1 (hO.part q1 (by rw [hps]; simp)) x1 y1 hx1 hy1 ((sa.part x1 (by rw [hpa]; simp)).up (by omega))) rfl rfl rfl) ?_
  refine zm ?_; change AOps _ _ _ _ _ _; refine zB ?_; refine zN ?_
  refine zq ?_ ?_ <;> intro h91
  ·
   have h16 := h91
   refine zG ?_; refine zL ?_; refine zC ?_; refine zN ?_; refine awp_ret ?_
   change (resY _ _).bind AV.fzt = some _
   refine ret_r rfl ?_
   rw [bd_lex up hO hk7 hps hpa hpb hx1 hy1, if_neg (by rw [h14]; decide), if_pos h16]
  have h16 := h91
  refine zW ?_; refine zG ?_; refine zL ?_; refine zC ?_; refine zN ?_; refine awp_ret ?_
  change (resY _ _).bind AV.fzt = some _
  refine ret_r rfl ?_
  rw [bd_lex up hO hk7 hps hpa hpb hx1 hy1, if_neg (by rw [h14]; decide), if_neg (by rw [h16]; decide)]
 refine zG ?_; refine zB ?_; refine zT ?_
 refine zq ?_ ?_ <;> intro h96
 ·
  refine awp_seq ?_
  have hk6 : l.k = 6 := by simp_all
  obtain ⟨-, -, -, hla, hza⟩ := el_prod ha (.inl hk6)
  obtain ⟨-, -, -, hlb, hzb⟩ := el_prod hb (.inl hk6)
  have hjl := bz_len (up := up) hla hlb
  refine awp_region ?_; refine zP (q_build rfl rfl rfl) ?_; refine zO ?_; refine zC ?_; refine zN ?_; refine zH ?_; refine zT ?_; refine awp_block ?_
  refine awp_weak (weak_tokc rfl 4 2 41 4 rfl rfl rfl) ?_
  refine awp_loop (fun x : {k : Nat // k ≤ (a.ps).length ∧ True} => ⟨[(3, bl up), (4, .ptr 0 0), (5, .ptr 1 0), (6, .ptr 2 0), (8, .ptr 3 0), (9, .ptr 4 0), (10, i64 (x.1 : Nat))], [(0, .var 26 (latL l)), (1, .var 41 (valL a)), (2, .var 41 (valL b)), (3, .var 41 [i64 0, .p (.slice none 0 0), .p (.slice none 0 0), .p (.slice none 0 0)]), (4, .var 41 [i64 0, .p (.slice none 0 0), .sl (((bdZ up l.ps a.ps b.ps).take x.1).map valC) (some 5), .p (.slice none 0 0)]), (5, .tok 41 4 (((bdZ up l.ps a.ps b.ps).take x.1).map valC).length)], 6⟩) (fun x => (a.ps).length - x.1) (⟨0, Nat.zero_le _, by simp⟩) ?_ ?_
  ·
   exact weak_scrub' rfl (zz4 (zz3 trivial)) ⟨rfl, rfl, rfl, rfl, rfl, rfl, rfl, rfl, rfl, rfl, rfl, rfl, rfl, rfl, rfl, rfl, rfl, rfl, trivial⟩
  rintro ⟨k, hk, hg⟩
  dsimp only
  refine zH ?_; refine zM ?_; refine zF ?_; refine zL ?_; refine zE ?_; refine zB ?_; refine zN ?_
  refine zq ?_ ?_ <;> intro h109
  ·
   have hlt : k < a.ps.length := by simpa using h109
   obtain ⟨q, hq⟩ := get_lt (show k < l.ps.length by omega)
   obtain ⟨x, hx⟩ := get_lt hlt
   obtain ⟨y, hy⟩ := get_lt (show k < b.ps.length by omega)
   refine zW ?_; refine awp_seq ?_; refine awp_block ?_; refine awp_draw 20 (by kernel_rfl) (by kernel_rfl) ?_; refine zf ?_; refine zl ?_
   refine zf ?_; refine zl ?_; refine zm ?_; refine zp (q_elem rfl rfl rfl k rfl _ (lat_get hq) rfl) ?_; refine zl ?_; refine zf ?_; refine zl ?_
   refine zm ?_; refine zp (q_elem rfl rfl rfl k rfl _ (val_get hx) rfl) ?_; refine zl ?_; refine zf ?_; refine zl ?_; refine zm ?_
   refine zp (q_elem rfl rfl rfl k rfl _ (val_get hy) rfl) ?_; refine zl ?_; refine zm ?_
   refine zp (q_call (ih q (List.mem_of_getElem? hq) x y (elemZ_get hza hx hq) (elemZ_get hzb hy hq) (sa.part x (List.mem_of_getElem? hx)) (sb.part y (List.mem_of_getElem? hy))) rfl rfl rfl) ?_
   refine zp (q_bslice rfl rfl rfl rfl (by exact rfl) (by decide) (by decide)) ?_; change AOps _ _ _ _ _ _
   refine s_append_tok hN rfl rfl rfl (by simp) rfl rfl (all_okE okE_val _) rfl (by simp [chunk_4]; omega) rfl rfl rfl rfl ?_
   refine zF ?_; refine zC ?_; refine aops_nil ?_; change AWP _ _ _ _  _; refine awp_region ?_; refine zM ?_
   refine zP (q_addi rfl rfl rfl (by omega)) ?_; refine zS ?_; refine aops_nil ?_
   exact ⟨⟨k + 1, hlt, trivial⟩, weak_scrub' rfl (zz4 (zz2 ⟨(cgI (by dsimp only; omega)), rfl, trivial⟩)) ⟨rfl, rfl, rfl, rfl, rfl, rfl, rfl, rfl, rfl, rfl, rfl, rfl, (cgV (jz_step (bz_get hq hx hy))), rfl, rfl, (cgT (by simp [chunk_4]; omega)), rfl, rfl, trivial⟩, by dsimp only; omega⟩
  have hge : (a.ps).length ≤ k := by simpa using h109
  rw [List.take_of_length_le (by rw [hjl]; omega)]
  refine awp_exit ?_; change AWP _ _ _ _  _; refine zG ?_; refine zL ?_; refine zC ?_; refine zN ?_; refine awp_ret ?_
  change (resY _ _).bind AV.fzt = some _
  refine ret_r rfl ?_
  rw [bd_prod up hk6]; rfl
 refine awp_skip ?_; change AWP _ _ _ _  _; refine awp_seq ?_; refine awp_seq ?_
 have hk4 : l.k = 4 ∨ l.k = 10 := by
  have := kinds hO
  simp only [beq_eq_false_iff_ne] at *
  omega
 obtain ⟨-, -, -, hsa, -, -⟩ := el_set ha hk4
 obtain ⟨-, -, -, hsb, -, -⟩ := el_set hb hk4
 refine awp_region ?_; refine zM ?_; refine zP (q_not rfl rfl) ?_; refine zN ?_
 refine zq ?_ ?_ <;> intro h4
 ·
  have hup : up = false := by simpa using h4
  refine zG ?_; refine zF ?_; refine zL ?_; refine zF ?_; refine zL ?_; refine zP (q_call (rInter2_fc _ _ hsa hsb (by omega)) rfl rfl rfl) ?_
  refine zP (q_build rfl rfl rfl) ?_; refine zC ?_; refine zN ?_; refine awp_ret ?_
  change (resY _ _).bind AV.fzt = some _
  refine ret_r rfl ?_
  rw [hup, bd_dn_set hk4]; rfl
 have hup : up = true := by simpa using h4
 refine zW ?_; refine zG ?_; refine zF ?_; refine zL ?_; refine zF ?_; refine zL ?_
 refine zP (q_call (rUnion2_fc _ _ hsa hsb (by omega)) rfl rfl rfl) ?_; refine zT ?_; refine zH ?_; refine zF ?_; refine zL ?_; refine zB ?_
 refine zN ?_
 refine zq ?_ ?_ <;> intro h146
 ·
  have hk10 : l.k = 10 := by simpa using h146
  have hE : bdV up l a b = .mk 0 (closeV l.nm l.rs (uni a.nm b.nm)) [] [] := by rw [hup]; exact bd_closed true hk10
  refine awp_draw 7 (by kernel_rfl) (by kernel_rfl) ?_; refine zf ?_; refine zl ?_
  refine zp (q_call (rOf2_fc l.nm ((spell_ok hO).2.1 (by omega)) (by have := (lim_ok hO).1; omega)) rfl rfl rfl) ?_
  refine zf ?_; refine zl ?_; refine zm ?_
  refine zp (q_call (r8Close_fc l.nm l.rs (uni a.nm b.nm) (by have := (lim_ok hO).1; omega) (by have := (lim_ok hO).2; omega) (by have := uni_len hsa hsb; omega)) rfl rfl rfl) ?_
  change AOps _ _ _ _ _ _; refine zS ?_; refine zA ?_; refine zM ?_; refine zP (q_build rfl rfl rfl) ?_; refine zC ?_; refine zN ?_; refine awp_ret ?_
  change (resY _ _).bind AV.fzt = some _
  refine ret_r rfl ?_
  rw [hE]; rfl
 have hk4' : l.k = 4 := hk4.resolve_right (by simpa using h146)
 have hE : bdV up l a b = .mk 0 (uni a.nm b.nm) [] [] := by rw [hup]; exact bd_set true hk4'
 refine zW ?_; refine zG ?_; refine zM ?_; refine zP (q_build rfl rfl rfl) ?_; refine zC ?_; refine zN ?_; refine awp_ret ?_
 change (resY _ _).bind AV.fzt = some _
 refine ret_r rfl ?_
 rw [hE]; rfl
theorem bound_fc (up : Bool) {n m : Nat} (hnm : n + m ≤ 1000000) (l : Lat) (hO : OkL l) (hC : ChL l) (hR : up = false → regsB l = false) (a b : Val) (ha : elemB a l = true) (hb : elemB b l = true) (sa : SmV n a) (sb : SmV m b) : FC Tryz.prog 59 [.agg (latL l), .agg (valL a), .agg (valL b), bl up] (.agg (valL (bdV up l a b))) := bound_s up hnm l hO hC hR (fun q hq x y hx hy sx sy => bound_fc up hnm q (hO.part q hq) (hC.part q hq) (regs_part hR hq) x y hx hy sx sy) a b ha hb sa sb
termination_by l
decreasing_by exact Lat.sizeOf_ps ‹_›
set_option maxRecDepth 100000 in
set_option maxHeartbeats 1000000 in
theorem rcheck_fc (l : Lat) (vs : List Val) : FC Tryz.prog 58 [.agg (latL l), vals vs] (i64 (checkJ l vs)) := by
 refine fc_of_awp [4] Tryz.func58 rfl rfl 22 Tryz.ntmps58 (Nat.le_of_ble_eq_true rfl) ?_
 intro E hN
 refine a_lm 1 rfl (fun hl1 => ?_)
 refine zG ?_; refine zX ?_; refine zT ?_; refine zH ?_; refine zL ?_; refine zP (q_call (r9Check_fc l) rfl rfl rfl) ?_; refine zB ?_; refine zN ?_
 refine zq ?_ ?_ <;> intro h6
 ·
  have h1 : ¬ checkX l = 0 := by simpa using h6
  refine zG ?_; refine zS ?_; refine zQ ?_
  exact retI (by unfold checkJ; simp [h1])
 have h1 : checkX l = 0 := by simpa using h6
 refine zW ?_; refine zH ?_; refine zT ?_; refine awp_block ?_
 refine awp_loop (fun x : {k : Nat // k ≤ (vs).length ∧ (vs.drop k).all (validV l) = vs.all (validV l)} => ⟨[(1, vals vs), (2, .ptr 0 0), (5, i64 (x.1 : Nat))], [(0, .var 26 (latL l))], 1⟩) (fun x => (vs).length - x.1) (⟨0, Nat.zero_le _, by simp⟩) ?_ ?_
 ·
  exact weak_scrub' rfl (zz3 trivial) ⟨rfl, rfl, rfl, trivial⟩
 rintro ⟨k, hk, hg⟩
 dsimp only
 refine zH ?_; refine zM ?_; refine zM ?_; refine zE ?_; refine zB ?_; refine zN ?_
 refine zq ?_ ?_ <;> intro h10
 ·
  have hlt : k < (vs).length := by simpa using h10
  obtain ⟨x, hx⟩ := get_lt hlt
  refine zW ?_; refine awp_seq ?_; refine awp_block ?_; refine awp_seq ?_; refine awp_draw 6 (by kernel_rfl) (by kernel_rfl) ?_; refine zl ?_
  refine zm ?_; refine zm ?_; refine zp (q_elem rfl rfl rfl k rfl _ (val_get hx) rfl) ?_; refine zl ?_
  refine zp (q_call (rValidV_fc l x) rfl rfl rfl) ?_; change AOps _ _ _ _ _ _; refine zP (q_not rfl rfl) ?_; refine zN ?_
  refine zq ?_ ?_ <;> intro h14
  ·
   refine zG ?_; refine zS ?_; refine zQ ?_
   exact retI (by unfold checkJ elementsB; rw [all_no hg hx (by simp_all)]; simp [h1])
  refine awp_skip ?_; change AWP _ _ _ _  _; refine awp_region ?_; refine zM ?_; refine zP (q_addi rfl rfl rfl (by omega)) ?_; refine zS ?_
  refine aops_nil ?_
  exact ⟨⟨k + 1, hlt, all_go hg hx (by simp_all)⟩, weak_scrub' rfl (zz2 ⟨(cgI (by dsimp only; omega)), rfl, trivial⟩) ⟨rfl, rfl, rfl, trivial⟩, by dsimp only; omega⟩
 have hge : (vs).length ≤ k := by simpa using h10
 refine awp_exit ?_; change AWP _ _ _ _  _; refine zG ?_; refine zS ?_; refine zQ ?_
 exact retI (by unfold checkJ elementsB; rw [all_end hg hge]; simp [h1])
set_option maxRecDepth 100000 in
set_option maxHeartbeats 1000000 in
theorem rJoin_fc (l : Lat) {n m : Nat} (hnm : n + m ≤ 1000000) (a b : Val) (sa : SmV n a) (sb : SmV m b) : FC Tryz.prog 70 [.agg (latL l), .agg (valL a), .agg (valL b)] (.tup [.agg (valL (joinR l a b).1), i64 (joinR l a b).2]) := by
 refine fc_of_awpR [.c 6 41 4 true, .t 7] ⟨⟨inferInstance, rfl⟩, trivial⟩ Tryz.func70 rfl rfl 22 Tryz.ntmps70 (Nat.le_of_ble_eq_true rfl) ?_
 intro E hN
 refine zG ?_; refine zX ?_; refine zX ?_; refine zX ?_; refine zO ?_; refine zT ?_; refine zH ?_; refine zL ?_; refine zL ?_; refine zL ?_
 refine zP (q_bslice2 rfl rfl rfl rfl (by exact rfl) (by decide) (by decide) (vals_2 a b)) ?_; refine zP (q_call (rcheck_fc l [a, b]) rfl rfl rfl) ?_
 refine zS ?_; refine zA ?_; refine zM ?_; refine zB ?_; refine zN ?_
 refine zq ?_ ?_ <;> intro h13
 ·
  have h1 : ¬ checkJ l [a, b] = 0 := by simpa using h13
  refine zG ?_; refine zP (q_build rfl rfl rfl) ?_; refine zM ?_; refine zC ?_; refine zT ?_; refine awp_ret ?_
  change (resY _ _).bind AV.fzt = some _
  refine ret_r rfl ?_
  rw [joinR, if_neg h1]; rfl
 have h1 : checkJ l [a, b] = 0 := by simpa using h13
 have hc := checkJ_ok h1
 refine zW ?_; refine zG ?_; refine zL ?_; refine zL ?_; refine zL ?_
 refine zP (q_call (bound_fc true hnm l (check_ok hc.1) (ChL.of l hc.1) (fun e => by cases e) a b (hc.2 a (by simp)) (hc.2 b (by simp)) sa sb) rfl rfl rfl) ?_
 refine zC ?_; refine zT ?_; refine awp_ret ?_
 change (resY _ _).bind AV.fzt = some _
 refine ret_r rfl ?_
 rw [joinR, if_pos h1]; rfl
end Go.Proofs.YtnjmbgnaplomaaaGreat
