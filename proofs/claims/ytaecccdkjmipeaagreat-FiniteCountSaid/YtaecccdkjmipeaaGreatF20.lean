/-
  Plain laws: how many elements a finite description has.
  Contracts: the law FiniteCount (seat r5).
-/
import Derived.Test.YtaecccdkjmipeaaGreatF19
import Derived.Test.YtaecccdkjmipeaaGreatF9
import Derived.Test.YtaecccdkjmipeaaGreatC4
namespace Go.Proofs.YtaecccdkjmipeaaGreat
open Go.RowKit

theorem nm_32 {l : Lat} (hc : checkX l = 0) : l.nm.length ≤ 32 := by
 have h1 := when_no (check_ok hc).four.1 (by decide)
 simp only [Bool.or_eq_false_iff, decide_eq_false_iff_not] at h1
 have : mostN l.k ≤ 32 := by unfold mostN; split <;> (try split) <;> omega
 omega
def cnt (l : Lat) : Nat := (valuesX l).1.length
def cerr (l : Lat) : Int := (valuesX l).2
theorem cnt_fc (l : Lat) : FC Tryz.prog 13 [.agg (latL l)] (.tup [i64 (cnt l : Nat), i64 (cerr l)]) := count_any l
theorem cerr_bad {l : Lat} (h : ¬ checkX l = 0) : cnt l = 0 ∧ cerr l = 1 := by unfold cnt cerr valuesX; rw [if_neg h]; exact ⟨rfl, rfl⟩
theorem cerr_inf {l : Lat} (h : checkX l = 0) (hF : finB l = false) : cnt l = 0 ∧ cerr l = 4 := by unfold cnt cerr valuesX; rw [if_pos h, hF]; exact ⟨rfl, rfl⟩
theorem cnt_fin {l : Lat} (h : checkX l = 0) (hF : finB l = true) : (∃ L, allV l = some L ∧ cnt l = L.length ∧ cerr l = 0) ∨ (allV l = none ∧ cnt l = 0 ∧ cerr l = 6) := by
 unfold cnt cerr valuesX
 rw [if_pos h, if_pos hF]
 cases ha : allV l with
 | none => exact .inr ⟨rfl, rfl, rfl⟩
 | some L => exact .inl ⟨L, rfl, (srtV_perm L).length_eq, rfl⟩
theorem cnt_le {l : Lat} (h : checkX l = 0) (hF : finB l = true) : cnt l ≤ 256 ∧ (cerr l = 0 ∧ 1 ≤ cnt l ∨ cerr l = 6 ∧ cnt l = 0) := by
 rcases cnt_fin h hF with ⟨L, h1, h2, h3⟩ | ⟨h1, h2, h3⟩
 ·have := all_256 (check_ok h) h1
  have := List.length_pos_of_mem (all_bot (check_ok h) hF h1)
  exact ⟨by omega, .inl ⟨h3, by omega⟩⟩
 exact ⟨by omega, .inr ⟨h3, h2⟩⟩
/-- the numbers multiplied, 1000 at most -/
def wantP : List Lat → Nat := fun ps => ps.foldl (fun w q => min (w * cnt q) 1000) 1
theorem wantP_take {ps : List Lat} {i : Nat} {q : Lat} (h : ps[i]? = some q) : wantP (ps.take (i + 1)) = min (wantP (ps.take i) * cnt q) 1000 := by
 unfold wantP
 rw [List.take_add_one, h, List.foldl_append]; rfl
theorem wantP_le {ps : List Lat} : ∀ i, wantP (ps.take i) ≤ 1000
 | 0 => by rw [List.take_zero]; decide
 | i + 1 => by
  by_cases h : i < ps.length
  ·obtain ⟨q, hq⟩ := get_lt h
   rw [wantP_take hq]; omega
  rw [List.take_of_length_le (by omega), ← List.take_of_length_le (show ps.length ≤ i by omega)]; exact wantP_le i
def wantM (k : Nat) : Nat → Nat
 | 0 => 1
 | n + 1 => min (wantM k n * k) 1000
theorem wantM_le (k : Nat) : ∀ n, wantM k n ≤ 1000
 | 0 => by unfold wantM; omega
 | n + 1 => by unfold wantM; omega
theorem min_mul {a k : Nat} (h : 1 ≤ k) : min (min a 1000 * k) 1000 = min (a * k) 1000 := by
 by_cases ha : a ≤ 1000
 ·rw [show min a 1000 = a by omega]
 rw [show min a 1000 = 1000 by omega]
 have h1 : 1000 * 1 ≤ 1000 * k := Nat.mul_le_mul_left _ h
 have h2 : a * 1 ≤ a * k := Nat.mul_le_mul_left _ h
 omega
theorem wantM_pow {k : Nat} (h : 1 ≤ k) : ∀ n, wantM k n = min (k ^ n) 1000
 | 0 => by simp [wantM]
 | n + 1 => by rw [wantM, wantM_pow h n, min_mul h, Nat.pow_succ]
theorem maps_len (L : List Val) : ∀ nm : List Nm, (mapsV nm L).length = (L.length + 1) ^ nm.length := by
 have key : ∀ (nm : List Nm) (out : List Val), (nm.foldl (fun out key => stepM key out L) out).length = out.length * (L.length + 1) ^ nm.length := by
  intro nm
  induction nm with
  | nil => intro out; simp
  | cons s nm ih =>
   intro out
   rw [List.foldl_cons, ih, stepM_len, List.length_cons, Nat.pow_succ, Nat.mul_assoc, Nat.mul_comm (L.length + 1)]
 intro nm
 have := key nm [Val.zero]
 simpa [mapsV] using this
/-- what the law asks, given the numbers multiplied -/
def CntIs (l : Lat) (w : Nat) : Prop := (256 < w → cerr l = 6 ∧ cnt l = 0) ∧ (¬ 256 < w → cerr l = 0 ∧ cnt l = w)
theorem cnt_cap {l : Lat} (h : checkX l = 0) (hF : finB l = true) {L : List Val} (ha : allV l = capV L) {w : Nat} (hw : w = min L.length 1000) : CntIs l w := by
 unfold capV at ha
 constructor
 ·intro h1
  rw [if_neg (by omega)] at ha
  rcases cnt_fin h hF with ⟨M, h1, h2, h3⟩ | ⟨h1, h2, h3⟩
  ·rw [ha] at h1; cases h1
  exact ⟨h3, h2⟩
 intro h1
 rw [if_pos (by omega)] at ha
 rcases cnt_fin h hF with ⟨M, h1, h2, h3⟩ | ⟨h1, h2, h3⟩
 ·rw [ha] at h1; cases h1; exact ⟨h3, by omega⟩
 rw [ha] at h1; cases h1
theorem cnt_none {l : Lat} (h : checkX l = 0) (hF : finB l = true) (ha : allV l = none) : cerr l = 6 := by
 rcases cnt_fin h hF with ⟨M, h1, h2, h3⟩ | ⟨h1, h2, h3⟩
 ·rw [ha] at h1; cases h1
 exact h3
theorem cnt_prod {l : Lat} (h : checkX l = 0) (hF : finB l = true) (hk : l.k = 6 ∨ l.k = 7) : (∀ q ∈ l.ps, cerr q ≠ 0 → cerr q = 6 ∧ cerr l = 6) ∧ ((∀ q ∈ l.ps, cerr q = 0) → CntIs l (wantP l.ps)) := by
 have he := allV_eq l
 unfold allK at he
 rw [if_neg (by omega), if_neg (by omega), if_neg (by omega), if_neg (by omega), if_neg (by omega), if_neg (by omega)] at he
 have hp := fun q hq => cnt_fin (check_part h hq) (fin_part hF q hq)
 constructor
 ·intro q hq hne
  rcases hp q hq with ⟨L, h1, h2, h3⟩ | ⟨h1, h2, h3⟩
  ·exact absurd h3 hne
  refine ⟨h3, cnt_none h hF ?_⟩
  rw [he]
  cases ho : allO (l.ps.map allV) with
  | none => rfl
  | some Ls =>
   have := allO_some ho
   have h4 : allV q ∈ l.ps.map allV := List.mem_map.2 ⟨q, hq, rfl⟩
   rw [this, h1] at h4
   obtain ⟨M, -, h5⟩ := List.mem_map.1 h4
   cases h5
 intro h0
 have hall : ∃ Ls : List (List Val), l.ps.map allV = Ls.map some := by
  refine ⟨(l.ps.map allV).map fun x => x.getD [], ?_⟩
  rw [List.map_map]
  have hcg := List.map_congr_left (f := id) (g := some ∘ fun x : Option (List Val) => x.getD []) (l := l.ps.map allV) fun x hx => by
   obtain ⟨q, hq, rfl⟩ := List.mem_map.1 hx
   rcases hp q hq with ⟨L, h1, h2, h3⟩ | ⟨h1, h2, h3⟩
   ·rw [h1]; rfl
   rw [h0 q hq] at h3; cases h3
  rw [List.map_id] at hcg
  exact hcg
 obtain ⟨Ls, hLs⟩ := hall
 rw [hLs, allO_map] at he
 refine cnt_cap h hF he ?_
 have hl : Ls.length = l.ps.length := by have := congrArg List.length hLs; simpa using this.symm
 have key : ∀ i, i ≤ l.ps.length → wantP (l.ps.take i) = min (prodV (Ls.take i)).length 1000 := fun i => by
  induction i with
  | zero => intro _; rw [List.take_zero, List.take_zero]; decide
  | succ i ih =>
   intro hi
   obtain ⟨q, hq⟩ := get_lt (show i < l.ps.length by omega)
   obtain ⟨L, hL⟩ := get_lt (show i < Ls.length by omega)
   have hqm := List.mem_of_getElem? hq
   have hv : allV q = some L := by
    have := congrArg (fun z => z[i]?) hLs
    simp only [List.getElem?_map, hq, hL, Option.map_some] at this
    exact Option.some.inj this
   have hc : cnt q = L.length ∧ 1 ≤ cnt q := by
    rcases hp q hqm with ⟨M, h1, h2, h3⟩ | ⟨h1, h2, h3⟩
    ·rw [hv] at h1; cases h1
     exact ⟨h2, by rw [h2]; exact List.length_pos_of_mem (all_bot (check_ok (check_part h hqm)) (fin_part hF q hqm) hv)⟩
    rw [hv] at h1; cases h1
   rw [wantP_take hq, ih (by omega), prodV_take hL, stepV_len, min_mul hc.2, hc.1]
 have := key l.ps.length (Nat.le_refl _)
 rwa [List.take_length, ← hl, List.take_length] at this
theorem cnt_map {l q : Lat} (h : checkX l = 0) (hF : finB l = true) (hk : l.k = 5) (hq : l.ps = [q]) : (cerr q ≠ 0 → cerr q = 6 ∧ cerr l = 6) ∧ (cerr q = 0 → CntIs l (wantM (cnt q) l.nm.length)) := by
 have he := allV_eq l
 unfold allK at he
 rw [if_neg (by omega), if_neg (by omega), if_neg (by omega), if_neg (by omega), if_neg (by omega), if_pos hk, hq] at he
 simp only [List.map_cons] at he
 have hqm : q ∈ l.ps := by rw [hq]; simp
 rcases cnt_fin (check_part h hqm) (fin_part hF q hqm) with ⟨L, h1, h2, h3⟩ | ⟨h1, h2, h3⟩
 ·refine ⟨fun hne => absurd h3 hne, fun _ => ?_⟩
  rw [h1] at he
  have he : allV l = capV (mapsV l.nm (fmV q L)) := he
  refine cnt_cap h hF he ?_
  obtain ⟨hn, hm⟩ := all_spec q (check_ok (check_part h hqm)) (fin_part hF q hqm) L h1
  have hb := all_bot (check_ok (check_part h hqm)) (fin_part hF q hqm) h1
  have hlen : (fmV q L).length + 1 = L.length := by
   obtain ⟨l1, l2, rfl⟩ := List.append_of_mem hb
   obtain ⟨g1, g2, g3⟩ := List.nodup_append.1 hn
   rw [List.nodup_cons] at g2
   have keep : ∀ l : List Val, bottomV q ∉ l → l.filter (fun x => !eqV x (bottomV q)) = l := fun l hl => List.filter_eq_self.2 fun x hx => by
    rw [Bool.not_eq_true', Bool.eq_false_iff]
    intro e
    rw [(eqV_iff _ _).1 e] at hx
    exact hl hx
   unfold fmV
   rw [List.filter_append, List.filter_cons, (eqV_iff _ _).2 rfl, keep l1 (fun hx => g3 _ hx _ List.mem_cons_self rfl), keep l2 g2.1]
   simp
   omega
  rw [maps_len, hlen, wantM_pow (by rw [h2]; exact List.length_pos_of_mem hb), h2]
 exact ⟨fun _ => ⟨h3, cnt_none h hF (by rw [he, h1])⟩, fun h0 => by rw [h0] at h3; cases h3⟩
theorem cnt_set {l : Lat} (h : checkX l = 0) (hF : finB l = true) (hk : l.k = 4) : CntIs l (wantM 2 l.nm.length) := by
 have he := allV_eq l
 unfold allK at he
 rw [if_neg (by omega), if_neg (by omega), if_pos hk] at he
 have hl : (subsV (fun _ => true) l.nm (2 ^ l.nm.length)).length = 2 ^ l.nm.length := by
  unfold subsV
  rw [List.length_map, List.filter_eq_self.2 (by intro a _; rfl), List.length_map, List.length_range]
 refine cnt_cap (L := subsV (fun _ => true) l.nm (2 ^ l.nm.length)) h hF ?_ (by rw [hl, wantM_pow (by decide)])
 rw [he]
 unfold capV
 by_cases h8 : l.nm.length ≤ 8
 ·rw [if_pos h8, if_pos (subsV_256 h8)]
 rw [if_neg h8, if_neg]
 rw [hl]
 have : 2 ^ 9 ≤ 2 ^ l.nm.length := Nat.pow_le_pow_right (by decide) (by omega)
 omega
theorem cnt_flat {l : Lat} (h : checkX l = 0) (hF : finB l = true) (hk : l.k = 8) : l.nm.length ≤ 64 ∧ CntIs l (l.nm.length + 2) := by
 have he := allV_eq l
 unfold allK at he
 rw [if_neg (by omega), if_neg (by omega), if_neg (by omega), if_neg (by omega), if_pos hk] at he
 have h2 := all_256 (check_ok h) he
 have h32 : l.nm.length ≤ 32 := by
  have h1 := when_no (check_ok h).four.1 (by decide)
  simp only [Bool.or_eq_false_iff, decide_eq_false_iff_not] at h1
  have : mostN l.k = 32 := by rw [hk]; rfl
  omega
 refine ⟨by omega, cnt_cap (L := flatV l.nm) h hF ?_ (by rw [flatV_len]; omega)⟩
 rw [he]
 unfold capV
 rw [if_pos (by rw [flatV_len]; omega)]
end Go.Proofs.YtaecccdkjmipeaaGreat

namespace Go.Proofs.YtaecccdkjmipeaaGreat
open Go.RowKit
set_option maxRecDepth 100000 in
set_option maxHeartbeats 1000000 in
theorem rfin_s (l : Lat) (ih : ∀ q ∈ l.ps, FC Tryz.prog 21 [.agg (latL q)] (bl (finB q))) (h6 : l.ps.length ≤ 1000000) : FC Tryz.prog 21 [.agg (latL l)] (bl (finB l)) := by
 refine fc_of_awp [2] Tryz.func21 rfl rfl 42 Tryz.ntmps21 (Nat.le_of_ble_eq_true rfl) ?_
 intro E hN
 refine rn12 ?_
 refine zc 7 ?_ ?_ <;> intro h5
 ·
  iterate 5 refine uK (w10 h5) ?_
  refine rn13 ?_; refine uK (w10 h5) ?_; refine zh1 h5 ?_; refine zN ?_; refine c_true rfl rfl ?_; refine rn3 ?_; refine zQ ?_
  exact retB (by rw [finB_eq]; simp_all)
 refine uF (w00 h5) ?_; refine uL (w00 h5) ?_; refine uE (w00 h5) ?_; refine uP (w00 h5) (q_bin rfl rfl rfl) ?_; refine uM (w00 h5) ?_
 refine zc 12 ?_ ?_ <;> intro h9
 ·
  refine uF (w11 h9) ?_; refine uL (w11 h9) ?_; refine uP (w11 h9) (q_bin rfl rfl rfl) ?_; refine uM (w11 h9) ?_
  refine zc 16 ?_ ?_ <;> intro h12
  ·
   iterate 3 refine uK (w10 h12) ?_
   refine uP (w11 h9) (q_pick1 rfl rfl h12 rfl) ?_; refine uM (w11 h9) ?_; refine rn3 ?_; refine uP (w11 h9) (q_pick1 rfl rfl rfl rfl) ?_
   refine uP (w00 h5) (q_pick1 rfl rfl h9 rfl) ?_; refine zh0 h5 ?_; refine zN ?_; refine c_true rfl rfl ?_; refine rn3 ?_; refine zQ ?_
   exact retB (by rw [finB_eq]; simp_all)
  refine uF (w00 h12) ?_; refine uL (w00 h12) ?_; refine uP (w00 h12) (q_bin rfl rfl rfl) ?_; refine uP (w11 h9) (q_pick0 rfl rfl h12 rfl) ?_
  refine uM (w11 h9) ?_
  refine zc 21 ?_ ?_ <;> intro h15
  ·
   iterate 3 refine uK (w10 h15) ?_
   refine uP (w11 h9) (q_pick1 rfl rfl h15 rfl) ?_; refine uP (w00 h5) (q_pick1 rfl rfl h9 rfl) ?_; refine zh0 h5 ?_; refine zN ?_
   refine c_true rfl rfl ?_; refine rn3 ?_; refine zQ ?_
   exact retB (by rw [finB_eq]; simp_all)
  refine uF (w00 h15) ?_; refine uL (w00 h15) ?_; refine uP (w00 h15) (q_bin rfl rfl rfl) ?_; refine uP (w11 h9) (q_pick0 rfl rfl h15 rfl) ?_
  refine uP (w00 h5) (q_pick1 rfl rfl h9 rfl) ?_; refine zh0 h5 ?_; refine zN ?_
  refine zq ?_ ?_ <;> intro h18
  ·
   have h1 := h18
   refine rn3 ?_; refine zQ ?_
   exact retB (by rw [finB_eq]; simp_all)
  have h1 := h18
  refine rn7 ?_
  refine awp_loop (fun x : {k : Nat // k ≤ (l.ps).length ∧ (l.ps.drop k).all finB = l.ps.all finB} => ⟨[(1, .ptr 0 0), (3, i64 (x.1 : Nat))], [(0, .var 26 (latL l))], 1⟩) (fun x => (l.ps).length - x.1) (⟨0, Nat.zero_le _, by simp⟩) ?_ ?_
  ·
   exact weak_scrub' rfl (zz2 trivial) ⟨rfl, rfl, rfl, trivial⟩
  rintro ⟨k, hk, hg⟩
  dsimp only
  refine rn9 ?_
  refine zq ?_ ?_ <;> intro h24
  ·
   have hlt : k < (l.ps).length := by simpa using h24
   obtain ⟨x, hx⟩ := get_lt hlt
   refine rn8 ?_; refine zP (q_elem rfl rfl rfl k rfl _ (lat_get hx) rfl) ?_; refine zL ?_
   refine zP (q_call (ih x (List.mem_of_getElem? hx)) rfl rfl rfl) ?_; refine rn2 ?_
   refine zq ?_ ?_ <;> intro h29
   ·
    refine rn3 ?_; refine zQ ?_
    exact retB (by rw [finB_eq, all_no hg hx (by simp_all), Bool.and_false])
   refine rn3 ?_; refine zP (q_addi rfl rfl rfl (by omega)) ?_; refine zS ?_; refine aops_nil ?_
   exact ⟨⟨k + 1, hlt, all_go hg hx (by simp_all)⟩, weak_scrub' rfl (zz1 ⟨(cgI (by dsimp only; omega)), rfl, trivial⟩) ⟨rfl, rfl, rfl, trivial⟩, by dsimp only; omega⟩
  have hge : (l.ps).length ≤ k := by simpa using h24
  refine rn4 ?_; refine zQ ?_
  exact retB (by rw [finB_eq, all_end hg hge]; simp_all)
 iterate 4 refine uK (w01 h9) ?_
 refine rn3 ?_
 iterate 2 refine uK (w01 h9) ?_
 refine rn3 ?_; refine uK (w01 h9) ?_; refine uP (w00 h5) (q_pick0 rfl rfl h9 rfl) ?_; refine zh0 h5 ?_; refine zN ?_; refine c_false rfl rfl ?_
 refine rn7 ?_
 refine awp_loop (fun x : {k : Nat // k ≤ (l.ps).length ∧ (l.ps.drop k).all finB = l.ps.all finB} => ⟨[(1, .ptr 0 0), (3, i64 (x.1 : Nat))], [(0, .var 26 (latL l))], 1⟩) (fun x => (l.ps).length - x.1) (⟨0, Nat.zero_le _, by simp⟩) ?_ ?_
 ·
  exact weak_scrub' rfl (zz2 trivial) ⟨rfl, rfl, rfl, trivial⟩
 rintro ⟨k, hk, hg⟩
 dsimp only
 refine rn9 ?_
 refine zq ?_ ?_ <;> intro h36
 ·
  have hlt : k < (l.ps).length := by simpa using h36
  obtain ⟨x, hx⟩ := get_lt hlt
  refine rn8 ?_; refine zP (q_elem rfl rfl rfl k rfl _ (lat_get hx) rfl) ?_; refine zL ?_
  refine zP (q_call (ih x (List.mem_of_getElem? hx)) rfl rfl rfl) ?_; refine rn2 ?_
  refine zq ?_ ?_ <;> intro h41
  ·
   refine rn3 ?_; refine zQ ?_
   exact retB (by rw [finB_eq, all_no hg hx (by simp_all), Bool.and_false])
  refine rn3 ?_; refine zP (q_addi rfl rfl rfl (by omega)) ?_; refine zS ?_; refine aops_nil ?_
  exact ⟨⟨k + 1, hlt, all_go hg hx (by simp_all)⟩, weak_scrub' rfl (zz1 ⟨(cgI (by dsimp only; omega)), rfl, trivial⟩) ⟨rfl, rfl, rfl, trivial⟩, by dsimp only; omega⟩
 have hge : (l.ps).length ≤ k := by simpa using h36
 refine rn4 ?_; refine zQ ?_
 exact retB (by rw [finB_eq, all_end hg hge]; simp_all)
theorem rfin_fc (l : Lat) (hO : OkL l) : FC Tryz.prog 21 [.agg (latL l)] (bl (finB l)) := rfin_s l (fun q hq => rfin_fc q (hO.part q hq)) (by have := hO.small; omega)
termination_by l
decreasing_by exact Lat.sizeOf_ps hq
set_option maxRecDepth 100000 in
set_option maxHeartbeats 1000000 in
theorem lawCount_c (l : Lat) (hc : ¬ checkX l = 0) : FC Tryz.prog 4 [.agg (latL l)] (bl true) := by
 refine fc_of_awp [2] Tryz.func4 rfl rfl 170 Tryz.ntmps4 (Nat.le_of_ble_eq_true rfl) ?_
 intro E hN
 obtain ⟨e1, e2⟩ := cerr_bad hc
 refine rn8 ?_; refine zP (q_call (cnt_fc l) rfl rfl rfl) ?_; refine rn10 ?_; refine zP (q_call (r9Check_fc l) rfl rfl rfl) ?_
 refine zP (q_binb (b := true) rfl rfl rfl (by simpa using hc)) ?_; refine zN ?_; refine c_true rfl rfl ?_; refine zG ?_
 refine zP (q_call awake14_fc rfl rfl rfl) ?_; refine rn2 ?_
 refine zP (q_binb (b := true) rfl rfl rfl (by rw [e2]; rfl)) ?_
 refine zh1 rfl ?_; refine rn2 ?_
 refine zP (q_binb (b := true) rfl rfl rfl (by rw [e1]; rfl)) ?_
 refine zh1 rfl ?_; refine zS ?_; refine zQ ?_
 rfl
set_option maxRecDepth 100000 in
set_option maxHeartbeats 1000000 in
theorem lawCount_i (l : Lat) (hc : checkX l = 0) (hF : finB l = false) : FC Tryz.prog 4 [.agg (latL l)] (bl true) := by
 refine fc_of_awp [2] Tryz.func4 rfl rfl 170 Tryz.ntmps4 (Nat.le_of_ble_eq_true rfl) ?_
 intro E hN
 obtain ⟨e1, e2⟩ := cerr_inf hc hF
 refine rn8 ?_; refine zP (q_call (cnt_fc l) rfl rfl rfl) ?_; refine rn10 ?_
 refine zP (q_call (by have h := r9Check_fc l; rw [hc] at h; exact h) rfl rfl rfl) ?_
 refine rn2 ?_; refine c_false rfl rfl ?_; refine rn5 ?_; refine zP (q_call (fcb (c := false) (rfin_fc l (check_ok hc)) hF) rfl rfl rfl) ?_
 refine rn2 ?_; refine c_true rfl rfl ?_; refine zG ?_; refine zP (q_call awake14_fc rfl rfl rfl) ?_; refine rn2 ?_
 refine zP (q_binb (b := true) rfl rfl rfl (by rw [e2]; rfl)) ?_
 refine zh1 rfl ?_; refine rn2 ?_
 refine zP (q_binb (b := true) rfl rfl rfl (by rw [e1]; rfl)) ?_
 refine zh1 rfl ?_; refine zS ?_; refine zQ ?_
 rfl
set_option maxRecDepth 100000 in
set_option maxHeartbeats 1000000 in
theorem lawCount_6 (lo hi : Int) (nm : List Nm) (ps : List Lat) (rs : List Ru) (hc : checkX (.mk 6 lo hi nm ps rs) = 0) (hF : finB (.mk 6 lo hi nm ps rs) = true) : FC Tryz.prog 4 [.agg (latL (.mk 6 lo hi nm ps rs))] (bl true) := by
 refine fc_of_awp [2] Tryz.func4 rfl rfl 170 Tryz.ntmps4 (Nat.le_of_ble_eq_true rfl) ?_
 intro E hN
 have hp64 : ps.length ≤ 64 := (check_ok hc).small
 have hp1 : ∀ q ∈ ps, cerr q ≠ 0 → cerr q = 6 ∧ cerr (Lat.mk 6 lo hi nm ps rs) = 6 := (cnt_prod hc hF (.inl rfl)).1
 have hp2 : (∀ q ∈ ps, cerr q = 0) → CntIs (Lat.mk 6 lo hi nm ps rs) (wantP ps) := (cnt_prod hc hF (.inl rfl)).2
 refine rn8 ?_; refine zP (q_call (cnt_fc (.mk 6 lo hi nm ps rs)) rfl rfl rfl) ?_; refine rn10 ?_
 refine zP (q_call (by have h := r9Check_fc (.mk 6 lo hi nm ps rs); rw [hc] at h; exact h) rfl rfl rfl) ?_
 refine rn2 ?_; refine c_false rfl rfl ?_; refine rn5 ?_
 refine zP (q_call (fcb (c := true) (rfin_fc (.mk 6 lo hi nm ps rs) (check_ok hc)) hF) rfl rfl rfl) ?_; refine rn2 ?_; refine c_false rfl rfl ?_
 refine rn18 ?_; refine c_true rfl rfl ?_; refine zW ?_; refine c_true rfl rfl ?_; refine rn5 ?_
 refine awp_loop (fun x : {k : Nat // k ≤ (ps).length ∧ ∀ q ∈ ps.take k, cerr q = 0} => ⟨[(1, .ptr 0 0), (3, i64 (cnt (.mk 6 lo hi nm ps rs) : Nat)), (4, i64 (cerr (.mk 6 lo hi nm ps rs))), (5, i64 (wantP (ps.take x.1) : Nat)), (6, i64 (x.1 : Nat))], [(0, .var 26 (latL (.mk 6 lo hi nm ps rs)))], 1⟩) (fun x => (ps).length - x.1) (⟨0, Nat.zero_le _, by simp⟩) ?_ ?_
 ·
  exact weak_scrub' rfl (zz4 (zz1 trivial)) ⟨rfl, rfl, rfl, trivial⟩
 rintro ⟨k, hk, hg⟩
 dsimp only
 refine rn9 ?_
 refine zq ?_ ?_ <;> intro h22
 ·
  have hlt : k < ps.length := by simpa [Lat.ps] using h22
  obtain ⟨x, hx⟩ := get_lt hlt
  have hxm := List.mem_of_getElem? hx
  refine rn8 ?_; refine zP (q_elem rfl rfl rfl k rfl _ (lat_get hx) rfl) ?_; refine zL ?_; refine zP (q_call (cnt_fc x) rfl rfl rfl) ?_; refine rn12 ?_
  refine zq ?_ ?_ <;> intro h30
  ·
   have h15 : cerr x ≠ 0 := by simpa using h30
   obtain ⟨e1, e2⟩ := hp1 x hxm h15
   refine zG ?_; refine zP (q_call awake14_fc rfl rfl rfl) ?_; refine rn2 ?_
   refine zP (q_binb (b := true) rfl rfl rfl (by rw [e2]; rfl)) ?_
   refine zh1 rfl ?_; refine rn2 ?_
   refine zP (q_binb (b := true) rfl rfl rfl (by rw [e1]; rfl)) ?_
   refine zh1 rfl ?_; refine zS ?_; refine zQ ?_
   rfl
  have h15 : cerr x = 0 := by simpa using h30
  refine rn5 ?_; refine zP (q_min rfl rfl rfl) ?_; refine rn4 ?_; refine zP (q_addi rfl rfl rfl (by omega)) ?_; refine zS ?_; refine aops_nil ?_
  exact ⟨⟨k + 1, hlt, fun q hq => by
   rw [List.take_add_one, hx, List.mem_append] at hq
   rcases hq with hq | hq
   ·exact hg q hq
   simp at hq; subst hq; exact h15⟩, weak_scrub' rfl (zz3 ⟨(cgI (by rw [wantP_take hx]; have h1 := wantP_le (ps := ps) k; have h2 := (cnt_le (check_part hc hxm) (fin_part hF x hxm)).1; have h3 := Nat.mul_le_mul h1 h2; rw [← Int.natCast_mul, wrap_small (by omega) (by omega)]; split <;> omega)), rfl, (cgI (by dsimp only; omega)), rfl, trivial⟩) ⟨rfl, rfl, rfl, trivial⟩, by dsimp only; omega⟩
 have hge : ps.length ≤ k := by simpa [Lat.ps] using h22
 rw [List.take_of_length_le hge] at hg ⊢
 have hCI := hp2 hg
 refine rn7 ?_
 refine zq ?_ ?_ <;> intro h34
 ·
  have h33 := of_decide_eq_true h34
  try simp only [List.length_map, Lat.nm] at h33
  obtain ⟨e1, e2⟩ := hCI.1 (by omega)
  refine zG ?_; refine zP (q_call awake14_fc rfl rfl rfl) ?_; refine rn2 ?_
  refine zP (q_binb (b := true) rfl rfl rfl (by rw [e1]; rfl)) ?_
  refine zh1 rfl ?_; refine rn2 ?_
  refine zP (q_binb (b := true) rfl rfl rfl (by rw [e2]; rfl)) ?_
  refine zh1 rfl ?_; refine zS ?_; refine zQ ?_
  rfl
 have h33 := of_decide_eq_false h34
 try simp only [List.length_map, Lat.nm] at h33
 obtain ⟨e1, e2⟩ := hCI.2 (by omega)
 refine rn3 ?_; refine zP (q_call awake14_fc rfl rfl rfl) ?_; refine rn2 ?_
 refine zP (q_binb (b := true) rfl rfl rfl (by rw [e1]; rfl)) ?_
 refine zh1 rfl ?_; refine rn3 ?_
 refine zP (q_binb (b := true) rfl rfl rfl (by rw [e2]; simp)) ?_
 refine zh1 rfl ?_; refine zS ?_; refine zQ ?_
 rfl
set_option maxRecDepth 100000 in
set_option maxHeartbeats 1000000 in
theorem lawCount_7 (lo hi : Int) (nm : List Nm) (ps : List Lat) (rs : List Ru) (hc : checkX (.mk 7 lo hi nm ps rs) = 0) (hF : finB (.mk 7 lo hi nm ps rs) = true) : FC Tryz.prog 4 [.agg (latL (.mk 7 lo hi nm ps rs))] (bl true) := by
 refine fc_of_awp [2] Tryz.func4 rfl rfl 170 Tryz.ntmps4 (Nat.le_of_ble_eq_true rfl) ?_
 intro E hN
 have hp64 : ps.length ≤ 64 := (check_ok hc).small
 have hp1 : ∀ q ∈ ps, cerr q ≠ 0 → cerr q = 6 ∧ cerr (Lat.mk 7 lo hi nm ps rs) = 6 := (cnt_prod hc hF (.inr rfl)).1
 have hp2 : (∀ q ∈ ps, cerr q = 0) → CntIs (Lat.mk 7 lo hi nm ps rs) (wantP ps) := (cnt_prod hc hF (.inr rfl)).2
 refine rn8 ?_; refine zP (q_call (cnt_fc (.mk 7 lo hi nm ps rs)) rfl rfl rfl) ?_; refine rn10 ?_
 refine zP (q_call (by have h := r9Check_fc (.mk 7 lo hi nm ps rs); rw [hc] at h; exact h) rfl rfl rfl) ?_
 refine rn2 ?_; refine c_false rfl rfl ?_; refine rn5 ?_
 refine zP (q_call (fcb (c := true) (rfin_fc (.mk 7 lo hi nm ps rs) (check_ok hc)) hF) rfl rfl rfl) ?_; refine rn2 ?_; refine c_false rfl rfl ?_
 refine rn18 ?_; refine c_false rfl rfl ?_; refine rn4 ?_; refine c_true rfl rfl ?_; refine rn5 ?_
 refine awp_loop (fun x : {k : Nat // k ≤ (ps).length ∧ ∀ q ∈ ps.take k, cerr q = 0} => ⟨[(1, .ptr 0 0), (3, i64 (cnt (.mk 7 lo hi nm ps rs) : Nat)), (4, i64 (cerr (.mk 7 lo hi nm ps rs))), (5, i64 (wantP (ps.take x.1) : Nat)), (6, i64 (x.1 : Nat))], [(0, .var 26 (latL (.mk 7 lo hi nm ps rs)))], 1⟩) (fun x => (ps).length - x.1) (⟨0, Nat.zero_le _, by simp⟩) ?_ ?_
 ·
  exact weak_scrub' rfl (zz4 (zz1 trivial)) ⟨rfl, rfl, rfl, trivial⟩
 rintro ⟨k, hk, hg⟩
 dsimp only
 refine rn9 ?_
 refine zq ?_ ?_ <;> intro h23
 ·
  have hlt : k < ps.length := by simpa [Lat.ps] using h23
  obtain ⟨x, hx⟩ := get_lt hlt
  have hxm := List.mem_of_getElem? hx
  refine rn8 ?_; refine zP (q_elem rfl rfl rfl k rfl _ (lat_get hx) rfl) ?_; refine zL ?_; refine zP (q_call (cnt_fc x) rfl rfl rfl) ?_; refine rn12 ?_
  refine zq ?_ ?_ <;> intro h31
  ·
   have h15 : cerr x ≠ 0 := by simpa using h31
   obtain ⟨e1, e2⟩ := hp1 x hxm h15
   refine zG ?_; refine zP (q_call awake14_fc rfl rfl rfl) ?_; refine rn2 ?_
   refine zP (q_binb (b := true) rfl rfl rfl (by rw [e2]; rfl)) ?_
   refine zh1 rfl ?_; refine rn2 ?_
   refine zP (q_binb (b := true) rfl rfl rfl (by rw [e1]; rfl)) ?_
   refine zh1 rfl ?_; refine zS ?_; refine zQ ?_
   rfl
  have h15 : cerr x = 0 := by simpa using h31
  refine rn5 ?_; refine zP (q_min rfl rfl rfl) ?_; refine rn4 ?_; refine zP (q_addi rfl rfl rfl (by omega)) ?_; refine zS ?_; refine aops_nil ?_
  exact ⟨⟨k + 1, hlt, fun q hq => by
   rw [List.take_add_one, hx, List.mem_append] at hq
   rcases hq with hq | hq
   ·exact hg q hq
   simp at hq; subst hq; exact h15⟩, weak_scrub' rfl (zz3 ⟨(cgI (by rw [wantP_take hx]; have h1 := wantP_le (ps := ps) k; have h2 := (cnt_le (check_part hc hxm) (fin_part hF x hxm)).1; have h3 := Nat.mul_le_mul h1 h2; rw [← Int.natCast_mul, wrap_small (by omega) (by omega)]; split <;> omega)), rfl, (cgI (by dsimp only; omega)), rfl, trivial⟩) ⟨rfl, rfl, rfl, trivial⟩, by dsimp only; omega⟩
 have hge : ps.length ≤ k := by simpa [Lat.ps] using h23
 rw [List.take_of_length_le hge] at hg ⊢
 have hCI := hp2 hg
 refine rn7 ?_
 refine zq ?_ ?_ <;> intro h35
 ·
  have h33 := of_decide_eq_true h35
  try simp only [List.length_map, Lat.nm] at h33
  obtain ⟨e1, e2⟩ := hCI.1 (by omega)
  refine zG ?_; refine zP (q_call awake14_fc rfl rfl rfl) ?_; refine rn2 ?_
  refine zP (q_binb (b := true) rfl rfl rfl (by rw [e1]; rfl)) ?_
  refine zh1 rfl ?_; refine rn2 ?_
  refine zP (q_binb (b := true) rfl rfl rfl (by rw [e2]; rfl)) ?_
  refine zh1 rfl ?_; refine zS ?_; refine zQ ?_
  rfl
 have h33 := of_decide_eq_false h35
 try simp only [List.length_map, Lat.nm] at h33
 obtain ⟨e1, e2⟩ := hCI.2 (by omega)
 refine rn3 ?_; refine zP (q_call awake14_fc rfl rfl rfl) ?_; refine rn2 ?_
 refine zP (q_binb (b := true) rfl rfl rfl (by rw [e1]; rfl)) ?_
 refine zh1 rfl ?_; refine rn3 ?_
 refine zP (q_binb (b := true) rfl rfl rfl (by rw [e2]; simp)) ?_
 refine zh1 rfl ?_; refine zS ?_; refine zQ ?_
 rfl
set_option maxRecDepth 100000 in
set_option maxHeartbeats 1000000 in
theorem lawCount_5 (lo hi : Int) (nm : List Nm) (q : Lat) (rs : List Ru) (hc : checkX (.mk 5 lo hi nm [q] rs) = 0) (hF : finB (.mk 5 lo hi nm [q] rs) = true) : FC Tryz.prog 4 [.agg (latL (.mk 5 lo hi nm [q] rs))] (bl true) := by
 refine fc_of_awp [2] Tryz.func4 rfl rfl 170 Tryz.ntmps4 (Nat.le_of_ble_eq_true rfl) ?_
 intro E hN
 obtain ⟨hp1, hp2⟩ := cnt_map (q := q) hc hF rfl rfl
 simp only [Lat.nm] at hp2
 have hn32 : nm.length ≤ 32 := nm_32 hc
 have hqm : q ∈ (Lat.mk 5 lo hi nm [q] rs).ps := List.mem_singleton_self q
 have hq256 := (cnt_le (check_part hc hqm) (fin_part hF q hqm)).1
 refine rn8 ?_; refine zP (q_call (cnt_fc (.mk 5 lo hi nm [q] rs)) rfl rfl rfl) ?_; refine rn10 ?_
 refine zP (q_call (by have h := r9Check_fc (.mk 5 lo hi nm [q] rs); rw [hc] at h; exact h) rfl rfl rfl) ?_
 refine rn2 ?_; refine c_false rfl rfl ?_; refine rn5 ?_
 refine zP (q_call (fcb (c := true) (rfin_fc (.mk 5 lo hi nm [q] rs) (check_ok hc)) hF) rfl rfl rfl) ?_; refine rn2 ?_; refine c_false rfl rfl ?_
 refine rn18 ?_; refine c_false rfl rfl ?_; refine rn4 ?_; refine c_false rfl rfl ?_; refine rn5 ?_; refine c_true rfl rfl ?_; refine rn4 ?_
 refine zP (q_elem rfl rfl rfl 0 rfl _ (lat_get (show [q][0]? = some q from rfl)) rfl) ?_; refine zL ?_; refine zP (q_call (cnt_fc q) rfl rfl rfl) ?_
 refine rn12 ?_
 refine zq ?_ ?_ <;> intro h23
 ·
  have h20 : cerr q ≠ 0 := by simpa using h23
  obtain ⟨e1, e2⟩ := hp1 h20
  refine zG ?_; refine zP (q_call awake14_fc rfl rfl rfl) ?_; refine rn2 ?_
  refine zP (q_binb (b := true) rfl rfl rfl (by rw [e2]; rfl)) ?_
  refine zh1 rfl ?_; refine rn2 ?_
  refine zP (q_binb (b := true) rfl rfl rfl (by rw [e1]; rfl)) ?_
  refine zh1 rfl ?_; refine zS ?_; refine zQ ?_
  rfl
 have h20 : cerr q = 0 := by simpa using h23
 refine rn6 ?_
 refine awp_loop (fun x : {i : Nat // i ≤ nm.length ∧ True} => ⟨[(1, .ptr 0 0), (3, i64 (cnt (.mk 5 lo hi nm [q] rs) : Nat)), (4, i64 (cerr (.mk 5 lo hi nm [q] rs))), (5, i64 (wantM (cnt q) x.1 : Nat)), (9, i64 (cnt q : Nat)), (11, i64 (x.1 : Nat))], [(0, .var 26 (latL (.mk 5 lo hi nm [q] rs)))], 1⟩) (fun x => nm.length - x.1) (⟨0, Nat.zero_le _, by trivial⟩) ?_ ?_
 ·
  exact weak_scrub' rfl (zz4 (zz2 trivial)) ⟨rfl, rfl, rfl, trivial⟩
 rintro ⟨i, hi, gi⟩
 dsimp only
 refine rn9 ?_
 refine zq ?_ ?_ <;> intro h33
 ·
  have lti : i < nm.length := by simpa [Lat.nm] using h33
  refine rn7 ?_; refine zP (q_min rfl rfl rfl) ?_; refine rn4 ?_; refine zP (q_addi rfl rfl rfl (by omega)) ?_; refine zS ?_; refine aops_nil ?_
  exact ⟨⟨i + 1, lti, trivial⟩, weak_scrub' rfl (zz3 ⟨(cgI (by rw [wantM]; have h1 := wantM_le (cnt q) i; have h3 := Nat.mul_le_mul h1 hq256; rw [← Int.natCast_mul, wrap_small (by omega) (by omega)]; split <;> omega)), rfl, rfl, rfl, (cgI (by dsimp only; omega)), rfl, trivial⟩) ⟨rfl, rfl, rfl, trivial⟩, by dsimp only; omega⟩
 have gei : nm.length ≤ i := by simpa [Lat.nm] using h33
 obtain rfl : nm.length = i := by omega
 have hCI := hp2 h20
 refine rn7 ?_
 refine zq ?_ ?_ <;> intro h37
 ·
  have h33 := of_decide_eq_true h37
  try simp only [List.length_map, Lat.nm] at h33
  obtain ⟨e1, e2⟩ := hCI.1 (by omega)
  refine zG ?_; refine zP (q_call awake14_fc rfl rfl rfl) ?_; refine rn2 ?_
  refine zP (q_binb (b := true) rfl rfl rfl (by rw [e1]; rfl)) ?_
  refine zh1 rfl ?_; refine rn2 ?_
  refine zP (q_binb (b := true) rfl rfl rfl (by rw [e2]; rfl)) ?_
  refine zh1 rfl ?_; refine zS ?_; refine zQ ?_
  rfl
 have h33 := of_decide_eq_false h37
 try simp only [List.length_map, Lat.nm] at h33
 obtain ⟨e1, e2⟩ := hCI.2 (by omega)
 refine rn3 ?_; refine zP (q_call awake14_fc rfl rfl rfl) ?_; refine rn2 ?_
 refine zP (q_binb (b := true) rfl rfl rfl (by rw [e1]; rfl)) ?_
 refine zh1 rfl ?_; refine rn3 ?_
 refine zP (q_binb (b := true) rfl rfl rfl (by rw [e2]; simp)) ?_
 refine zh1 rfl ?_; refine zS ?_; refine zQ ?_
 rfl
set_option maxRecDepth 100000 in
set_option maxHeartbeats 1000000 in
theorem lawCount_4 (lo hi : Int) (nm : List Nm) (ps : List Lat) (rs : List Ru) (hc : checkX (.mk 4 lo hi nm ps rs) = 0) (hF : finB (.mk 4 lo hi nm ps rs) = true) : FC Tryz.prog 4 [.agg (latL (.mk 4 lo hi nm ps rs))] (bl true) := by
 refine fc_of_awp [2] Tryz.func4 rfl rfl 170 Tryz.ntmps4 (Nat.le_of_ble_eq_true rfl) ?_
 intro E hN
 have hCI := cnt_set hc hF rfl
 simp only [Lat.nm] at hCI
 have hn32 : nm.length ≤ 32 := nm_32 hc
 refine rn8 ?_; refine zP (q_call (cnt_fc (.mk 4 lo hi nm ps rs)) rfl rfl rfl) ?_; refine rn10 ?_
 refine zP (q_call (by have h := r9Check_fc (.mk 4 lo hi nm ps rs); rw [hc] at h; exact h) rfl rfl rfl) ?_
 refine rn2 ?_; refine c_false rfl rfl ?_; refine rn5 ?_
 refine zP (q_call (fcb (c := true) (rfin_fc (.mk 4 lo hi nm ps rs) (check_ok hc)) hF) rfl rfl rfl) ?_; refine rn2 ?_; refine c_false rfl rfl ?_
 refine rn18 ?_; refine c_false rfl rfl ?_; refine rn4 ?_; refine c_false rfl rfl ?_; refine rn5 ?_; refine c_false rfl rfl ?_; refine rn5 ?_
 refine c_true rfl rfl ?_; refine rn5 ?_
 refine awp_loop (fun x : {i : Nat // i ≤ nm.length ∧ True} => ⟨[(1, .ptr 0 0), (3, i64 (cnt (.mk 4 lo hi nm ps rs) : Nat)), (4, i64 (cerr (.mk 4 lo hi nm ps rs))), (5, i64 (wantM 2 x.1 : Nat)), (12, i64 (x.1 : Nat))], [(0, .var 26 (latL (.mk 4 lo hi nm ps rs)))], 1⟩) (fun x => nm.length - x.1) (⟨0, Nat.zero_le _, by trivial⟩) ?_ ?_
 ·
  exact weak_scrub' rfl (zz4 (zz1 trivial)) ⟨rfl, rfl, rfl, trivial⟩
 rintro ⟨i, hi, gi⟩
 dsimp only
 refine rn9 ?_
 refine zq ?_ ?_ <;> intro h25
 ·
  have lti : i < nm.length := by simpa [Lat.nm] using h25
  refine rn6 ?_; refine zP (q_min rfl rfl rfl) ?_; refine rn4 ?_; refine zP (q_addi rfl rfl rfl (by omega)) ?_; refine zS ?_; refine aops_nil ?_
  exact ⟨⟨i + 1, lti, trivial⟩, weak_scrub' rfl (zz3 ⟨(cgI (by rw [wantM]; have h1 := wantM_le 2 i; rw [wrap_small (by omega) (by omega)]; split <;> omega)), rfl, (cgI (by dsimp only; omega)), rfl, trivial⟩) ⟨rfl, rfl, rfl, trivial⟩, by dsimp only; omega⟩
 have gei : nm.length ≤ i := by simpa [Lat.nm] using h25
 obtain rfl : nm.length = i := by omega
 refine rn7 ?_
 refine zq ?_ ?_ <;> intro h29
 ·
  have h33 := of_decide_eq_true h29
  try simp only [List.length_map, Lat.nm] at h33
  obtain ⟨e1, e2⟩ := hCI.1 (by omega)
  refine zG ?_; refine zP (q_call awake14_fc rfl rfl rfl) ?_; refine rn2 ?_
  refine zP (q_binb (b := true) rfl rfl rfl (by rw [e1]; rfl)) ?_
  refine zh1 rfl ?_; refine rn2 ?_
  refine zP (q_binb (b := true) rfl rfl rfl (by rw [e2]; rfl)) ?_
  refine zh1 rfl ?_; refine zS ?_; refine zQ ?_
  rfl
 have h33 := of_decide_eq_false h29
 try simp only [List.length_map, Lat.nm] at h33
 obtain ⟨e1, e2⟩ := hCI.2 (by omega)
 refine rn3 ?_; refine zP (q_call awake14_fc rfl rfl rfl) ?_; refine rn2 ?_
 refine zP (q_binb (b := true) rfl rfl rfl (by rw [e1]; rfl)) ?_
 refine zh1 rfl ?_; refine rn3 ?_
 refine zP (q_binb (b := true) rfl rfl rfl (by rw [e2]; simp)) ?_
 refine zh1 rfl ?_; refine zS ?_; refine zQ ?_
 rfl
set_option maxRecDepth 100000 in
set_option maxHeartbeats 1000000 in
theorem lawCount_8 (lo hi : Int) (nm : List Nm) (ps : List Lat) (rs : List Ru) (hc : checkX (.mk 8 lo hi nm ps rs) = 0) (hF : finB (.mk 8 lo hi nm ps rs) = true) : FC Tryz.prog 4 [.agg (latL (.mk 8 lo hi nm ps rs))] (bl true) := by
 refine fc_of_awp [2] Tryz.func4 rfl rfl 170 Tryz.ntmps4 (Nat.le_of_ble_eq_true rfl) ?_
 intro E hN
 obtain ⟨hn64, hCI⟩ := cnt_flat hc hF rfl
 simp only [Lat.nm] at hn64 hCI
 refine rn8 ?_; refine zP (q_call (cnt_fc (.mk 8 lo hi nm ps rs)) rfl rfl rfl) ?_; refine rn10 ?_
 refine zP (q_call (by have h := r9Check_fc (.mk 8 lo hi nm ps rs); rw [hc] at h; exact h) rfl rfl rfl) ?_
 refine rn2 ?_; refine c_false rfl rfl ?_; refine rn5 ?_
 refine zP (q_call (fcb (c := true) (rfin_fc (.mk 8 lo hi nm ps rs) (check_ok hc)) hF) rfl rfl rfl) ?_; refine rn2 ?_; refine c_false rfl rfl ?_
 refine rn18 ?_; refine c_false rfl rfl ?_; refine rn4 ?_; refine c_false rfl rfl ?_; refine rn5 ?_; refine c_false rfl rfl ?_; refine rn5 ?_
 refine c_false rfl rfl ?_; refine rn5 ?_; refine c_true rfl rfl ?_; refine rn4 ?_
 refine zP (q_addi rfl rfl rfl (by simp only [List.length_map]; have : (Lat.mk 8 lo hi nm ps rs).nm.length ≤ 64 := hn64; omega)) ?_
 refine rn8 ?_
 refine zq ?_ ?_ <;> intro h22
 ·
  have h33 := of_decide_eq_true h22
  try simp only [List.length_map, Lat.nm] at h33
  obtain ⟨e1, e2⟩ := hCI.1 (by omega)
  refine zG ?_; refine zP (q_call awake14_fc rfl rfl rfl) ?_; refine rn2 ?_
  refine zP (q_binb (b := true) rfl rfl rfl (by rw [e1]; rfl)) ?_
  refine zh1 rfl ?_; refine rn2 ?_
  refine zP (q_binb (b := true) rfl rfl rfl (by rw [e2]; rfl)) ?_
  refine zh1 rfl ?_; refine zS ?_; refine zQ ?_
  rfl
 have h33 := of_decide_eq_false h22
 try simp only [List.length_map, Lat.nm] at h33
 obtain ⟨e1, e2⟩ := hCI.2 (by omega)
 refine rn3 ?_; refine zP (q_call awake14_fc rfl rfl rfl) ?_; refine rn2 ?_
 refine zP (q_binb (b := true) rfl rfl rfl (by rw [e1]; rfl)) ?_
 refine zh1 rfl ?_; refine rn3 ?_
 refine zP (q_binb (b := true) rfl rfl rfl (by rw [e2]; simp [Lat.nm])) ?_
 refine zh1 rfl ?_; refine zS ?_; refine zQ ?_
 rfl
set_option maxRecDepth 100000 in
set_option maxHeartbeats 1000000 in
theorem lawCount_1a (lo hi : Int) (nm : List Nm) (ps : List Lat) (rs : List Ru) (hc : checkX (.mk 1 lo hi nm ps rs) = 0) (hF : finB (.mk 1 lo hi nm ps rs) = true) (e1 : cerr (.mk 1 lo hi nm ps rs) = 0) (e2 : 1 ≤ cnt (.mk 1 lo hi nm ps rs)) (h256 : cnt (.mk 1 lo hi nm ps rs) ≤ 256) : FC Tryz.prog 4 [.agg (latL (.mk 1 lo hi nm ps rs))] (bl true) := by
 refine fc_of_awp [2] Tryz.func4 rfl rfl 170 Tryz.ntmps4 (Nat.le_of_ble_eq_true rfl) ?_
 intro E hN
 refine rn8 ?_; refine zP (q_call (cnt_fc (.mk 1 lo hi nm ps rs)) rfl rfl rfl) ?_; refine rn10 ?_
 refine zP (q_call (by have h := r9Check_fc (.mk 1 lo hi nm ps rs); rw [hc] at h; exact h) rfl rfl rfl) ?_
 refine rn2 ?_; refine c_false rfl rfl ?_; refine rn5 ?_
 refine zP (q_call (fcb (c := true) (rfin_fc (.mk 1 lo hi nm ps rs) (check_ok hc)) hF) rfl rfl rfl) ?_; refine rn2 ?_; refine c_false rfl rfl ?_
 refine rn18 ?_; refine c_false rfl rfl ?_; refine rn4 ?_; refine c_false rfl rfl ?_; refine rn5 ?_; refine c_false rfl rfl ?_; refine rn5 ?_
 refine c_false rfl rfl ?_; refine rn5 ?_; refine c_false rfl rfl ?_; refine zG ?_; refine zP (q_call awake14_fc rfl rfl rfl) ?_; refine rn2 ?_
 refine zP (q_binb (b := true) rfl rfl rfl (by rw [e1]; rfl)) ?_
 refine rn2 ?_
 refine zP (q_binb (b := true) rfl rfl rfl (by simp; omega)) ?_
 refine zh1 rfl ?_; refine rn2 ?_
 refine zP (q_binb (b := true) rfl rfl rfl (by simp; omega)) ?_
 refine zh1 rfl ?_; refine rn7 ?_; refine zh1 rfl ?_; refine zh1 rfl ?_; refine zS ?_; refine zQ ?_
 rfl
set_option maxRecDepth 100000 in
set_option maxHeartbeats 1000000 in
theorem lawCount_1b (lo hi : Int) (nm : List Nm) (ps : List Lat) (rs : List Ru) (hc : checkX (.mk 1 lo hi nm ps rs) = 0) (hF : finB (.mk 1 lo hi nm ps rs) = true) (e1 : cerr (.mk 1 lo hi nm ps rs) = 6) (e2 : cnt (.mk 1 lo hi nm ps rs) = 0) : FC Tryz.prog 4 [.agg (latL (.mk 1 lo hi nm ps rs))] (bl true) := by
 refine fc_of_awp [2] Tryz.func4 rfl rfl 170 Tryz.ntmps4 (Nat.le_of_ble_eq_true rfl) ?_
 intro E hN
 refine rn8 ?_; refine zP (q_call (cnt_fc (.mk 1 lo hi nm ps rs)) rfl rfl rfl) ?_; refine rn10 ?_
 refine zP (q_call (by have h := r9Check_fc (.mk 1 lo hi nm ps rs); rw [hc] at h; exact h) rfl rfl rfl) ?_
 refine rn2 ?_; refine c_false rfl rfl ?_; refine rn5 ?_
 refine zP (q_call (fcb (c := true) (rfin_fc (.mk 1 lo hi nm ps rs) (check_ok hc)) hF) rfl rfl rfl) ?_; refine rn2 ?_; refine c_false rfl rfl ?_
 refine rn18 ?_; refine c_false rfl rfl ?_; refine rn4 ?_; refine c_false rfl rfl ?_; refine rn5 ?_; refine c_false rfl rfl ?_; refine rn5 ?_
 refine c_false rfl rfl ?_; refine rn5 ?_; refine c_false rfl rfl ?_; refine zG ?_; refine zP (q_call awake14_fc rfl rfl rfl) ?_; refine rn2 ?_
 refine zP (q_binb (b := false) rfl rfl rfl (by rw [e1]; rfl)) ?_
 refine rn3 ?_; refine zh0 rfl ?_; refine rn3 ?_; refine zh0 rfl ?_; refine rn2 ?_
 refine zP (q_binb (b := true) rfl rfl rfl (by rw [e1]; rfl)) ?_
 refine rn2 ?_
 refine zP (q_binb (b := true) rfl rfl rfl (by rw [e2]; rfl)) ?_
 refine zh1 rfl ?_; refine zh0 rfl ?_; refine zh1 rfl ?_; refine zS ?_; refine zQ ?_
 rfl
set_option maxRecDepth 100000 in
set_option maxHeartbeats 1000000 in
theorem lawCount_2a (lo hi : Int) (nm : List Nm) (ps : List Lat) (rs : List Ru) (hc : checkX (.mk 2 lo hi nm ps rs) = 0) (hF : finB (.mk 2 lo hi nm ps rs) = true) (e1 : cerr (.mk 2 lo hi nm ps rs) = 0) (e2 : 1 ≤ cnt (.mk 2 lo hi nm ps rs)) (h256 : cnt (.mk 2 lo hi nm ps rs) ≤ 256) : FC Tryz.prog 4 [.agg (latL (.mk 2 lo hi nm ps rs))] (bl true) := by
 refine fc_of_awp [2] Tryz.func4 rfl rfl 170 Tryz.ntmps4 (Nat.le_of_ble_eq_true rfl) ?_
 intro E hN
 refine rn8 ?_; refine zP (q_call (cnt_fc (.mk 2 lo hi nm ps rs)) rfl rfl rfl) ?_; refine rn10 ?_
 refine zP (q_call (by have h := r9Check_fc (.mk 2 lo hi nm ps rs); rw [hc] at h; exact h) rfl rfl rfl) ?_
 refine rn2 ?_; refine c_false rfl rfl ?_; refine rn5 ?_
 refine zP (q_call (fcb (c := true) (rfin_fc (.mk 2 lo hi nm ps rs) (check_ok hc)) hF) rfl rfl rfl) ?_; refine rn2 ?_; refine c_false rfl rfl ?_
 refine rn18 ?_; refine c_false rfl rfl ?_; refine rn4 ?_; refine c_false rfl rfl ?_; refine rn5 ?_; refine c_false rfl rfl ?_; refine rn5 ?_
 refine c_false rfl rfl ?_; refine rn5 ?_; refine c_false rfl rfl ?_; refine zG ?_; refine zP (q_call awake14_fc rfl rfl rfl) ?_; refine rn2 ?_
 refine zP (q_binb (b := true) rfl rfl rfl (by rw [e1]; rfl)) ?_
 refine rn2 ?_
 refine zP (q_binb (b := true) rfl rfl rfl (by simp; omega)) ?_
 refine zh1 rfl ?_; refine rn2 ?_
 refine zP (q_binb (b := true) rfl rfl rfl (by simp; omega)) ?_
 refine zh1 rfl ?_; refine rn7 ?_; refine zh1 rfl ?_; refine zh1 rfl ?_; refine zS ?_; refine zQ ?_
 rfl
set_option maxRecDepth 100000 in
set_option maxHeartbeats 1000000 in
theorem lawCount_2b (lo hi : Int) (nm : List Nm) (ps : List Lat) (rs : List Ru) (hc : checkX (.mk 2 lo hi nm ps rs) = 0) (hF : finB (.mk 2 lo hi nm ps rs) = true) (e1 : cerr (.mk 2 lo hi nm ps rs) = 6) (e2 : cnt (.mk 2 lo hi nm ps rs) = 0) : FC Tryz.prog 4 [.agg (latL (.mk 2 lo hi nm ps rs))] (bl true) := by
 refine fc_of_awp [2] Tryz.func4 rfl rfl 170 Tryz.ntmps4 (Nat.le_of_ble_eq_true rfl) ?_
 intro E hN
 refine rn8 ?_; refine zP (q_call (cnt_fc (.mk 2 lo hi nm ps rs)) rfl rfl rfl) ?_; refine rn10 ?_
 refine zP (q_call (by have h := r9Check_fc (.mk 2 lo hi nm ps rs); rw [hc] at h; exact h) rfl rfl rfl) ?_
 refine rn2 ?_; refine c_false rfl rfl ?_; refine rn5 ?_
 refine zP (q_call (fcb (c := true) (rfin_fc (.mk 2 lo hi nm ps rs) (check_ok hc)) hF) rfl rfl rfl) ?_; refine rn2 ?_; refine c_false rfl rfl ?_
 refine rn18 ?_; refine c_false rfl rfl ?_; refine rn4 ?_; refine c_false rfl rfl ?_; refine rn5 ?_; refine c_false rfl rfl ?_; refine rn5 ?_
 refine c_false rfl rfl ?_; refine rn5 ?_; refine c_false rfl rfl ?_; refine zG ?_; refine zP (q_call awake14_fc rfl rfl rfl) ?_; refine rn2 ?_
 refine zP (q_binb (b := false) rfl rfl rfl (by rw [e1]; rfl)) ?_
 refine rn3 ?_; refine zh0 rfl ?_; refine rn3 ?_; refine zh0 rfl ?_; refine rn2 ?_
 refine zP (q_binb (b := true) rfl rfl rfl (by rw [e1]; rfl)) ?_
 refine rn2 ?_
 refine zP (q_binb (b := true) rfl rfl rfl (by rw [e2]; rfl)) ?_
 refine zh1 rfl ?_; refine zh0 rfl ?_; refine zh1 rfl ?_; refine zS ?_; refine zQ ?_
 rfl
set_option maxRecDepth 100000 in
set_option maxHeartbeats 1000000 in
theorem lawCount_3a (lo hi : Int) (nm : List Nm) (ps : List Lat) (rs : List Ru) (hc : checkX (.mk 3 lo hi nm ps rs) = 0) (hF : finB (.mk 3 lo hi nm ps rs) = true) (e1 : cerr (.mk 3 lo hi nm ps rs) = 0) (e2 : 1 ≤ cnt (.mk 3 lo hi nm ps rs)) (h256 : cnt (.mk 3 lo hi nm ps rs) ≤ 256) : FC Tryz.prog 4 [.agg (latL (.mk 3 lo hi nm ps rs))] (bl true) := by
 refine fc_of_awp [2] Tryz.func4 rfl rfl 170 Tryz.ntmps4 (Nat.le_of_ble_eq_true rfl) ?_
 intro E hN
 refine rn8 ?_; refine zP (q_call (cnt_fc (.mk 3 lo hi nm ps rs)) rfl rfl rfl) ?_; refine rn10 ?_
 refine zP (q_call (by have h := r9Check_fc (.mk 3 lo hi nm ps rs); rw [hc] at h; exact h) rfl rfl rfl) ?_
 refine rn2 ?_; refine c_false rfl rfl ?_; refine rn5 ?_
 refine zP (q_call (fcb (c := true) (rfin_fc (.mk 3 lo hi nm ps rs) (check_ok hc)) hF) rfl rfl rfl) ?_; refine rn2 ?_; refine c_false rfl rfl ?_
 refine rn18 ?_; refine c_false rfl rfl ?_; refine rn4 ?_; refine c_false rfl rfl ?_; refine rn5 ?_; refine c_false rfl rfl ?_; refine rn5 ?_
 refine c_false rfl rfl ?_; refine rn5 ?_; refine c_false rfl rfl ?_; refine zG ?_; refine zP (q_call awake14_fc rfl rfl rfl) ?_; refine rn2 ?_
 refine zP (q_binb (b := true) rfl rfl rfl (by rw [e1]; rfl)) ?_
 refine rn2 ?_
 refine zP (q_binb (b := true) rfl rfl rfl (by simp; omega)) ?_
 refine zh1 rfl ?_; refine rn2 ?_
 refine zP (q_binb (b := true) rfl rfl rfl (by simp; omega)) ?_
 refine zh1 rfl ?_; refine rn7 ?_; refine zh1 rfl ?_; refine zh1 rfl ?_; refine zS ?_; refine zQ ?_
 rfl
set_option maxRecDepth 100000 in
set_option maxHeartbeats 1000000 in
theorem lawCount_3b (lo hi : Int) (nm : List Nm) (ps : List Lat) (rs : List Ru) (hc : checkX (.mk 3 lo hi nm ps rs) = 0) (hF : finB (.mk 3 lo hi nm ps rs) = true) (e1 : cerr (.mk 3 lo hi nm ps rs) = 6) (e2 : cnt (.mk 3 lo hi nm ps rs) = 0) : FC Tryz.prog 4 [.agg (latL (.mk 3 lo hi nm ps rs))] (bl true) := by
 refine fc_of_awp [2] Tryz.func4 rfl rfl 170 Tryz.ntmps4 (Nat.le_of_ble_eq_true rfl) ?_
 intro E hN
 refine rn8 ?_; refine zP (q_call (cnt_fc (.mk 3 lo hi nm ps rs)) rfl rfl rfl) ?_; refine rn10 ?_
 refine zP (q_call (by have h := r9Check_fc (.mk 3 lo hi nm ps rs); rw [hc] at h; exact h) rfl rfl rfl) ?_
 refine rn2 ?_; refine c_false rfl rfl ?_; refine rn5 ?_
 refine zP (q_call (fcb (c := true) (rfin_fc (.mk 3 lo hi nm ps rs) (check_ok hc)) hF) rfl rfl rfl) ?_; refine rn2 ?_; refine c_false rfl rfl ?_
 refine rn18 ?_; refine c_false rfl rfl ?_; refine rn4 ?_; refine c_false rfl rfl ?_; refine rn5 ?_; refine c_false rfl rfl ?_; refine rn5 ?_
 refine c_false rfl rfl ?_; refine rn5 ?_; refine c_false rfl rfl ?_; refine zG ?_; refine zP (q_call awake14_fc rfl rfl rfl) ?_; refine rn2 ?_
 refine zP (q_binb (b := false) rfl rfl rfl (by rw [e1]; rfl)) ?_
 refine rn3 ?_; refine zh0 rfl ?_; refine rn3 ?_; refine zh0 rfl ?_; refine rn2 ?_
 refine zP (q_binb (b := true) rfl rfl rfl (by rw [e1]; rfl)) ?_
 refine rn2 ?_
 refine zP (q_binb (b := true) rfl rfl rfl (by rw [e2]; rfl)) ?_
 refine zh1 rfl ?_; refine zh0 rfl ?_; refine zh1 rfl ?_; refine zS ?_; refine zQ ?_
 rfl
set_option maxRecDepth 100000 in
set_option maxHeartbeats 1000000 in
theorem lawCount_10a (lo hi : Int) (nm : List Nm) (ps : List Lat) (rs : List Ru) (hc : checkX (.mk 10 lo hi nm ps rs) = 0) (hF : finB (.mk 10 lo hi nm ps rs) = true) (e1 : cerr (.mk 10 lo hi nm ps rs) = 0) (e2 : 1 ≤ cnt (.mk 10 lo hi nm ps rs)) (h256 : cnt (.mk 10 lo hi nm ps rs) ≤ 256) : FC Tryz.prog 4 [.agg (latL (.mk 10 lo hi nm ps rs))] (bl true) := by
 refine fc_of_awp [2] Tryz.func4 rfl rfl 170 Tryz.ntmps4 (Nat.le_of_ble_eq_true rfl) ?_
 intro E hN
 refine rn8 ?_; refine zP (q_call (cnt_fc (.mk 10 lo hi nm ps rs)) rfl rfl rfl) ?_; refine rn10 ?_
 refine zP (q_call (by have h := r9Check_fc (.mk 10 lo hi nm ps rs); rw [hc] at h; exact h) rfl rfl rfl) ?_
 refine rn2 ?_; refine c_false rfl rfl ?_; refine rn5 ?_
 refine zP (q_call (fcb (c := true) (rfin_fc (.mk 10 lo hi nm ps rs) (check_ok hc)) hF) rfl rfl rfl) ?_; refine rn2 ?_; refine c_false rfl rfl ?_
 refine rn18 ?_; refine c_false rfl rfl ?_; refine rn4 ?_; refine c_false rfl rfl ?_; refine rn5 ?_; refine c_false rfl rfl ?_; refine rn5 ?_
 refine c_false rfl rfl ?_; refine rn5 ?_; refine c_false rfl rfl ?_; refine zG ?_; refine zP (q_call awake14_fc rfl rfl rfl) ?_; refine rn2 ?_
 refine zP (q_binb (b := true) rfl rfl rfl (by rw [e1]; rfl)) ?_
 refine rn2 ?_
 refine zP (q_binb (b := true) rfl rfl rfl (by simp; omega)) ?_
 refine zh1 rfl ?_; refine rn2 ?_
 refine zP (q_binb (b := true) rfl rfl rfl (by simp; omega)) ?_
 refine zh1 rfl ?_; refine rn7 ?_; refine zh1 rfl ?_; refine zh1 rfl ?_; refine zS ?_; refine zQ ?_
 rfl
set_option maxRecDepth 100000 in
set_option maxHeartbeats 1000000 in
theorem lawCount_10b (lo hi : Int) (nm : List Nm) (ps : List Lat) (rs : List Ru) (hc : checkX (.mk 10 lo hi nm ps rs) = 0) (hF : finB (.mk 10 lo hi nm ps rs) = true) (e1 : cerr (.mk 10 lo hi nm ps rs) = 6) (e2 : cnt (.mk 10 lo hi nm ps rs) = 0) : FC Tryz.prog 4 [.agg (latL (.mk 10 lo hi nm ps rs))] (bl true) := by
 refine fc_of_awp [2] Tryz.func4 rfl rfl 170 Tryz.ntmps4 (Nat.le_of_ble_eq_true rfl) ?_
 intro E hN
 refine rn8 ?_; refine zP (q_call (cnt_fc (.mk 10 lo hi nm ps rs)) rfl rfl rfl) ?_; refine rn10 ?_
 refine zP (q_call (by have h := r9Check_fc (.mk 10 lo hi nm ps rs); rw [hc] at h; exact h) rfl rfl rfl) ?_
 refine rn2 ?_; refine c_false rfl rfl ?_; refine rn5 ?_
 refine zP (q_call (fcb (c := true) (rfin_fc (.mk 10 lo hi nm ps rs) (check_ok hc)) hF) rfl rfl rfl) ?_; refine rn2 ?_; refine c_false rfl rfl ?_
 refine rn18 ?_; refine c_false rfl rfl ?_; refine rn4 ?_; refine c_false rfl rfl ?_; refine rn5 ?_; refine c_false rfl rfl ?_; refine rn5 ?_
 refine c_false rfl rfl ?_; refine rn5 ?_; refine c_false rfl rfl ?_; refine zG ?_; refine zP (q_call awake14_fc rfl rfl rfl) ?_; refine rn2 ?_
 refine zP (q_binb (b := false) rfl rfl rfl (by rw [e1]; rfl)) ?_
 refine rn3 ?_; refine zh0 rfl ?_; refine rn3 ?_; refine zh0 rfl ?_; refine rn2 ?_
 refine zP (q_binb (b := true) rfl rfl rfl (by rw [e1]; rfl)) ?_
 refine rn2 ?_
 refine zP (q_binb (b := true) rfl rfl rfl (by rw [e2]; rfl)) ?_
 refine zh1 rfl ?_; refine zh0 rfl ?_; refine zh1 rfl ?_; refine zS ?_; refine zQ ?_
 rfl
theorem lawFCount_fc (l : Lat) : FC Tryz.prog 4 [.agg (latL l)] (bl true) := by
 by_cases hc : checkX l = 0
 ·cases hF : finB l with
  | false => exact lawCount_i l hc hF
  | true =>
   have hO := check_ok hc
   have hk := kinds hO
   have h5 := fun hk => shape_56 hO hk
   obtain ⟨h256, hle⟩ := cnt_le hc hF
   cases l with
   | mk k lo hi nm ps rs =>
   simp only [Lat.k, Lat.ps] at hk h5
   rcases hk with rfl | rfl | rfl | rfl | rfl | rfl | rfl | rfl | rfl | rfl
   ·rcases hle with ⟨e1, e2⟩ | ⟨e1, e2⟩
    ·exact lawCount_1a lo hi nm ps rs hc hF e1 e2 h256
    exact lawCount_1b lo hi nm ps rs hc hF e1 e2
   ·rcases hle with ⟨e1, e2⟩ | ⟨e1, e2⟩
    ·exact lawCount_2a lo hi nm ps rs hc hF e1 e2 h256
    exact lawCount_2b lo hi nm ps rs hc hF e1 e2
   ·rcases hle with ⟨e1, e2⟩ | ⟨e1, e2⟩
    ·exact lawCount_3a lo hi nm ps rs hc hF e1 e2 h256
    exact lawCount_3b lo hi nm ps rs hc hF e1 e2
   ·exact lawCount_4 lo hi nm ps rs hc hF
   ·obtain ⟨q, rfl⟩ := h5 rfl
    exact lawCount_5 lo hi nm q rs hc hF
   ·exact lawCount_6 lo hi nm ps rs hc hF
   ·exact lawCount_7 lo hi nm ps rs hc hF
   ·exact lawCount_8 lo hi nm ps rs hc hF
   ·rw [finB_eq] at hF; simp [Lat.k] at hF
   rcases hle with ⟨e1, e2⟩ | ⟨e1, e2⟩
   ·exact lawCount_10a lo hi nm ps rs hc hF e1 e2 h256
   exact lawCount_10b lo hi nm ps rs hc hF e1 e2
 exact lawCount_c l hc
end Go.Proofs.YtaecccdkjmipeaaGreat
