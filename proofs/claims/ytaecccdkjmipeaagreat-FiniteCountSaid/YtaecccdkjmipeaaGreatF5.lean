/-
  Contracts: finite.Irreducibles, Distributive, slices.Max (seat r5).
  Contracts: finite.Distributive, slices.Max, finite.Height (seat r5).
  Contracts: finite.Height (seat r5).
-/
import Derived.Test.YtaecccdkjmipeaaGreatF4
namespace Go.Proofs.YtaecccdkjmipeaaGreat
open Go.RowKit
/-- how often each element is the second of one of these pairs -/
def lowR (n : Nat) (L : List (Nat × Nat)) : List (List AV) := (List.range n).map fun i => nvv1 (lowN L i)
theorem lowR_len {n : Nat} {L : List (Nat × Nat)} : (lowR n L).length = n := by simp [lowR]
theorem lowR_at {n : Nat} {L : List (Nat × Nat)} {i : Nat} (hi : i < n) : (lowR n L)[i]? = some (nvv1 (lowN L i)) := by simp [lowR, hi]
theorem lowN_one (L : List (Nat × Nat)) (e : Nat × Nat) (i : Nat) : lowN (L ++ [e]) i = lowN L i + if e.2 = i then 1 else 0 := by
 unfold lowN
 rw [List.countP_append]
 by_cases h : e.2 = i <;> simp [h]
theorem lowR_set {n : Nat} {L : List (Nat × Nat)} {k : Nat} {e : Nat × Nat} (hk : L[k]? = some e) (he : e.2 < n) : (lowR n (L.take k)).set e.2 [i64 ((lowN (L.take k) e.2 : Nat) + 1)] = lowR n (L.take (k + 1)) := by
 have ht : L.take (k + 1) = L.take k ++ [e] := by rw [List.take_add_one, hk]; rfl
 rw [ht]
 refine List.ext_getElem (by simp [lowR]) fun i h1 h2 => ?_
 rw [List.getElem_set]
 simp only [lowR, List.getElem_map, List.getElem_range, lowN_one]
 split
 ·rename_i h; subst h; rfl
 rfl
theorem cov_mem {n : Nat} {f : Nat → Nat → Nat} {k : Nat} {e : Nat × Nat} (h : (covL n f)[k]? = some e) : e.1 < n ∧ e.2 < n ∧ cov n f e.1 e.2 = true := by
 have hm := List.mem_of_getElem? h
 unfold covL at hm
 obtain ⟨a, ha, hx⟩ := List.mem_flatMap.1 hm
 unfold covR at hx
 obtain ⟨b, hb, rfl⟩ := List.mem_map.1 hx
 obtain ⟨h1, h2⟩ := List.mem_filter.1 hb
 exact ⟨List.mem_range.1 ha, List.mem_range.1 h1, h2⟩
theorem low_le (L : List (Nat × Nat)) (i k : Nat) : lowN (L.take k) i ≤ k := by
 have h1 : lowN (L.take k) i ≤ (L.take k).length := List.countP_le_length
 have h2 : (L.take k).length ≤ k := by rw [List.length_take]; omega
 omega
/-- the irreducible elements below k -/
def irrK (n : Nat) (f : Nat → Nat → Nat) (k : Nat) : List Nat := (List.range k).filter fun i => lowN (covL n f) i == 1
theorem irrK_yes {n : Nat} {f : Nat → Nat → Nat} {k : Nat} (h : lowN (covL n f) k = 1) : irrK n f (k + 1) = irrK n f k ++ [k] := by
 unfold irrK; rw [List.range_succ, List.filter_append]; simp [h]
theorem irrK_no {n : Nat} {f : Nat → Nat → Nat} {k : Nat} (h : ¬ lowN (covL n f) k = 1) : irrK n f (k + 1) = irrK n f k := by
 unfold irrK; rw [List.range_succ, List.filter_append]; simp [h]
theorem irrK_len (n : Nat) (f : Nat → Nat → Nat) (k : Nat) : (irrK n f k).length ≤ k := by
 have := List.length_filter_le (fun i => lowN (covL n f) i == 1) (List.range k)
 rwa [List.length_range] at this
theorem chunk_nvv (i : Nat) : chunkA 1 1 [AV.p (.int .i64 i)] = [nvv1 i] := rfl
theorem pr_get {L : List (Nat × Nat)} {k : Nat} {e : Nat × Nat} (h : L[k]? = some e) : (L.map pr2)[k]? = some (pr2 e) := map_get h
set_option maxRecDepth 100000 in
set_option maxHeartbeats 1000000 in
theorem fIrr_fc (n : Nat) (f : Nat → Nat → Nat) (ht : TabOf (tab n f) n f) (hu : FC Tryz.prog 63 [tabs (tab n f)] (i64 0)) : FC Tryz.prog 31 [tabs (tab n f)] (.tup [nvs (irrL n f), i64 0]) := by
 refine fc_of_awp [2, 3] Tryz.func31 rfl rfl 49 Tryz.ntmps31 (Nat.le_of_ble_eq_true rfl) ?_
 intro E hN
 have h256 := ht.le
 have hlt := ht.lt
 have h1n := ht.pos
 refine rn9 ?_; refine zP (q_call hu rfl rfl rfl) ?_; refine rn7 ?_; refine c_false rfl rfl ?_; refine rn5 ?_
 refine s_makeN hN rfl (k := 1) (zs := [.int .i64 0]) rfl (y := 8) (by kernel_rfl) rfl rfl (n := n) (cgI (by simp [tab])) (cgI (by simp [tab])) (by omega) rfl rfl rfl rfl ?_
 refine rn6 ?_; refine zP (q_call (fcovers_fc n f ht) rfl rfl rfl) ?_; refine rn4 ?_
 refine awp_loop (fun x : {k : Nat // k ≤ (covL n f).length ∧ True} => ⟨[(0, tabs (tab n f)), (5, .own 0 n), (20, prs (covL n f)), (21, i64 (covL n f).length), (22, i64 (x.1 : Nat))], [(0, .arr 3 1 (lowR n ((covL n f).take x.1)))], 1⟩) (fun x => (covL n f).length - x.1) (⟨0, Nat.zero_le _, by trivial⟩) ?_ ?_
 ·
  exact weak_scrub' rfl (zz3 ⟨(cgI (by simp)), rfl, (zz1 trivial)⟩) ⟨(cgA (by rw [rep_map]; rfl)), rfl, (ok_arr (fun _ => rfl) _), trivial⟩
 rintro ⟨k, hk, gk⟩
 dsimp only
 refine a_lm 20 rfl (fun hl20 => ?_)
 refine rn5 ?_
 refine zq ?_ ?_ <;> intro h13
 ·
  have ltk : k < (covL n f).length := by simpa using h13
  obtain ⟨e, hke⟩ := get_lt ltk
  have he := cov_mem hke
  refine rn5 ?_; refine zP (q_elem rfl rfl rfl k rfl _ (pr_get hke) rfl) ?_; refine rn6 ?_; refine zP (q_arr rfl rfl rfl 1 rfl (by decide) rfl rfl) ?_
  refine zL ?_; refine zP (q_eown rfl rfl rfl rfl lowR_len.symm e.2 rfl he.2.1) ?_
  refine zP (q_loadO rfl rfl rfl lowR_len.symm (by intro x hx; obtain ⟨q, -, rfl⟩ := List.mem_map.1 hx; rfl) e.2 rfl (lowR_at he.2.1) (fun _ => rfl) rfl) ?_
  refine zP (q_addi rfl rfl rfl (by have := low_le (covL n f) e.2 k; omega)) ?_
  refine zP (q_eown rfl rfl rfl rfl lowR_len.symm e.2 rfl he.2.1) ?_
  refine s_storeO hN rfl rfl rfl lowR_len.symm e.2 rfl (by rw [lowR_len]; exact he.2.1) rfl rfl rfl rfl (by intro x hx; obtain ⟨q, -, rfl⟩ := List.mem_map.1 hx; rfl) rfl rfl rfl rfl ?_
  refine rn2 ?_; refine zP (q_addi rfl rfl rfl (by omega)) ?_; refine zM ?_; refine aops_nil ?_
  exact ⟨⟨k + 1, ltk, trivial⟩, weak_scrub' rfl (zz4 ⟨(cgI (by dsimp only; omega)), rfl, trivial⟩) ⟨(cgA (by exact lowR_set hke he.2.1)), rfl, (ok_arr (fun _ => rfl) _), trivial⟩, by dsimp only; omega⟩
 have gek : (covL n f).length ≤ k := by simpa using h13
 refine rn7 ?_
 refine awp_weak (weak_frow 5 0 rfl (es := lowR n (covL n f)) (by exact cgA (by rw [List.take_of_length_le gek])) lowR_len.symm (okE_map (fun _ => rfl) _) (fz_map (fun _ => rfl) _) rfl) ?_
 refine rn6 ?_; refine awp_weak (weak_tok rfl 8 3 1 rfl) ?_
 refine awp_loop (fun x : {k : Nat // k ≤ n ∧ True} => ⟨[(34, .sl (lowR n (covL n f)) none), (35, i64 n), (36, i64 (x.1 : Nat)), (8, .sl ((irrK n f x.1).map nvv1) (some 1))], [(1, .tok 3 1 (irrK n f x.1).length)], 2⟩) (fun x => n - x.1) (⟨0, Nat.zero_le _, by trivial⟩) ?_ ?_
 ·
  exact weak_scrub' rfl (zz1 ⟨(cgI (by simp [lowR])), rfl, (zz2 trivial)⟩) ⟨rfl, rfl, rfl, trivial⟩
 rintro ⟨k, hk, gk⟩
 dsimp only
 refine rn5 ?_
 refine zq ?_ ?_ <;> intro h31
 ·
  have ltk : k < n := by simpa using h31
  refine rn6 ?_; refine zP (q_elem rfl rfl rfl k rfl _ (lowR_at ltk) rfl) ?_; refine rn9 ?_
  refine zq ?_ ?_ <;> intro h34
  ·
   have h14 : lowN (covL n f) k = 1 := by have := h34; simp at this; omega
   refine rn3 ?_; refine zP (q_bslice rfl rfl rfl rfl (by exact rfl) (by decide) (by decide)) ?_
   refine s_append_tok hN rfl rfl rfl (by simp) rfl rfl (okE_map (fun _ => rfl) _) rfl (by have := irrK_len n f k; constructor <;> simp [chunk_nvv] <;> omega) rfl rfl rfl rfl ?_
   refine rn3 ?_; refine zP (q_addi rfl rfl rfl (by omega)) ?_; refine zM ?_; refine aops_nil ?_
   exact ⟨⟨k + 1, ltk, trivial⟩, weak_scrub' rfl (zz2 ⟨(cgI (by dsimp only; omega)), rfl, (cgSq (by first | rw [irrK_no h14] | (rw [irrK_yes h14]; simp [chunk_nvv]))), rfl, trivial⟩) ⟨(cgT (by first | rw [irrK_no h14] | (rw [irrK_yes h14]; simp [chunk_nvv]))), rfl, rfl, trivial⟩, by dsimp only; omega⟩
  have h14 : ¬ lowN (covL n f) k = 1 := by have := h34; simp at this; omega
  refine rn2 ?_; refine zP (q_addi rfl rfl rfl (by omega)) ?_; refine zM ?_; refine aops_nil ?_
  exact ⟨⟨k + 1, ltk, trivial⟩, weak_scrub' rfl (zz2 ⟨(cgI (by dsimp only; omega)), rfl, (cgSq (by first | rw [irrK_no h14] | (rw [irrK_yes h14]; simp [chunk_nvv]))), rfl, trivial⟩) ⟨(cgT (by first | rw [irrK_no h14] | (rw [irrK_yes h14]; simp [chunk_nvv]))), rfl, rfl, trivial⟩, by dsimp only; omega⟩
 have gek : n ≤ k := by simpa using h31
 obtain rfl : n = k := by omega
 refine rn6 ?_; refine zQ ?_
 rfl
end Go.Proofs.YtaecccdkjmipeaaGreat

namespace Go.Proofs.YtaecccdkjmipeaaGreat
open Go.RowKit
theorem tmeet_lt {n : Nat} {f : Nat → Nat → Nat} (h1 : 1 ≤ n) (hlt : ∀ i j, i < n → j < n → f i j < n) (i j : Nat) : tmeetF n f i j < n := meetK_lt hlt (bot_lt h1) i j n (Nat.le_refl n)
def d1 (n : Nat) (f : Nat → Nat → Nat) (i j k : Nat) : Option Unit := if dist3 f (tmeetF n f) i j k = true then none else some ()
def dX (n : Nat) (f : Nat → Nat → Nat) : Option Unit := ff (fun i => ff (fun j => ff (d1 n f i j) n 0) n 0) n 0
theorem dX_none (n : Nat) (f : Nat → Nat → Nat) : dX n f = none ↔ tdistB n f = true := by
 unfold dX tdistB
 simp only [ff_none, List.all_eq_true, List.mem_range, d1, Nat.zero_le, true_implies]
 refine forall_congr' fun i => forall_congr' fun _ => forall_congr' fun j => forall_congr' fun _ => forall_congr' fun k => forall_congr' fun _ => ?_
 split <;> simp_all
theorem dX_yes {n : Nat} {f : Nat → Nat → Nat} (h : dX n f = none) : tdistB n f = true := (dX_none n f).1 h
theorem dX_no {n : Nat} {f : Nat → Nat → Nat} (h : dX n f = some ()) : tdistB n f = false := by
 rw [Bool.eq_false_iff]
 intro h2
 rw [(dX_none n f).2 h2] at h; cases h
set_option maxRecDepth 100000 in
set_option maxHeartbeats 1000000 in
theorem fDist_fc (n : Nat) (f : Nat → Nat → Nat) (ht : TabOf (tab n f) n f) (hu : FC Tryz.prog 63 [tabs (tab n f)] (i64 0)) : FC Tryz.prog 35 [tabs (tab n f)] (.tup [bl (tdistB n f), i64 0]) := by
 refine fc_of_awp [2, 3] Tryz.func35 rfl rfl 67 Tryz.ntmps35 (Nat.le_of_ble_eq_true rfl) ?_
 intro E hN
 have h256 := ht.le
 have hlt := ht.lt
 have h1n := ht.pos
 have hm := tmeet_lt h1n hlt
 refine rn9 ?_; refine zP (q_call hu rfl rfl rfl) ?_; refine rn7 ?_; refine c_false rfl rfl ?_; refine rn4 ?_
 refine zP (q_call (fmeets_fc n f ht) rfl rfl rfl) ?_; refine rn10 ?_
 refine awp_loop (fun x : {i : Nat // i ≤ n ∧ ff (fun i => ff (fun j => ff (d1 n f i j) n 0) n 0) n i = dX n f} => ⟨[(0, tabs (tab n f)), (5, tabs (tab n (tmeetF n f))), (17, i64 n), (18, i64 (x.1 : Nat))], [], 0⟩) (fun x => n - x.1) (⟨0, Nat.zero_le _, by rfl⟩) ?_ ?_
 ·
  exact weak_scrub' rfl (zz2 ⟨(cgI (by simp [tab])), rfl, (zz1 trivial)⟩) trivial
 rintro ⟨i, hi, gi⟩
 dsimp only
 refine rn5 ?_
 refine zq ?_ ?_ <;> intro h10
 ·
  have lti : i < n := by simpa using h10
  refine rn15 ?_
  refine awp_loop (fun x : {j : Nat // j ≤ n ∧ (ff (fun j => ff (d1 n f i j) n 0) n j).or (ff (fun i => ff (fun j => ff (d1 n f i j) n 0) n 0) n (i + 1)) = dX n f} => ⟨[(0, tabs (tab n f)), (5, tabs (tab n (tmeetF n f))), (17, i64 n), (18, i64 (i : Nat)), (6, i64 (i : Nat)), (22, i64 n), (23, i64 (x.1 : Nat))], [], 0⟩) (fun x => n - x.1) (⟨0, Nat.zero_le _, by exact fo_in lti gi rfl⟩) ?_ ?_
  ·
   exact weak_scrub' rfl (zz4 (zz1 ⟨(cgI (by simp [tab])), rfl, (zz1 trivial)⟩)) trivial
  rintro ⟨j, hj, gj⟩
  dsimp only
  refine rn5 ?_
  refine zq ?_ ?_ <;> intro h19
  ·
   have ltj : j < n := by simpa using h19
   refine rn15 ?_
   refine awp_loop (fun x : {k : Nat // k ≤ n ∧ (ff (d1 n f i j) n k).or ((ff (fun j => ff (d1 n f i j) n 0) n (j + 1)).or (ff (fun i => ff (fun j => ff (d1 n f i j) n 0) n 0) n (i + 1))) = dX n f} => ⟨[(0, tabs (tab n f)), (5, tabs (tab n (tmeetF n f))), (17, i64 n), (18, i64 (i : Nat)), (6, i64 (i : Nat)), (22, i64 n), (23, i64 (j : Nat)), (7, i64 (j : Nat)), (27, i64 n), (28, i64 (x.1 : Nat))], [], 0⟩) (fun x => n - x.1) (⟨0, Nat.zero_le _, by rw [← Option.or_assoc]; rw [ff_lt ltj] at gj; exact gj⟩) ?_ ?_
   ·
    exact weak_scrub' rfl (zz4 (zz4 ⟨(cgI (by simp [tab])), rfl, (zz1 trivial)⟩)) trivial
   rintro ⟨k, hk, gk⟩
   dsimp only
   refine rn5 ?_
   refine zq ?_ ?_ <;> intro h31
   ·
    have ltk : k < n := by simpa using h31
    refine rn9 ?_; refine awp_draw 32 (by kernel_rfl) (by kernel_rfl) ?_; refine rn2 ?_; refine zp (q_elem rfl rfl rfl i rfl _ (tab_get lti) rfl) ?_
    refine rn3 ?_; refine zp (q_elem rfl rfl rfl j rfl _ (tab_get ltj) rfl) ?_; refine rn2 ?_
    refine zp (q_elem rfl rfl rfl k rfl _ (rowL_get ltk) rfl) ?_; refine zl ?_
    refine zp (q_elem rfl rfl rfl (f j k) rfl _ (rowL_get (hlt j k ltj ltk)) rfl) ?_; refine rn4 ?_
    refine zp (q_elem rfl rfl rfl i rfl _ (tab_get lti) rfl) ?_; refine rn2 ?_; refine zp (q_elem rfl rfl rfl j rfl _ (rowL_get ltj) rfl) ?_
    refine zl ?_; refine zp (q_elem rfl rfl rfl (tmeetF n f i j) rfl _ (tab_get (hm i j)) rfl) ?_; refine rn3 ?_
    refine zp (q_elem rfl rfl rfl i rfl _ (tab_get lti) rfl) ?_; refine rn2 ?_; refine zp (q_elem rfl rfl rfl k rfl _ (rowL_get ltk) rfl) ?_
    refine zl ?_; refine zp (q_elem rfl rfl rfl (tmeetF n f i k) rfl _ (rowL_get (hm i k)) rfl) ?_; refine zl ?_; change AOps _ _ _ _ _ _
    refine rn2 ?_
    refine zq ?_ ?_ <;> intro h52
    ·
     have h14 : ¬ dist3 f (tmeetF n f) i j k = true := by have := h52; simp [dist3] at this ⊢; omega
     refine rn4 ?_; refine zQ ?_
     rw [dX_no (fo_at ltk gk (by rw [d1, if_neg h14]))]
    have h14 :  dist3 f (tmeetF n f) i j k = true := by have := h52; simp [dist3] at this ⊢; omega
    refine rn2 ?_; refine zP (q_addi rfl rfl rfl (by omega)) ?_; refine zM ?_; refine aops_nil ?_
    exact ⟨⟨k + 1, ltk, fo_go ltk gk (by rw [d1, if_pos h14])⟩, weak_scrub' rfl (zz4 (zz4 (zz1 ⟨(cgI (by dsimp only; omega)), rfl, trivial⟩))) trivial, by dsimp only; omega⟩
   have gek : n ≤ k := by simpa using h31
   refine rn2 ?_; refine zP (q_addi rfl rfl rfl (by omega)) ?_; refine zM ?_; refine aops_nil ?_
   exact ⟨⟨j + 1, ltj, (fo_end gek gk)⟩, weak_scrub' rfl (zz4 (zz2 ⟨(cgI (by dsimp only; omega)), rfl, trivial⟩)) trivial, by dsimp only; omega⟩
  have gej : n ≤ j := by simpa using h19
  refine rn2 ?_; refine zP (q_addi rfl rfl rfl (by omega)) ?_; refine zM ?_; refine aops_nil ?_
  exact ⟨⟨i + 1, lti, (fo_end gej gj)⟩, weak_scrub' rfl (zz3 ⟨(cgI (by dsimp only; omega)), rfl, trivial⟩) trivial, by dsimp only; omega⟩
 have gei : n ≤ i := by simpa using h10
 have e3 := ff_no gei gi
 refine rn5 ?_; refine zQ ?_
 rw [dX_yes e3]
theorem maxL_one {a x : Nat} {l : List Nat} {k : Nat} (h : l[k]? = some x) : maxL a (l.take (k + 1)) = max (maxL a (l.take k)) x := by
 unfold maxL
 rw [List.take_add_one, h, List.foldl_append]; rfl
theorem maxL_take {a : Nat} {l : List Nat} {k : Nat} (h : l.length ≤ k) : maxL a (l.take k) = maxL a l := by rw [List.take_of_length_le h]
set_option maxRecDepth 100000 in
set_option maxHeartbeats 1000000 in
theorem maxI_fc (a : Nat) (l : List Nat) : FC Tryz.prog 66 [nvs (a :: l)] (i64 (maxL a l : Nat)) := by
 refine fc_of_awp [2] Tryz.func66 rfl rfl 25 Tryz.ntmps66 (Nat.le_of_ble_eq_true rfl) ?_
 intro E hN
 refine a_lm 0 rfl (fun hl0 => ?_)
 rw [List.length_cons] at hl0
 refine rn9 ?_
 refine zP (q_binb (b := false) rfl rfl rfl (by simp; omega)) ?_
 refine zN ?_; refine c_false rfl rfl ?_; refine rn4 ?_; refine zP (q_elem rfl rfl rfl 0 rfl (nvv1 a) rfl rfl) ?_; refine rn9 ?_
 refine awp_loop (fun x : {k : Nat // k ≤ l.length ∧ True} => ⟨[(0, nvs (a :: l)), (3, i64 (maxL a (l.take x.1) : Nat)), (4, i64 ((x.1 : Nat) + 1))], [], 0⟩) (fun x => l.length - x.1) (⟨0, Nat.zero_le _, by trivial⟩) ?_ ?_
 ·
  exact weak_scrub' rfl (zz3 trivial) trivial
 rintro ⟨k, hk, gk⟩
 dsimp only
 refine rn8 ?_
 refine zq ?_ ?_ <;> intro h9
 ·
  have ltk : k < l.length := by simpa using h9
  obtain ⟨x, hx⟩ := get_lt ltk
  refine rn7 ?_
  refine zP (q_elem rfl rfl rfl (k + 1) (by omega) (nvv1 x) (by rw [List.map_cons, List.getElem?_cons_succ]; exact map_get hx) rfl) ?_
  refine zL ?_; refine zP (q_max rfl rfl rfl) ?_; refine rn4 ?_; refine zP (q_addi rfl rfl rfl (by omega)) ?_; refine zS ?_; refine aops_nil ?_
  exact ⟨⟨k + 1, ltk, trivial⟩, weak_scrub' rfl (zz1 ⟨(cgI (by rw [maxL_one hx]; omega)), rfl, (cgI (by dsimp only; omega)), rfl, trivial⟩) trivial, by dsimp only; omega⟩
 have gek : l.length ≤ k := by simpa using h9
 refine rn5 ?_; refine zQ ?_
 rw [maxL_take gek]
end Go.Proofs.YtaecccdkjmipeaaGreat

namespace Go.Proofs.YtaecccdkjmipeaaGreat
open Go.RowKit
/-- ranks in a row -/
def rkR (n : Nat) (r : Nat → Nat) : List (List AV) := (List.range n).map fun j => nvv1 (r j)
def upd (r : Nat → Nat) (j v : Nat) : Nat → Nat := fun a => if a = j then v else r a
theorem rkR_len {n : Nat} {r : Nat → Nat} : (rkR n r).length = n := by simp [rkR]
theorem rkR_at {n : Nat} {r : Nat → Nat} {i : Nat} (hi : i < n) : (rkR n r)[i]? = some (nvv1 (r i)) := by simp [rkR, hi]
theorem rkR_set {n : Nat} {r : Nat → Nat} {j v : Nat} : (rkR n r).set j [i64 (v : Nat)] = rkR n (upd r j v) := by
 refine List.ext_getElem (by simp [rkR]) fun i h1 h2 => ?_
 rw [List.getElem_set]
 simp only [rkR, List.getElem_map, List.getElem_range, upd]
 by_cases h : j = i
 ·subst h; simp [nvv1]
 rw [if_neg h, if_neg (fun e => h e.symm)]
theorem rkR_one {n : Nat} {r : Nat → Nat} : ∀ e ∈ rkR n r, e.length = 1 := fun e he => by
 obtain ⟨q, -, rfl⟩ := List.mem_map.1 he; rfl
theorem sum_lt : ∀ {l : List Nat} {g h : Nat → Nat}, (∀ x ∈ l, g x ≤ h x) → (∃ x ∈ l, g x < h x) → (l.map g).sum < (l.map h).sum
 | [], _, _, _, ⟨_, hx, _⟩ => by cases hx
 | a :: l, g, h, h1, ⟨x, hx, h2⟩ => by
  have hle : ∀ l : List Nat, (∀ x ∈ l, g x ≤ h x) → (l.map g).sum ≤ (l.map h).sum := by
   intro l
   induction l with
   | nil => intro _; exact Nat.le_refl _
   | cons b l ih =>
    intro hb
    rw [List.map_cons, List.map_cons, List.sum_cons, List.sum_cons]
    have := hb b (.head _)
    have := ih fun x hx => hb x (.tail _ hx)
    omega
  rw [List.map_cons, List.map_cons, List.sum_cons, List.sum_cons]
  have ha := h1 a (.head _)
  have hl := hle l fun x hx => h1 x (.tail _ hx)
  cases hx with
  | head => omega
  | tail _ hx =>
   have := sum_lt (fun x hx => h1 x (.tail _ hx)) ⟨x, hx, h2⟩
   omega
def dsum (n : Nat) (f : Nat → Nat → Nat) (r : Nat → Nat) : Nat := ((List.range n).map fun j => hF n f j - r j).sum
theorem dsum_lt {n : Nat} {f : Nat → Nat → Nat} {r : Nat → Nat} {j v : Nat} (hj : j < n) (h1 : r j < v) (h2 : v ≤ hF n f j) : dsum n f (upd r j v) < dsum n f r := by
 refine sum_lt (fun x _ => ?_) ⟨j, List.mem_range.2 hj, ?_⟩
 ·unfold upd
  split
  ·rename_i e; subst e; omega
  omega
 unfold upd
 rw [if_pos rfl]; omega
/-- ranks below the heights -/
def RkLe (n : Nat) (f : Nat → Nat → Nat) (r : Nat → Nat) : Prop := ∀ j, j < n → r j ≤ hF n f j
def RkCl (n : Nat) (f : Nat → Nat → Nat) (r : Nat → Nat) (k : Nat) : Prop := ∀ q, q < k → ∀ e, (covL n f)[q]? = some e → r e.1 + 1 ≤ r e.2
theorem rk_upd {n : Nat} {f : Nat → Nat → Nat} {r : Nat → Nat} {j v : Nat} (h : RkLe n f r) (h2 : v ≤ hF n f j) : RkLe n f (upd r j v) := fun i hi => by
 unfold upd
 split
 ·rename_i e; subst e; exact h2
 exact h i hi
theorem rk_cov {n : Nat} {f : Nat → Nat → Nat} {r : Nat → Nat} (h : RkCl n f r (covL n f).length) {i j : Nat} (hi : i < n) (hj : j < n) (hc : cov n f i j = true) : r i + 1 ≤ r j := by
 have hm : (i, j) ∈ covL n f := by
  unfold covL
  refine List.mem_flatMap.2 ⟨i, List.mem_range.2 hi, ?_⟩
  unfold covR
  exact List.mem_map.2 ⟨j, List.mem_filter.2 ⟨List.mem_range.2 hj, hc⟩, rfl⟩
 obtain ⟨q, hq⟩ := List.getElem?_of_mem hm
 exact h q (List.getElem?_eq_some_iff.1 hq).1 _ hq
theorem rk_end {n : Nat} {f : Nat → Nat → Nat} {r : Nat → Nat} (h : RkLe n f r) (hc : RkCl n f r (covL n f).length) : rkR n r = (List.range n).map fun j => nvv1 (hF n f j) := by
 unfold rkR
 refine List.map_congr_left fun j hj => ?_
 have hj := List.mem_range.1 hj
 rw [Nat.le_antisymm (h j hj) (LatF.hF_least (fun i j hi hj => rk_cov hc hi hj) j hj)]
theorem hgt_cons {n : Nat} {f : Nat → Nat → Nat} (h : 1 ≤ n) : ∃ a l, (List.range n).map (hF n f) = a :: l ∧ hgt n f = maxL a l := by
 cases hl : (List.range n).map (hF n f) with
 | nil => have := congrArg List.length hl; simp at this; omega
 | cons a l =>
  refine ⟨a, l, rfl, ?_⟩
  unfold hgt
  rw [hl]
  show maxL (max 0 a) l = _
  rw [Nat.zero_max]
theorem rk_all {n : Nat} {f : Nat → Nat → Nat} {r : Nat → Nat} {k m : Nat} (hk : m ≤ k) (h : RkCl n f r k) : RkCl n f r m := fun q hq => h q (by omega)
theorem mu_lt {a b : Nat} {c c' : Bool} (h : c = true) (h1 : c' = false → a = b) (h2 : c' = true → a < b) : 2 * a + (if c' = true then 1 else 0) < 2 * b + (if c = true then 1 else 0) := by
 subst h
 cases c' with
 | true => have := h2 rfl; simp; omega
 | false => rw [h1 rfl]; simp
theorem rk_next {n : Nat} {f : Nat → Nat → Nat} {r : Nat → Nat} {k : Nat} {e : Nat × Nat} (hk : (covL n f)[k]? = some e) (h : r e.1 + 1 ≤ r e.2) (hc : RkCl n f r k) : RkCl n f r (k + 1) := fun q hq x hx => by
 rcases Nat.lt_or_ge q k with h2 | h2
 ·exact hc q h2 x hx
 obtain rfl : q = k := by omega
 rw [hk] at hx; cases hx; exact h
set_option maxRecDepth 100000 in
set_option maxHeartbeats 1000000 in
theorem fHeight_fc {z : Nat} (n : Nat) (f : Nat → Nat → Nat) (ht : TabOf (tab n f) n f) (Lf : LatF n f z) (hu : FC Tryz.prog 63 [tabs (tab n f)] (i64 0)) : FC Tryz.prog 36 [tabs (tab n f)] (.tup [i64 (hgt n f : Nat), i64 0]) := by
 refine fc_of_awp [2, 3] Tryz.func36 rfl rfl 51 Tryz.ntmps36 (Nat.le_of_ble_eq_true rfl) ?_
 intro E hN
 have h256 := ht.le
 have hlt := ht.lt
 have h1n := ht.pos
 obtain ⟨a, l, hal, hgt0⟩ := hgt_cons (f := f) h1n
 refine rn9 ?_; refine zP (q_call hu rfl rfl rfl) ?_; refine rn7 ?_; refine c_false rfl rfl ?_; refine rn4 ?_
 refine zP (q_call (fcovers_fc n f ht) rfl rfl rfl) ?_; refine rn6 ?_
 refine s_makeN hN rfl (k := 1) (zs := [.int .i64 0]) rfl (y := 8) (by kernel_rfl) rfl rfl (n := n) (cgI (by simp [tab])) (cgI (by simp [tab])) (by omega) rfl rfl rfl rfl ?_
 refine rn8 ?_
 refine awp_loop (fun x : {q : (Nat → Nat) × Bool // RkLe n f q.1 ∧ (q.2 = false → RkCl n f q.1 (covL n f).length)} => ⟨[(5, prs (covL n f)), (6, .own 0 n), (7, bl x.1.2)], [(0, .arr 3 1 (rkR n x.1.1))], 1⟩) (fun x => 2 * dsum n f x.1.1 + (if x.1.2 = true then 1 else 0)) (⟨((fun _ => 0), true), fun _ _ => Nat.zero_le _, fun h => by cases h⟩) ?_ ?_
 ·
  exact weak_scrub' rfl (zz3 trivial) ⟨(cgA (by rw [rep_map]; rfl)), rfl, (ok_arr (fun _ => rfl) _), trivial⟩
 rintro ⟨⟨r, c⟩, hr, hcl⟩
 dsimp only at hr hcl ⊢
 refine rn5 ?_
 refine zq ?_ ?_ <;> intro h9
 ·
  have h7 : c = true := h9
  refine rn13 ?_
  refine awp_loop (fun x : {x : Nat × (Nat → Nat) × Bool // x.1 ≤ (covL n f).length ∧ RkLe n f x.2.1 ∧ (x.2.2 = false → x.2.1 = r ∧ RkCl n f r x.1) ∧ (x.2.2 = true → dsum n f x.2.1 < dsum n f r)} => ⟨[(5, prs (covL n f)), (6, .own 0 n), (7, bl x.1.2.2), (21, prs (covL n f)), (22, i64 (covL n f).length), (23, i64 (x.1.1 : Nat))], [(0, .arr 3 1 (rkR n x.1.2.1))], 1⟩) (fun x => (covL n f).length - x.1.1) (⟨(0, r, false), Nat.zero_le _, hr, fun _ => ⟨rfl, fun q hq => absurd hq (Nat.not_lt_zero _)⟩, fun h => by cases h⟩) ?_ ?_
  ·
   exact weak_scrub' rfl (zz4 ⟨(cgI (by simp)), rfl, (zz1 trivial)⟩) ⟨rfl, rfl, (ok_arr (fun _ => rfl) _), trivial⟩
  rintro ⟨⟨k, r', c'⟩, hk, hrl, hcf, hct⟩
  dsimp only at hk hrl hcf hct ⊢
  refine a_lm 21 rfl (fun hl21 => ?_)
  refine rn5 ?_
  refine zq ?_ ?_ <;> intro h17
  ·
   have ltk : k < (covL n f).length := by simpa using h17
   obtain ⟨e, hke⟩ := get_lt ltk
   have he := cov_mem hke
   have hst := Lf.hF_step he.1 he.2.1 he.2.2
   refine rn5 ?_; refine zP (q_elem rfl rfl rfl k rfl _ (pr_get hke) rfl) ?_; refine rn5 ?_; refine awp_draw 10 (by kernel_rfl) (by kernel_rfl) ?_
   refine zm ?_; refine zp (q_arr rfl rfl rfl 1 rfl (by decide) rfl rfl) ?_; refine zl ?_
   refine zp (q_eown rfl rfl rfl rfl rkR_len.symm e.2 rfl he.2.1) ?_
   refine zp (q_loadO rfl rfl rfl rkR_len.symm rkR_one e.2 rfl (rkR_at he.2.1) (fun _ => rfl) rfl) ?_; refine zm ?_
   refine zp (q_arr rfl rfl rfl 0 rfl (by decide) rfl rfl) ?_; refine zl ?_; refine zp (q_eown rfl rfl rfl rfl rkR_len.symm e.1 rfl he.1) ?_
   refine zp (q_loadO rfl rfl rfl rkR_len.symm rkR_one e.1 rfl (rkR_at he.1) (fun _ => rfl) rfl) ?_; change AOps _ _ _ _ _ _; refine rn2 ?_
   refine zq ?_ ?_ <;> intro h30
   ·
    have h12 : r' e.2 ≤ r' e.1 := by have := h30; simp at this; omega
    have hv2 : r' e.1 + 1 ≤ hF n f e.2 := by have := hrl e.1 he.1; omega
    have hds : dsum n f (upd r' e.2 (r' e.1 + 1)) < dsum n f r := by
     have h1 := dsum_lt he.2.1 (show r' e.2 < r' e.1 + 1 by omega) hv2
     cases c' with
     | true => have := hct rfl; omega
     | false => rw [(hcf rfl).1] at h1 ⊢; exact h1
    refine awp_draw 10 (by kernel_rfl) (by kernel_rfl) ?_; refine zm ?_; refine zp (q_arr rfl rfl rfl 1 rfl (by decide) rfl rfl) ?_; refine rn2 ?_
    refine zp (q_arr rfl rfl rfl 0 rfl (by decide) rfl rfl) ?_; refine zl ?_; refine zp (q_eown rfl rfl rfl rfl rkR_len.symm e.1 rfl he.1) ?_
    refine zp (q_loadO rfl rfl rfl rkR_len.symm rkR_one e.1 rfl (rkR_at he.1) (fun _ => rfl) rfl) ?_
    refine zp (q_addi rfl rfl rfl (by have := Lf.hF_lt he.1; have := hrl e.1 he.1; omega)) ?_
    refine zp (q_eown rfl rfl rfl rfl rkR_len.symm e.2 rfl he.2.1) ?_; change AOps _ _ _ _ _ _
    refine s_storeO hN rfl rfl rfl rkR_len.symm e.2 rfl (by rw [rkR_len]; exact he.2.1) rfl rfl rfl rfl rkR_one rfl rfl rfl rfl ?_
    refine rn3 ?_; refine zP (q_addi rfl rfl rfl (by omega)) ?_; refine zM ?_; refine aops_nil ?_
    exact ⟨⟨(k + 1, upd r' e.2 (r' e.1 + 1), true), ltk, rk_upd hrl hv2, (fun h => by cases h), fun _ => hds⟩, weak_scrub' rfl (zz4 (zz1 ⟨(cgI (by dsimp only; omega)), rfl, trivial⟩)) ⟨(cgA (by first | rfl | exact rkR_set (v := r' e.1 + 1))), rfl, (ok_arr (fun _ => rfl) _), trivial⟩, by dsimp only; omega⟩
   have h12 : r' e.1 + 1 ≤ r' e.2 := by have := h30; simp at this; omega
   refine rn2 ?_; refine zP (q_addi rfl rfl rfl (by omega)) ?_; refine zM ?_; refine aops_nil ?_
   exact ⟨⟨(k + 1, r', c'), ltk, hrl, (fun h => ⟨(hcf h).1, rk_next hke ((hcf h).1 ▸ h12) (hcf h).2⟩), hct⟩, weak_scrub' rfl (zz4 (zz1 ⟨(cgI (by dsimp only; omega)), rfl, trivial⟩)) ⟨(cgA (by first | rfl | exact rkR_set (v := r' e.1 + 1))), rfl, (ok_arr (fun _ => rfl) _), trivial⟩, by dsimp only; omega⟩
  have gek : (covL n f).length ≤ k := by simpa using h17
  refine awp_exit ?_
  exact ⟨⟨(r', c'), hrl, fun h => by have := hcf h; rw [this.1]; exact rk_all gek this.2⟩, weak_scrub' rfl (zz3 trivial) ⟨rfl, rfl, (ok_arr (fun _ => rfl) _), trivial⟩, mu_lt h7 (fun h => congrArg (dsum n f) (hcf h).1) hct⟩
 have h7 : c = false := h9
 refine rn2 ?_
 refine awp_weak (weak_frow 6 0 rfl (es := (a :: l).map nvv1) (by exact cgA (by rw [rk_end hr (hcl h7), ← hal, List.map_map]; rfl)) (by rw [List.length_map, ← hal]; simp) (okE_map (fun _ => rfl) _) (fz_map (fun _ => rfl) _) rfl) ?_
 refine rn2 ?_; refine zP (q_call (maxI_fc a l) rfl rfl rfl) ?_; refine rn2 ?_; refine zQ ?_
 rw [hgt0]
end Go.Proofs.YtaecccdkjmipeaaGreat
