/-
  Contracts: finite.Check, usable, below, covers, Covers, meets, Meets (seat r5).
  Contracts: finite.Covers, meets, Meets (seat r5).
-/
import Derived.Test.YtaecccdkjmipeaaGreatF3
import Derived.Test.YtaecccdkjmipeaaGreatF1
import Derived.Test.YtaecccdkjmipeaaGreatT5
import Derived.Test.YtaecccdkjmipeaaGreatA7
import Derived.Test.YtaecccdkjmipeaaGreatB18
namespace Go.Proofs.YtaecccdkjmipeaaGreat
open Go.RowKit
set_option maxRecDepth 100000 in
set_option maxHeartbeats 1000000 in
theorem fcheckY_fc (n : Nat) (f : Nat → Nat → Nat) (ht : TabOf (tab n f) n f) : FC Tryz.prog 25 [tabs (tab n f)] (.tup [.agg (nat4 (vio n f)), i64 0]) := by
 refine fc_of_awpR [.c 2 48 4 true, .t 3] ⟨⟨inferInstance, rfl⟩, trivial⟩ Tryz.func25 rfl rfl 10 Tryz.ntmps25 (Nat.le_of_ble_eq_true rfl) ?_
 intro E hN
 have h256 := ht.le
 have hlt := ht.lt
 have h1n := ht.pos
 refine rn9 ?_; refine zP (q_call (fcb (c := true) (isTable_fc (tab n f)) ht.is) rfl rfl rfl) ?_; refine rn2 ?_; refine c_false rfl rfl ?_
 refine rn4 ?_; refine zP (q_call (violation_fc n f h256 hlt) rfl rfl rfl) ?_; refine rn3 ?_; refine awp_ret ?_
 change (resY _ _).bind AV.fzt = some _
 refine ret_r rfl ?_
 rfl
set_option maxRecDepth 100000 in
set_option maxHeartbeats 1000000 in
theorem usableY_fc (n : Nat) (f : Nat → Nat → Nat) (ht : TabOf (tab n f) n f) : FC Tryz.prog 63 [tabs (tab n f)] (i64 (if (vio n f).1 = 0 then 0 else 4)) := by
 refine fc_of_awp [2] Tryz.func63 rfl rfl 10 Tryz.ntmps63 (Nat.le_of_ble_eq_true rfl) ?_
 intro E hN
 have h256 := ht.le
 have hlt := ht.lt
 have h1n := ht.pos
 refine rn8 ?_; refine zP (q_call (fcb (c := true) (isTable_fc (tab n f)) ht.is) rfl rfl rfl) ?_; refine rn2 ?_; refine c_false rfl rfl ?_
 refine rn5 ?_; refine zP (q_call (violation_fc n f h256 hlt) rfl rfl rfl) ?_; refine zP (q_field rfl rfl rfl) ?_; refine rn2 ?_
 refine zq ?_ ?_ <;> intro h4
 ·
  have h3 : ¬ (vio n f).1 = 0 := by intro e; simp [e] at h4
  refine rn3 ?_; refine zQ ?_
  rw [if_neg h3]
 have h3 : (vio n f).1 = 0 := by have := h4; simp at this; omega
 refine rn4 ?_; refine zQ ?_
 rw [if_pos h3]
theorem below_eq (f : Nat → Nat → Nat) (i j : Nat) : below f i j = (((i : Int) != (j : Int)) && ((f i j : Int) == (j : Int))) := by rw [below, bneN, beqN]; rfl
/-- a row of one's own may be stored -/
theorem cells1_own {t : List (Nat × AV)} {H : List (Nat × AObj)} {nx o n : Nat} {te : TypeId} {k : Nat} {es : List (List AV)} (h : look H o = some (.arr te k es)) (hn : es.length = n) : St.cells1 ⟨t, H, nx⟩ (.own o n) = some [.own o n] := by
 simp [St.cells1, St.cell1, h, hn]
section
variable {L : Nat} {te : TypeId} {k n m : Nat} {g h : Nat → List AV} {es : List (List AV)} {e : List AV}
theorem ok_upto (hg : ∀ i, (g i).all (okId L) = true) (hh : ∀ i, (h i).all (okId L) = true) : okObj L (.arr te k (upto n g h m)) = true :=
 ok_arr (f := fun i => if i < m then g i else h i) (fun i => by split; exact hg i; exact hh i) (List.range n)
theorem ok_set (he : okObj L (.arr te k es) = true) (hx : e.all (okId L) = true) (i : Nat) : okObj L (.arr te k (es.set i e)) = true := by
 simp only [okObj, List.all_eq_true] at *
 intro x hxm
 obtain ⟨e', he', hxe⟩ := List.mem_flatten.1 hxm
 rcases List.mem_or_eq_of_mem_set he' with h | h
 ·exact he x (List.mem_flatten.2 ⟨e', h, hxe⟩)
 subst h; exact hx x hxe
theorem fz_map {α : Type} {g : α → List AV} (hg : ∀ i, fzs (g i) = some (g i)) (l : List α) : ∀ e ∈ l.map g, fzs e = some e := fun e he => by
 obtain ⟨i, -, rfl⟩ := List.mem_map.1 he
 exact hg i
theorem okE_map {α : Type} {g : α → List AV} (hg : ∀ i, okE k (g i) = true) (l : List α) : (l.map g).all (okE k) = true := by
 rw [List.all_map, List.all_eq_true]
 exact fun i _ => hg i
end
set_option maxRecDepth 100000 in
set_option maxHeartbeats 1000000 in
theorem fbelow_fc (n : Nat) (f : Nat → Nat → Nat) (ht : TabOf (tab n f) n f) (i j : Nat) (hi : i < n) (hj : j < n) : FC Tryz.prog 101 [tabs (tab n f), i64 i, i64 j] (bl (below f i j)) := by
 refine fc_of_awp [6] Tryz.func101 rfl rfl 21 Tryz.ntmps101 (Nat.le_of_ble_eq_true rfl) ?_
 intro E hN
 refine rn10 ?_
 refine zc 10 ?_ ?_ <;> intro h4
 ·
  refine uM (w11 h4) ?_; refine uM (w11 h4) ?_; refine uP (w11 h4) (q_elem rfl rfl rfl i rfl _ (tab_get hi) rfl) ?_; refine uL (w11 h4) ?_
  refine uM (w11 h4) ?_; refine uP (w11 h4) (q_elem rfl rfl rfl j rfl _ (rowL_get hj) rfl) ?_; refine uL (w11 h4) ?_; refine uM (w11 h4) ?_
  refine uP (w11 h4) (q_bin rfl rfl rfl) ?_; refine zh1 h4 ?_; refine zS ?_; refine zQ ?_
  all_goals exact retB (by rw [below_eq]; simp_all)
 iterate 9 refine uK (w01 h4) ?_
 refine zh0 h4 ?_; refine zS ?_; refine zQ ?_
 all_goals exact retB (by rw [below_eq]; simp_all)
/-- the covering pairs found before (i, j) -/
def covP (n : Nat) (f : Nat → Nat → Nat) (i j : Nat) : List (Nat × Nat) := (List.range i).flatMap (covR n f) ++ ((List.range j).filter (cov n f i)).map fun j => (i, j)
theorem covP_row (n : Nat) (f : Nat → Nat → Nat) (i : Nat) : covP n f i n = covP n f (i + 1) 0 := by
 unfold covP
 rw [List.range_succ, List.flatMap_append]
 simp [covR]
theorem covP_end (n : Nat) (f : Nat → Nat → Nat) : covP n f n 0 = covL n f := by
 unfold covP covL
 simp
theorem covP_yes {n : Nat} {f : Nat → Nat → Nat} {i j : Nat} (h : cov n f i j = true) : covP n f i (j + 1) = covP n f i j ++ [(i, j)] := by
 unfold covP
 rw [List.range_succ, List.filter_append, List.map_append, ← List.append_assoc]
 simp [h]
theorem covP_no {n : Nat} {f : Nat → Nat → Nat} {i j : Nat} (h : cov n f i j = false) : covP n f i (j + 1) = covP n f i j := by
 unfold covP
 rw [List.range_succ, List.filter_append, List.map_append]
 simp [h]
theorem cov_len (n : Nat) (f : Nat → Nat → Nat) (i j : Nat) : (covP n f i j).length ≤ i * n + j := by
 unfold covP
 rw [List.length_append, List.length_map]
 have h2 : ((List.range j).filter (cov n f i)).length ≤ j := by have := List.length_filter_le (cov n f i) (List.range j); rwa [List.length_range] at this
 have h1 : ∀ i, ((List.range i).flatMap (covR n f)).length ≤ i * n := by
  intro i
  induction i with
  | zero => simp
  | succ i ih =>
   rw [List.range_succ, List.flatMap_append, List.length_append]
   have h3 : (covR n f i).length ≤ n := by
    unfold covR
    rw [List.length_map]
    have := List.length_filter_le (cov n f i) (List.range n); rwa [List.length_range] at this
   simp only [List.flatMap_cons, List.flatMap_nil, List.append_nil]
   rw [Nat.add_mul]
   omega
 have := h1 i
 omega
theorem cov_go {n : Nat} {f : Nat → Nat → Nat} {i j : Nat} (hb : below f i j = true) (hk : ∀ k, k < n → (below f i k && below f k j) = false) : cov n f i j = true := by
 unfold cov
 rw [hb, Bool.true_and, List.all_eq_true]
 intro k hk'
 rw [hk k (List.mem_range.1 hk')]; rfl
theorem cov_below {n : Nat} {f : Nat → Nat → Nat} {i j : Nat} (hb : below f i j = false) : cov n f i j = false := by unfold cov; rw [hb]; rfl
theorem cov_mid {n : Nat} {f : Nat → Nat → Nat} {i j k : Nat} (hk : k < n) (h : (below f i k && below f k j) = true) : cov n f i j = false := by
 unfold cov
 rw [Bool.and_eq_false_iff]
 refine .inr ?_
 rw [Bool.eq_false_iff]
 intro h2
 have := List.all_eq_true.1 h2 k (List.mem_range.2 hk)
 rw [h] at this; cases this
theorem bound_len {n i j : Nat} (h : n ≤ 256) (hi : i < n) (hj : j < n) : i * n + j + 1 ≤ 65536 := by
 have h1 : (i + 1) * n ≤ n * n := Nat.mul_le_mul_right _ hi
 have h2 : n * n ≤ 65536 := Nat.mul_le_mul h h
 rw [Nat.add_mul] at h1
 omega
theorem chunk_pr (i j : Nat) : chunkA 2 1 [AV.p (.int .i64 i), AV.p (.int .i64 j)] = [pr2 (i, j)] := rfl
theorem cgSq {L L' : List (List AV)} {q : Nat} (h : L = L') : some (AV.sl L (some q)) = some (AV.sl L' (some q)) := by rw [h]
set_option maxRecDepth 100000 in
set_option maxHeartbeats 1000000 in
theorem fcovers_fc (n : Nat) (f : Nat → Nat → Nat) (ht : TabOf (tab n f) n f) : FC Tryz.prog 64 [tabs (tab n f)] (prs (covL n f)) := by
 refine fc_of_awp [2] Tryz.func64 rfl rfl 47 Tryz.ntmps64 (Nat.le_of_ble_eq_true rfl) ?_
 intro E hN
 have h256 := ht.le
 have hlt := ht.lt
 have h1n := ht.pos
 refine rn16 ?_; refine awp_weak (weak_tok rfl 3 62 2 rfl) ?_
 refine awp_loop (fun x : {i : Nat // i ≤ n ∧ True} => ⟨[(0, tabs (tab n f)), (7, tabs (tab n f)), (8, i64 n), (9, i64 (x.1 : Nat)), (3, .sl ((covP n f x.1 0).map pr2) (some 0))], [(0, .tok 62 2 (covP n f x.1 0).length)], 1⟩) (fun x => n - x.1) (⟨0, Nat.zero_le _, by trivial⟩) ?_ ?_
 ·
  exact weak_scrub' rfl (zz2 ⟨(cgI (by simp [tab])), rfl, (zz2 trivial)⟩) ⟨rfl, rfl, rfl, trivial⟩
 rintro ⟨i, hi, gi⟩
 dsimp only
 refine rn5 ?_
 refine zq ?_ ?_ <;> intro h8
 ·
  have lti : i < n := by simpa using h8
  refine rn8 ?_; refine awp_scope ?_; refine rn9 ?_
  refine awp_loop (fun x : {j : Nat // j ≤ n ∧ True} => ⟨[(0, tabs (tab n f)), (7, tabs (tab n f)), (8, i64 n), (9, i64 (i : Nat)), (4, i64 (i : Nat)), (12, tabs (tab n f)), (13, i64 n), (14, i64 (x.1 : Nat)), (3, .sl ((covP n f i x.1).map pr2) (some 0))], [(0, .tok 62 2 (covP n f i x.1).length)], 1⟩) (fun x => n - x.1) (⟨0, Nat.zero_le _, by trivial⟩) ?_ ?_
  ·
   exact weak_scrub' rfl (zz4 (zz2 ⟨(cgI (by simp [tab])), rfl, (zz2 trivial)⟩)) ⟨rfl, rfl, rfl, trivial⟩
  rintro ⟨j, hj, gj⟩
  dsimp only
  refine rn5 ?_
  refine zq ?_ ?_ <;> intro h19
  ·
   have ltj : j < n := by simpa using h19
   refine rn14 ?_; refine zP (q_call (fbelow_fc n f ht i j lti ltj) rfl rfl rfl) ?_; refine rn2 ?_
   refine zq ?_ ?_ <;> intro h20
   ·
    have hcv : cov n f i j = false := cov_below (by simpa using h20)
    refine rn2 ?_; refine zP (q_addi rfl rfl rfl (by omega)) ?_; refine zM ?_; refine aops_nil ?_
    exact ⟨⟨j + 1, ltj, trivial⟩, weak_scrub' rfl (zz4 (zz3 ⟨(cgI (by dsimp only; omega)), rfl, (cgSq (by first | rw [covP_no hcv] | (rw [covP_yes hcv]; simp [chunk_pr]))), rfl, trivial⟩)) ⟨(cgT (by first | rw [covP_no hcv] | (rw [covP_yes hcv]; simp [chunk_pr]))), rfl, rfl, trivial⟩, by dsimp only; omega⟩
   have h8 : below f i j = true := by simpa using h20
   refine rn9 ?_
   refine awp_loop (fun x : {k : Nat // k ≤ n ∧ ∀ q, q < k → (below f i q && below f q j) = false} => ⟨[(0, tabs (tab n f)), (7, tabs (tab n f)), (8, i64 n), (9, i64 (i : Nat)), (4, i64 (i : Nat)), (12, tabs (tab n f)), (13, i64 n), (14, i64 (j : Nat)), (5, i64 (j : Nat)), (22, tabs (tab n f)), (23, i64 n), (24, i64 (x.1 : Nat)), (3, .sl ((covP n f i j).map pr2) (some 0))], [(0, .tok 62 2 (covP n f i j).length)], 1⟩) (fun x => n - x.1) (⟨0, Nat.zero_le _, by simp⟩) ?_ ?_
   ·
    exact weak_scrub' rfl (zz4 (zz4 (zz2 ⟨(cgI (by simp [tab])), rfl, (zz2 trivial)⟩))) ⟨rfl, rfl, rfl, trivial⟩
   rintro ⟨k, hk, gk⟩
   dsimp only
   refine rn5 ?_
   refine zq ?_ ?_ <;> intro h36
   ·
    have ltk : k < n := by simpa using h36
    refine rn13 ?_; refine zP (q_call (fbelow_fc n f ht i k lti ltk) rfl rfl rfl) ?_; refine zM ?_
    refine zc 31 ?_ ?_ <;> intro h37
    ·
     refine uM (w11 h37) ?_; refine uM (w11 h37) ?_; refine uM (w11 h37) ?_; refine uP (w11 h37) (q_call (fbelow_fc n f ht k j ltk ltj) rfl rfl rfl) ?_
     refine zh1 h37 ?_; refine zN ?_
     refine zq ?_ ?_ <;> intro h38
     ·
      have hcv : cov n f i j = false := cov_mid ltk (by simp_all)
      refine rn2 ?_; refine zP (q_addi rfl rfl rfl (by omega)) ?_; refine zM ?_; refine aops_nil ?_
      exact ⟨⟨j + 1, ltj, trivial⟩, weak_scrub' rfl (zz4 (zz3 ⟨(cgI (by dsimp only; omega)), rfl, (cgSq (by first | rw [covP_no hcv] | (rw [covP_yes hcv]; simp [chunk_pr]))), rfl, trivial⟩)) ⟨(cgT (by first | rw [covP_no hcv] | (rw [covP_yes hcv]; simp [chunk_pr]))), rfl, rfl, trivial⟩, by dsimp only; omega⟩
     refine rn2 ?_; refine zP (q_addi rfl rfl rfl (by omega)) ?_; refine zM ?_; refine aops_nil ?_
     exact ⟨⟨k + 1, ltk, fun q hq => by rcases Nat.lt_or_ge q k with h | h; exact gk q h; obtain rfl : q = k := (by omega); simp_all⟩, weak_scrub' rfl (zz4 (zz4 (zz3 ⟨(cgI (by dsimp only; omega)), rfl, (zz1 trivial)⟩))) ⟨rfl, rfl, rfl, trivial⟩, by dsimp only; omega⟩
    iterate 4 refine uK (w01 h37) ?_
    refine zh0 h37 ?_; refine zN ?_; refine c_false rfl rfl ?_; refine rn2 ?_; refine zP (q_addi rfl rfl rfl (by omega)) ?_; refine zM ?_
    refine aops_nil ?_
    exact ⟨⟨k + 1, ltk, fun q hq => by rcases Nat.lt_or_ge q k with h | h; exact gk q h; obtain rfl : q = k := (by omega); simp_all⟩, weak_scrub' rfl (zz4 (zz4 (zz3 ⟨(cgI (by dsimp only; omega)), rfl, (zz1 trivial)⟩))) ⟨rfl, rfl, rfl, trivial⟩, by dsimp only; omega⟩
   have gek : n ≤ k := by simpa using h36
   have hcv : cov n f i j = true := cov_go h8 (fun q hq => gk q (by omega))
   refine rn5 ?_; refine zP (q_buildA rfl rfl rfl) ?_; refine zP (q_bslice rfl rfl rfl rfl (by exact rfl) (by decide) (by decide)) ?_
   refine s_append_tok hN rfl rfl rfl (by simp) rfl rfl (okE_map (fun _ => rfl) _) rfl (by have := cov_len n f i j; have := bound_len h256 lti ltj; constructor <;> simp [chunk_pr] <;> omega) rfl rfl rfl rfl ?_
   refine rn3 ?_; refine zP (q_addi rfl rfl rfl (by omega)) ?_; refine zM ?_; refine aops_nil ?_
   exact ⟨⟨j + 1, ltj, trivial⟩, weak_scrub' rfl (zz4 (zz3 ⟨(cgI (by dsimp only; omega)), rfl, (cgSq (by first | rw [covP_no hcv] | (rw [covP_yes hcv]; simp [chunk_pr]))), rfl, trivial⟩)) ⟨(cgT (by first | rw [covP_no hcv] | (rw [covP_yes hcv]; simp [chunk_pr]))), rfl, rfl, trivial⟩, by dsimp only; omega⟩
  have gej : n ≤ j := by simpa using h19
  obtain rfl : j = n := by omega
  refine rn2 ?_; refine zP (q_addi rfl rfl rfl (by omega)) ?_; refine zM ?_; refine aops_nil ?_
  exact ⟨⟨i + 1, lti, trivial⟩, weak_scrub' rfl (zz3 ⟨(cgI (by dsimp only; omega)), rfl, (cgSq (by rw [covP_row])), rfl, trivial⟩) ⟨(cgT (by rw [covP_row])), rfl, rfl, trivial⟩, by dsimp only; omega⟩
 have gei : n ≤ i := by simpa using h8
 obtain rfl : i = n := by omega
 refine rn5 ?_; refine zQ ?_
 rw [covP_end]
end Go.Proofs.YtaecccdkjmipeaaGreat

namespace Go.Proofs.YtaecccdkjmipeaaGreat
open Go.RowKit
set_option maxRecDepth 100000 in
set_option maxHeartbeats 1000000 in
theorem fCovers_fc (n : Nat) (f : Nat → Nat → Nat) (ht : TabOf (tab n f) n f) (hu : FC Tryz.prog 63 [tabs (tab n f)] (i64 0)) : FC Tryz.prog 32 [tabs (tab n f)] (.tup [prs (covL n f), i64 0]) := by
 refine fc_of_awp [2, 3] Tryz.func32 rfl rfl 12 Tryz.ntmps32 (Nat.le_of_ble_eq_true rfl) ?_
 intro E hN
 refine rn9 ?_; refine zP (q_call hu rfl rfl rfl) ?_; refine rn7 ?_; refine c_false rfl rfl ?_; refine rn4 ?_
 refine zP (q_call (fcovers_fc n f ht) rfl rfl rfl) ?_; refine rn2 ?_; refine zQ ?_
 rfl
theorem meetK_lt {n : Nat} {f : Nat → Nat → Nat} (hlt : ∀ i j, i < n → j < n → f i j < n) {z : Nat} (hz : z < n) (i j : Nat) : ∀ k, k ≤ n → meetK f z i j k < n
 | 0, _ => hz
 | k + 1, hk => by
  rw [meetK_succ]
  split
  ·exact hlt _ _ (meetK_lt hlt hz i j k (by omega)) (by omega)
  exact meetK_lt hlt hz i j k (by omega)
theorem bot_lt {n : Nat} {f : Nat → Nat → Nat} (h : 1 ≤ n) : (bot n f).getD 0 < n := by
 cases hb : bot n f with
 | none => exact h
 | some z => exact (bot_some hb).1
/-- rows of the meet table, done and to do -/
def mRow (n : Nat) (f : Nat → Nat → Nat) (i : Nat) : List AV := row1 (rowL n (tmeetF n f) i)
def nilR : Nat → List AV := fun _ => [.p (.slice none 0 0)]
def mEl (n : Nat) (f : Nat → Nat → Nat) (i j : Nat) : List AV := nvv1 (tmeetF n f i j)
def zeR4 : Nat → List AV := fun _ => [i64 0]
theorem mEl_row (n : Nat) (f : Nat → Nat → Nat) (i : Nat) : upto n (mEl n f i) zeR4 n = (rowL n (tmeetF n f) i).map iv1 := by
 rw [upto_full (Nat.le_refl n)]
 unfold rowL
 rw [List.map_map]; rfl
theorem set_two {n : Nat} {g h : Nat → List AV} {i : Nat} {x y : List AV} (hi : i < n) (hy : y = g i) : ((upto n g h i).set i x).set i y = upto n g h (i + 1) := by
 rw [List.set_set, hy, upto_set hi]
theorem set_at {n : Nat} {g h : Nat → List AV} {i : Nat} {x : List AV} (hi : i < n) : ((upto n g h i).set i x)[i]? = some x := by
 rw [List.getElem?_set_self (by rw [upto_len]; exact hi)]
theorem len_two {n : Nat} {g h : Nat → List AV} {i : Nat} {x : List AV} : n = ((upto n g h i).set i x).length := by rw [List.length_set, upto_len]
theorem one_two {n : Nat} {g h : Nat → List AV} {i : Nat} {x : List AV} (hg : ∀ i, (g i).length = 1) (hh : ∀ i, (h i).length = 1) (hx : x.length = 1) : ∀ e ∈ (upto n g h i).set i x, e.length = 1 := fun e he => by
 rcases List.mem_or_eq_of_mem_set he with h2 | h2
 ·obtain ⟨q, -, rfl⟩ := List.mem_map.1 h2
  split
  ·exact hg q
  exact hh q
 rw [h2]; exact hx
theorem one_upto {n k : Nat} {g h : Nat → List AV} (hg : ∀ i, (g i).length = 1) (hh : ∀ i, (h i).length = 1) : ∀ e ∈ upto n g h k, e.length = 1 := fun e h2 => by
 obtain ⟨q, -, rfl⟩ := List.mem_map.1 h2
 split
 ·exact hg q
 exact hh q
set_option maxRecDepth 100000 in
set_option maxHeartbeats 1000000 in
theorem fmeets_fc (n : Nat) (f : Nat → Nat → Nat) (ht : TabOf (tab n f) n f) : FC Tryz.prog 65 [tabs (tab n f)] (tabs (tab n (tmeetF n f))) := by
 refine fc_of_awp [2] Tryz.func65 rfl rfl 78 Tryz.ntmps65 (Nat.le_of_ble_eq_true rfl) ?_
 intro E hN
 have h256 := ht.le
 have hlt := ht.lt
 have h1n := ht.pos
 have hzl : (bot n f).getD 0 < n := bot_lt h1n
 refine rn7 ?_; refine zP (q_call (fbot_fc n f h256 hlt) rfl rfl rfl) ?_; refine rn10 ?_
 refine s_makeN hN rfl (k := 1) (zs := [.slice none 0 0]) rfl (y := 24) (by kernel_rfl) rfl rfl (n := n) (cgI (by simp [tab])) (cgI (by simp [tab])) (by omega) rfl rfl rfl rfl ?_
 refine rn10 ?_
 refine awp_loop (fun x : {i : Nat // i ≤ n ∧ True} => ⟨[(0, tabs (tab n f)), (3, i64 ((bot n f).getD 0 : Nat)), (5, .own 0 n), (19, i64 n), (20, i64 (x.1 : Nat))], [(0, .arr 56 1 (upto n (mRow n f) nilR x.1))], 1⟩) (fun x => n - x.1) (⟨0, Nat.zero_le _, by trivial⟩) ?_ ?_
 ·
  exact weak_scrub' rfl (zz3 ⟨(cgI (by simp [tab])), rfl, (zz1 trivial)⟩) ⟨(cgA (by rw [upto_zero, rep_map]; rfl)), rfl, (ok_upto (fun _ => rfl) (fun _ => rfl)), trivial⟩
 rintro ⟨i, hi, gi⟩
 dsimp only
 refine rn5 ?_
 refine zq ?_ ?_ <;> intro h13
 ·
  have lti : i < n := by simpa using h13
  refine rn14 ?_
  refine s_makeN hN rfl (k := 1) (zs := [.int .i64 0]) rfl (y := 8) (by kernel_rfl) rfl rfl (n := n) (cgI (by simp [tab])) (cgI (by simp [tab])) (by omega) rfl rfl rfl rfl ?_
  refine zP (q_eown rfl rfl rfl rfl upto_len.symm i rfl lti) ?_
  refine s_storeO hN rfl rfl rfl upto_len.symm i rfl (by rw [upto_len]; exact lti) rfl (cells1_own rfl (by simp)) rfl rfl (one_upto (fun _ => rfl) (fun _ => rfl)) rfl rfl rfl rfl ?_
  refine rn8 ?_
  refine awp_loop (fun x : {j : Nat // j ≤ n ∧ True} => ⟨[(0, tabs (tab n f)), (3, i64 ((bot n f).getD 0 : Nat)), (5, .own 0 n), (19, i64 n), (20, i64 (i : Nat)), (6, i64 (i : Nat)), (30, i64 n), (31, i64 (x.1 : Nat))], [(0, .arr 56 1 ((upto n (mRow n f) nilR i).set i [.own 1 n])), (1, .arr 3 1 (upto n (mEl n f i) zeR4 x.1))], 2⟩) (fun x => n - x.1) (⟨0, Nat.zero_le _, by trivial⟩) ?_ ?_
  ·
   exact weak_scrub' rfl (zz4 (zz2 ⟨(cgI (by simp [tab])), rfl, (zz1 trivial)⟩)) ⟨rfl, rfl, (ok_set (ok_upto (fun _ => rfl) (fun _ => rfl)) rfl i), (cgA (by rw [upto_zero, rep_map]; rfl)), rfl, (ok_upto (fun _ => rfl) (fun _ => rfl)), trivial⟩
  rintro ⟨j, hj, gj⟩
  dsimp only
  refine rn5 ?_
  refine zq ?_ ?_ <;> intro h27
  ·
   have ltj : j < n := by simpa using h27
   refine rn21 ?_
   refine awp_loop (fun x : {k : Nat // k ≤ n ∧ True} => ⟨[(0, tabs (tab n f)), (3, i64 ((bot n f).getD 0 : Nat)), (5, .own 0 n), (19, i64 n), (20, i64 (i : Nat)), (6, i64 (i : Nat)), (30, i64 n), (31, i64 (j : Nat)), (7, i64 (j : Nat)), (8, i64 (meetK f ((bot n f).getD 0) i j x.1 : Nat)), (36, i64 n), (37, i64 (x.1 : Nat))], [(0, .arr 56 1 ((upto n (mRow n f) nilR i).set i [.own 1 n])), (1, .arr 3 1 (upto n (mEl n f i) zeR4 j))], 2⟩) (fun x => n - x.1) (⟨0, Nat.zero_le _, by trivial⟩) ?_ ?_
   ·
    exact weak_scrub' rfl (zz4 (zz4 (zz2 ⟨(cgI (by simp [tab])), rfl, (zz1 trivial)⟩))) ⟨rfl, rfl, (ok_set (ok_upto (fun _ => rfl) (fun _ => rfl)) rfl i), rfl, rfl, (ok_upto (fun _ => rfl) (fun _ => rfl)), trivial⟩
   rintro ⟨k, hk, gk⟩
   dsimp only
   refine rn5 ?_
   refine zq ?_ ?_ <;> intro h41
   ·
    have ltk : k < n := by simpa using h41
    have hmk := meetK_lt hlt hzl i j k hk
    refine rn12 ?_; refine zP (q_elem rfl rfl rfl k rfl _ (tab_get ltk) rfl) ?_; refine rn2 ?_
    refine zP (q_elem rfl rfl rfl i rfl _ (rowL_get lti) rfl) ?_; refine rn4 ?_
    refine zc 49 ?_ ?_ <;> intro h46
    ·
     refine uM (w11 h46) ?_; refine uM (w11 h46) ?_; refine uP (w11 h46) (q_elem rfl rfl rfl k rfl _ (tab_get ltk) rfl) ?_; refine uL (w11 h46) ?_
     refine uM (w11 h46) ?_; refine uP (w11 h46) (q_elem rfl rfl rfl j rfl _ (rowL_get ltj) rfl) ?_; refine uL (w11 h46) ?_; refine uM (w11 h46) ?_
     refine uP (w11 h46) (q_bin rfl rfl rfl) ?_; refine zh1 h46 ?_; refine zN ?_
     refine zq ?_ ?_ <;> intro h51
     ·
      refine rn3 ?_; refine zP (q_elem rfl rfl rfl (meetK f ((bot n f).getD 0) i j k) rfl _ (tab_get hmk) rfl) ?_; refine rn2 ?_
      refine zP (q_elem rfl rfl rfl k rfl _ (rowL_get ltk) rfl) ?_; refine rn4 ?_; refine zP (q_addi rfl rfl rfl (by omega)) ?_; refine zM ?_
      refine aops_nil ?_
      exact ⟨⟨k + 1, ltk, trivial⟩, weak_scrub' rfl (zz4 (zz4 (zz1 ⟨(cgI (by rw [meetK_succ]; split <;> first | rfl | (exfalso; simp_all <;> omega))), rfl, rfl, rfl, (cgI (by dsimp only; omega)), rfl, trivial⟩))) ⟨rfl, rfl, (ok_set (ok_upto (fun _ => rfl) (fun _ => rfl)) rfl i), rfl, rfl, (ok_upto (fun _ => rfl) (fun _ => rfl)), trivial⟩, by dsimp only; omega⟩
     refine rn2 ?_; refine zP (q_addi rfl rfl rfl (by omega)) ?_; refine zM ?_; refine aops_nil ?_
     exact ⟨⟨k + 1, ltk, trivial⟩, weak_scrub' rfl (zz4 (zz4 (zz1 ⟨(cgI (by rw [meetK_succ]; split <;> first | rfl | (exfalso; simp_all <;> omega))), rfl, rfl, rfl, (cgI (by dsimp only; omega)), rfl, trivial⟩))) ⟨rfl, rfl, (ok_set (ok_upto (fun _ => rfl) (fun _ => rfl)) rfl i), rfl, rfl, (ok_upto (fun _ => rfl) (fun _ => rfl)), trivial⟩, by dsimp only; omega⟩
    iterate 9 refine uK (w01 h46) ?_
    refine zh0 h46 ?_; refine zN ?_; refine c_false rfl rfl ?_; refine rn2 ?_; refine zP (q_addi rfl rfl rfl (by omega)) ?_; refine zM ?_
    refine aops_nil ?_
    exact ⟨⟨k + 1, ltk, trivial⟩, weak_scrub' rfl (zz4 (zz4 (zz1 ⟨(cgI (by rw [meetK_succ]; split <;> first | rfl | (exfalso; simp_all <;> omega))), rfl, rfl, rfl, (cgI (by dsimp only; omega)), rfl, trivial⟩))) ⟨rfl, rfl, (ok_set (ok_upto (fun _ => rfl) (fun _ => rfl)) rfl i), rfl, rfl, (ok_upto (fun _ => rfl) (fun _ => rfl)), trivial⟩, by dsimp only; omega⟩
   have gek : n ≤ k := by simpa using h41
   obtain rfl : n = k := by omega
   refine rn4 ?_; refine zP (q_eown rfl rfl rfl rfl len_two i rfl lti) ?_
   refine zP (q_loadO rfl rfl rfl len_two (one_two (fun _ => rfl) (fun _ => rfl) rfl) i rfl (set_at lti) (fun _ => rfl) rfl) ?_; refine rn2 ?_
   refine zP (q_eown rfl rfl rfl rfl upto_len.symm j rfl ltj) ?_
   refine s_storeO hN rfl rfl rfl upto_len.symm j rfl (by rw [upto_len]; exact ltj) rfl rfl rfl rfl (one_upto (fun _ => rfl) (fun _ => rfl)) rfl rfl rfl rfl ?_
   refine rn2 ?_; refine zP (q_addi rfl rfl rfl (by omega)) ?_; refine zM ?_; refine aops_nil ?_
   exact ⟨⟨j + 1, ltj, trivial⟩, weak_scrub' rfl (zz4 (zz3 ⟨(cgI (by dsimp only; omega)), rfl, trivial⟩)) ⟨rfl, rfl, (ok_set (ok_upto (fun _ => rfl) (fun _ => rfl)) rfl i), (cgA (by first | exact upto_set ltj | rw [← upto_set ltj]; rfl)), rfl, (ok_upto (fun _ => rfl) (fun _ => rfl)), trivial⟩, by dsimp only; omega⟩
  have gej : n ≤ j := by simpa using h27
  obtain rfl : n = j := by omega
  refine rn1 ?_
  refine awp_weak (weak_frowa 0 i 1 rfl (by exact set_at lti) (by exact cgA (mEl_row n f i)) rfl (by simp [rowL]) (okE_map (fun _ => rfl) _) (fz_map (fun _ => rfl) _) rfl rfl) ?_
  refine rn1 ?_; refine zP (q_addi rfl rfl rfl (by omega)) ?_; refine zM ?_; refine aops_nil ?_
  exact ⟨⟨i + 1, lti, trivial⟩, weak_scrub' rfl (zz4 ⟨(cgI (by dsimp only; omega)), rfl, trivial⟩) ⟨(cgA (set_two lti rfl)), rfl, (ok_upto (fun _ => rfl) (fun _ => rfl)), trivial⟩, by dsimp only; omega⟩
 have gei : n ≤ i := by simpa using h13
 obtain rfl : n = i := by omega
 refine rn6 ?_
 refine awp_weak (weak_frow 2 0 rfl (es := (List.range n).map (mRow n f)) (by exact cgA (upto_full (Nat.le_refl _))) (by simp) (okE_map (fun _ => rfl) _) (fz_map (fun _ => rfl) _) rfl) ?_
 refine zR ?_
 show AV.sl _ none = AV.sl (((List.range n).map (rowL n (tmeetF n f))).map row1) none
 rw [List.map_map]; rfl
end Go.Proofs.YtaecccdkjmipeaaGreat
