/-
  A matrix of own rows, all living at once: what is said of the heap, row by row; the covering pairs in their order.
  Contracts: refused, ref14.Below, ref14.Covers (seat r5).
  Contracts: the law FiniteCovers (seat r5).
-/
import Derived.Test.YtaecccdkjmipeaaGreatF4
import Derived.Test.YtaecccdkjmipeaaGreatF1
import Derived.Test.YtaecccdkjmipeaaGreatF9
namespace Go.Proofs.YtaecccdkjmipeaaGreat
open Go.RowKit
def ownR (n : Nat) : Nat → List AV := fun a => [.own (a + 1) n]
def bRow (n : Nat) (R : Nat → Nat → Bool) (a : Nat) : List Bool := (List.range n).map (R a)
def rowsM (tb : TypeId) (n : Nat) (R : Nat → Nat → Bool) (m : Nat) : List (Nat × AObj) := (List.range m).map fun a => (a + 1, .arr tb 1 ((bRow n R a).map bv1))
/-- the outer row, of which m rows are made, and these rows -/
def MH (ts tb : TypeId) (n : Nat) (R : Nat → Nat → Bool) (m : Nat) : List (Nat × AObj) := (0, .arr ts 1 (upto n (ownR n) nilR m)) :: rowsM tb n R m
section
variable {ts tb : TypeId} {n m : Nat} {R : Nat → Nat → Bool}
theorem look_idx (g : Nat → AObj) (b : Nat) : ∀ l : List Nat, b ∈ l → look (l.map fun a => (a + 1, g a)) (b + 1) = some (g b)
 | [], h => by cases h
 | a :: l, h => by
  rw [List.map_cons, look_cons]
  by_cases e : b = a
  ·subst e; rw [if_pos rfl]
  rw [if_neg (by omega)]
  exact look_idx g b l (by rcases List.mem_cons.1 h with h | h; exact absurd h e; exact h)
theorem look_MH {a : Nat} (h : a < m) : look (MH ts tb n R m) (a + 1) = some (.arr tb 1 ((bRow n R a).map bv1)) := by
 unfold MH
 rw [look_cons, if_neg (by omega)]
 exact look_idx (fun a => .arr tb 1 ((bRow n R a).map bv1)) a _ (List.mem_range.2 h)
theorem bRow_len (n : Nat) (R : Nat → Nat → Bool) (a : Nat) : n = (bRow n R a).length := by simp [bRow]
theorem bRow_get {a b : Nat} (h : b < n) : (bRow n R a)[b]? = some (R a b) := by simp [bRow, h]
theorem bRow_set {i j : Nat} {b : Bool} : (bRow n R i).set j b = bRow n (setM R i j b) i := by
 refine List.ext_getElem (by simp [bRow]) fun k h1 h2 => ?_
 simp only [bRow, List.getElem_set, List.getElem_map, List.getElem_range, setM]
 by_cases e : j = k
 ·subst e; simp
 rw [if_neg e, if_neg (by omega)]
theorem bRow_other {i j a : Nat} {b : Bool} (h : a ≠ i) : bRow n (setM R i j b) a = bRow n R a := by
 unfold bRow setM
 exact List.map_congr_left fun k _ => by rw [if_neg (by omega)]
theorem scrH_rows {st : St} {L : Nat} (g : Nat → AObj) : ∀ l : List Nat, (∀ a ∈ l, look st.H (a + 1) = some (g a) ∧ a + 1 < L ∧ okObj L (g a) = true) → ScrH st L (l.map fun a => (a + 1, g a))
 | [], _ => trivial
 | a :: l, h => by
  obtain ⟨h1, h2, h3⟩ := h a List.mem_cons_self
  refine ⟨h1, ?_, h3, scrH_rows g l fun b hb => h b (List.mem_cons_of_mem _ hb)⟩
  rw [Bool.or_eq_true]; exact .inl (Nat.ble_eq_true_of_le h2)
theorem weak_MH {E : Env} {st : St} {t' : List (Nat × AV)} {nx' : Nat} (hm : m < nx') (hB : nx' ≤ idB) (ht : ScrT st nx' t') (h0 : look st.H 0 = some (.arr ts 1 (upto n (ownR n) nilR m))) (hr : ∀ a, a < m → look st.H (a + 1) = some (.arr tb 1 ((bRow n R a).map bv1))) : Weak E st ⟨t', MH ts tb n R m, nx'⟩ := by
 refine weak_scrub' (Nat.ble_eq_true_of_le hB) ht ⟨h0, ?_, ?_, ?_⟩
 ·rw [Bool.or_eq_true]; exact .inl (Nat.ble_eq_true_of_le (by show 0 + 1 ≤ nx'; omega))
 ·show ((upto n (ownR n) nilR m).flatten).all (okId nx') = true
  rw [List.all_eq_true]
  intro x hx
  obtain ⟨e, he, hxe⟩ := List.mem_flatten.1 hx
  obtain ⟨a, -, rfl⟩ := List.mem_map.1 he
  split at hxe
  ·rename_i h
   simp only [ownR, List.mem_singleton] at hxe
   subst hxe
   show (Nat.blt (a + 1) nx' || Nat.ble idB (a + 1)) = true
   rw [Bool.or_eq_true]; exact .inl (Nat.ble_eq_true_of_le (by show a + 1 + 1 ≤ nx'; omega))
  simp only [nilR, List.mem_singleton] at hxe
  subst hxe; rfl
 exact scrH_rows (fun a => .arr tb 1 ((bRow n R a).map bv1)) _ fun a ha => by
  have hlt := List.mem_range.1 ha
  exact ⟨hr a hlt, (by show a + 1 < nx'; omega), ok_arr (fun _ => rfl) _⟩
end
/-- the matrix of the covers found before (i, j) -/
def covM (n : Nat) (f : Nat → Nat → Nat) (i j : Nat) : Nat → Nat → Bool := fun a b => (decide (a < i) || (decide (a = i) && decide (b < j))) && cov n f a b
section
variable {n : Nat} {f : Nat → Nat → Nat} {i j : Nat}
theorem covM_new : (List.replicate n false).map bv1 = (bRow n (covM n f i 0) i).map bv1 := by
 congr 1
 refine List.ext_getElem (by simp [bRow]) fun k h1 h2 => ?_
 simp [bRow, covM]
theorem covM_old {a : Nat} (h : a < i) (j : Nat) : bRow n (covM n f i j) a = bRow n (cov n f) a := by
 unfold bRow covM
 exact List.map_congr_left fun k _ => by simp [h]
theorem covM_row {a : Nat} (h : a ≤ i) : bRow n (covM n f i n) a = bRow n (covM n f (i + 1) 0) a := by
 unfold bRow covM
 refine List.map_congr_left fun k hk => ?_
 have hk := List.mem_range.1 hk
 rcases Nat.lt_or_ge a i with h1 | h1
 ·have : a < i + 1 := by omega
  simp [h1, this]
 obtain rfl : a = i := by omega
 simp [hk]
theorem covM_yes (h : cov n f i j = true) : setM (covM n f i j) i j true = covM n f i (j + 1) := by
 funext a b
 unfold setM covM
 split
 ·rename_i e
  obtain ⟨rfl, rfl⟩ := e
  simp [h]
 rename_i e
 congr 1
 rw [Bool.eq_iff_iff]; simp; omega
theorem covM_no (h : cov n f i j = false) : covM n f i j = covM n f i (j + 1) := by
 funext a b
 unfold covM
 by_cases e : a = i ∧ b = j
 ·obtain ⟨rfl, rfl⟩ := e
  simp [h]
 congr 1
 rw [Bool.eq_iff_iff]; simp; omega
theorem covM_end {a : Nat} (h : a < n) : bRow n (covM n f n 0) a = bRow n (cov n f) a := covM_old h 0
theorem covP_pre (i : Nat) : ∀ j d, covP n f i j <+: covP n f i (j + d)
 | _, 0 => List.prefix_refl _
 | j, d + 1 => by
  refine (covP_pre i j d).trans ?_
  cases h : cov n f i (j + d) with
  | true => rw [show j + (d + 1) = (j + d) + 1 from rfl, covP_yes h]; exact List.prefix_append _ _
  | false => rw [show j + (d + 1) = (j + d) + 1 from rfl, covP_no h]; exact List.prefix_refl _
theorem covP_pre2 (i : Nat) : ∀ d, covP n f i 0 <+: covP n f (i + d) 0
 | 0 => List.prefix_refl _
 | d + 1 => by
  refine (covP_pre2 i d).trans ?_
  rw [show i + (d + 1) = (i + d) + 1 from rfl, ← covP_row]
  have := covP_pre (n := n) (f := f) (i + d) 0 n
  rwa [Nat.zero_add] at this
theorem covP_get (hi : i < n) (hj : j < n) (h : cov n f i j = true) : (covL n f)[(covP n f i j).length]? = some (i, j) := by
 have h1 := covP_pre (n := n) (f := f) i (j + 1) (n - (j + 1))
 rw [show j + 1 + (n - (j + 1)) = n by omega, covP_row] at h1
 have h2 := h1.trans (covP_pre2 (n := n) (f := f) (i + 1) (n - (i + 1)))
 rw [show i + 1 + (n - (i + 1)) = n by omega, covP_end, covP_yes h] at h2
 obtain ⟨r, hr⟩ := h2
 rw [← hr, List.append_assoc, List.getElem?_append_right (Nat.le_refl _), Nat.sub_self]; rfl
theorem covP_lt (hi : i < n) (hj : j < n) (h : cov n f i j = true) : (covP n f i j).length < (covL n f).length := (List.getElem?_eq_some_iff.1 (covP_get hi hj h)).1
end
end Go.Proofs.YtaecccdkjmipeaaGreat

namespace Go.Proofs.YtaecccdkjmipeaaGreat
open Go.RowKit
set_option maxRecDepth 100000 in
set_option maxHeartbeats 1000000 in
theorem refused1_fc (T : List (List Int)) (hu : FC Tryz.prog 63 [tabs T] (i64 1)) : FC Tryz.prog 39 [tabs T, i64 1] (bl true) := by
 refine fc_of_awp [4] Tryz.func39 rfl rfl 86 Tryz.ntmps39 (Nat.le_of_ble_eq_true rfl) ?_
 intro E hN
 refine zG ?_; refine zS ?_; refine zA ?_; refine zM ?_; refine zP (q_call (fCoversN_fc T 1 (by decide) hu) rfl rfl rfl) ?_; refine zM ?_
 refine zP (q_extract rfl rfl rfl) ?_; refine zP (q_extract rfl rfl rfl) ?_; refine zS ?_; refine zS ?_; refine zA ?_; refine zM ?_
 refine zP (q_call (fHeightN_fc T 1 (by decide) hu) rfl rfl rfl) ?_; refine zM ?_; refine zP (q_extract rfl rfl rfl) ?_
 refine zP (q_extract rfl rfl rfl) ?_; refine zS ?_; refine zS ?_; refine zA ?_; refine zM ?_
 refine zP (q_call (fMeetsN_fc T 1 (by decide) hu) rfl rfl rfl) ?_; refine zM ?_; refine zP (q_extract rfl rfl rfl) ?_
 refine zP (q_extract rfl rfl rfl) ?_; refine zS ?_; refine zS ?_; refine zA ?_; refine zM ?_
 refine zP (q_call (fIrrN_fc T 1 (by decide) hu) rfl rfl rfl) ?_; refine zM ?_; refine zP (q_extract rfl rfl rfl) ?_
 refine zP (q_extract rfl rfl rfl) ?_; refine zS ?_; refine zS ?_; refine zA ?_; refine zM ?_
 refine zP (q_call (fDistN_fc T 1 (by decide) hu) rfl rfl rfl) ?_; refine zM ?_; refine zP (q_extract rfl rfl rfl) ?_
 refine zP (q_extract rfl rfl rfl) ?_; refine zS ?_; refine zS ?_; refine zA ?_; refine zM ?_; refine zM ?_; refine zB ?_; refine zM ?_; refine zM ?_
 refine zM ?_; refine zB ?_; refine zh1 rfl ?_; refine zM ?_; refine zM ?_; refine zM ?_; refine zB ?_; refine zh1 rfl ?_; refine zM ?_; refine zM ?_
 refine zM ?_; refine zB ?_; refine zh1 rfl ?_; refine zM ?_; refine zM ?_; refine zM ?_; refine zB ?_; refine zh1 rfl ?_; refine zM ?_; refine zM ?_
 refine zE ?_; refine zB ?_; refine zh1 rfl ?_; refine zM ?_; refine zM ?_; refine zB ?_; refine zh1 rfl ?_; refine zM ?_; refine zM ?_; refine zE ?_
 refine zB ?_; refine zh1 rfl ?_; refine zM ?_; refine zM ?_; refine zE ?_; refine zB ?_; refine zh1 rfl ?_; refine zM ?_; refine zM ?_
 refine zP (q_not rfl rfl) ?_; refine zh1 rfl ?_; refine zS ?_; refine zQ ?_
 rfl
set_option maxRecDepth 100000 in
set_option maxHeartbeats 1000000 in
theorem refused4_fc (T : List (List Int)) (hu : FC Tryz.prog 63 [tabs T] (i64 4)) : FC Tryz.prog 39 [tabs T, i64 4] (bl true) := by
 refine fc_of_awp [4] Tryz.func39 rfl rfl 86 Tryz.ntmps39 (Nat.le_of_ble_eq_true rfl) ?_
 intro E hN
 refine zG ?_; refine zS ?_; refine zA ?_; refine zM ?_; refine zP (q_call (fCoversN_fc T 4 (by decide) hu) rfl rfl rfl) ?_; refine zM ?_
 refine zP (q_extract rfl rfl rfl) ?_; refine zP (q_extract rfl rfl rfl) ?_; refine zS ?_; refine zS ?_; refine zA ?_; refine zM ?_
 refine zP (q_call (fHeightN_fc T 4 (by decide) hu) rfl rfl rfl) ?_; refine zM ?_; refine zP (q_extract rfl rfl rfl) ?_
 refine zP (q_extract rfl rfl rfl) ?_; refine zS ?_; refine zS ?_; refine zA ?_; refine zM ?_
 refine zP (q_call (fMeetsN_fc T 4 (by decide) hu) rfl rfl rfl) ?_; refine zM ?_; refine zP (q_extract rfl rfl rfl) ?_
 refine zP (q_extract rfl rfl rfl) ?_; refine zS ?_; refine zS ?_; refine zA ?_; refine zM ?_
 refine zP (q_call (fIrrN_fc T 4 (by decide) hu) rfl rfl rfl) ?_; refine zM ?_; refine zP (q_extract rfl rfl rfl) ?_
 refine zP (q_extract rfl rfl rfl) ?_; refine zS ?_; refine zS ?_; refine zA ?_; refine zM ?_
 refine zP (q_call (fDistN_fc T 4 (by decide) hu) rfl rfl rfl) ?_; refine zM ?_; refine zP (q_extract rfl rfl rfl) ?_
 refine zP (q_extract rfl rfl rfl) ?_; refine zS ?_; refine zS ?_; refine zA ?_; refine zM ?_; refine zM ?_; refine zB ?_; refine zM ?_; refine zM ?_
 refine zM ?_; refine zB ?_; refine zh1 rfl ?_; refine zM ?_; refine zM ?_; refine zM ?_; refine zB ?_; refine zh1 rfl ?_; refine zM ?_; refine zM ?_
 refine zM ?_; refine zB ?_; refine zh1 rfl ?_; refine zM ?_; refine zM ?_; refine zM ?_; refine zB ?_; refine zh1 rfl ?_; refine zM ?_; refine zM ?_
 refine zE ?_; refine zB ?_; refine zh1 rfl ?_; refine zM ?_; refine zM ?_; refine zB ?_; refine zh1 rfl ?_; refine zM ?_; refine zM ?_; refine zE ?_
 refine zB ?_; refine zh1 rfl ?_; refine zM ?_; refine zM ?_; refine zE ?_; refine zB ?_; refine zh1 rfl ?_; refine zM ?_; refine zM ?_
 refine zP (q_not rfl rfl) ?_; refine zh1 rfl ?_; refine zS ?_; refine zQ ?_
 rfl
set_option maxRecDepth 100000 in
set_option maxHeartbeats 1000000 in
theorem rBelow_fc (n : Nat) (f : Nat → Nat → Nat) (ht : TabOf (tab n f) n f) (i j : Nat) (hi : i < n) (hj : j < n) : FC Tryz.prog 41 [tabs (tab n f), i64 i, i64 j] (bl (below f i j)) := by
 refine fc_of_awp [6] Tryz.func41 rfl rfl 21 Tryz.ntmps41 (Nat.le_of_ble_eq_true rfl) ?_
 intro E hN
 refine zG ?_; refine zS ?_; refine zA ?_; refine zM ?_; refine zM ?_; refine zB ?_; refine zM ?_
 refine zc 10 ?_ ?_ <;> intro h4
 ·
  refine uM (w11 h4) ?_; refine uM (w11 h4) ?_; refine uP (w11 h4) (q_elem rfl rfl rfl i rfl _ (tab_get hi) rfl) ?_; refine uL (w11 h4) ?_
  refine uM (w11 h4) ?_; refine uP (w11 h4) (q_elem rfl rfl rfl j rfl _ (rowL_get hj) rfl) ?_; refine uL (w11 h4) ?_; refine uM (w11 h4) ?_
  refine uP (w11 h4) (q_bin rfl rfl rfl) ?_; refine zh1 h4 ?_; refine zS ?_; refine zQ ?_
  all_goals exact retB (by rw [below_eq]; simp_all)
 iterate 9 refine uK (w01 h4) ?_
 refine zh0 h4 ?_; refine zS ?_; refine zQ ?_
 all_goals exact retB (by rw [below_eq]; simp_all)
set_option maxRecDepth 100000 in
set_option maxHeartbeats 1000000 in
theorem rCov_fc (n : Nat) (f : Nat → Nat → Nat) (ht : TabOf (tab n f) n f) (i j : Nat) (hi : i < n) (hj : j < n) : FC Tryz.prog 40 [tabs (tab n f), i64 i, i64 j] (bl (cov n f i j)) := by
 refine fc_of_awp [6] Tryz.func40 rfl rfl 29 Tryz.ntmps40 (Nat.le_of_ble_eq_true rfl) ?_
 intro E hN
 have h256 := ht.le
 have hlt := ht.lt
 have h1n := ht.pos
 refine zG ?_; refine zT ?_; refine zH ?_; refine zM ?_; refine zM ?_; refine zM ?_; refine zP (q_call (rBelow_fc n f ht i j hi hj) rfl rfl rfl) ?_
 refine zP (q_not rfl rfl) ?_; refine zN ?_
 refine zq ?_ ?_ <;> intro h4
 ·
  have hcv : cov n f i j = false := cov_below (by simpa using h4)
  refine zG ?_; refine zS ?_; refine zQ ?_
  exact retB (by rw [hcv])
 have h8 : below f i j = true := by simpa using h4
 refine zW ?_; refine zH ?_; refine zT ?_; refine awp_block ?_
 refine awp_loop (fun x : {k : Nat // k ≤ n ∧ ∀ q, q < k → (below f i q && below f q j) = false} => ⟨[(0, tabs (tab n f)), (1, i64 (i : Nat)), (2, i64 (j : Nat)), (7, i64 (x.1 : Nat))], [], 0⟩) (fun x => n - x.1) (⟨0, Nat.zero_le _, by simp⟩) ?_ ?_
 ·
  exact weak_scrub' rfl (zz4 trivial) trivial
 rintro ⟨k, hk, gk⟩
 dsimp only
 refine zH ?_; refine zM ?_; refine zM ?_; refine zE ?_; refine zB ?_; refine zN ?_
 refine zq ?_ ?_ <;> intro h10
 ·
  have ltk : k < n := by simpa [tab] using h10
  refine zW ?_; refine awp_seq ?_; refine awp_block ?_; refine zG ?_; refine zM ?_; refine zM ?_; refine zM ?_
  refine zP (q_call (rBelow_fc n f ht i k hi ltk) rfl rfl rfl) ?_; refine zM ?_
  refine zc 23 ?_ ?_ <;> intro h11
  ·
   refine uM (w11 h11) ?_; refine uM (w11 h11) ?_; refine uM (w11 h11) ?_; refine uP (w11 h11) (q_call (rBelow_fc n f ht k j ltk hj) rfl rfl rfl) ?_
   refine zh1 h11 ?_; refine zN ?_
   refine zq ?_ ?_ <;> intro h12
   ·
    have hcv : cov n f i j = false := cov_mid ltk (by simp_all)
    refine zG ?_; refine zS ?_; refine zQ ?_
    exact retB (by rw [hcv])
   refine awp_skip ?_; change AWP _ _ _ _  _; refine awp_region ?_; refine zM ?_; refine zP (q_addi rfl rfl rfl (by omega)) ?_; refine zS ?_
   refine aops_nil ?_
   exact ⟨⟨k + 1, ltk, fun q hq => by rcases Nat.lt_or_ge q k with h | h; exact gk q h; obtain rfl : q = k := (by omega); simp_all⟩, weak_scrub' rfl (zz3 ⟨(cgI (by dsimp only; omega)), rfl, trivial⟩) trivial, by dsimp only; omega⟩
  iterate 4 refine uK (w01 h11) ?_
  refine zh0 h11 ?_; refine zN ?_; refine c_false rfl rfl ?_; refine awp_skip ?_; change AWP _ _ _ _  _; refine awp_region ?_; refine zM ?_
  refine zP (q_addi rfl rfl rfl (by omega)) ?_; refine zS ?_; refine aops_nil ?_
  exact ⟨⟨k + 1, ltk, fun q hq => by rcases Nat.lt_or_ge q k with h | h; exact gk q h; obtain rfl : q = k := (by omega); simp_all⟩, weak_scrub' rfl (zz3 ⟨(cgI (by dsimp only; omega)), rfl, trivial⟩) trivial, by dsimp only; omega⟩
 have gek : n ≤ k := by simpa [tab] using h10
 have hcv : cov n f i j = true := cov_go h8 (fun q hq => gk q (by omega))
 refine awp_exit ?_; change AWP _ _ _ _  _; refine zG ?_; refine zS ?_; refine zQ ?_
 exact retB (by rw [hcv])
end Go.Proofs.YtaecccdkjmipeaaGreat

namespace Go.Proofs.YtaecccdkjmipeaaGreat
open Go.RowKit
theorem us4 {n : Nat} {f : Nat → Nat → Nat} (ht : TabOf (tab n f) n f) (h : ¬ (vio n f).1 = 0) : FC Tryz.prog 63 [tabs (tab n f)] (i64 4) := by
 have hu := usableY_fc n f ht
 rw [if_neg h] at hu; exact hu
theorem mh_no {ts tb : TypeId} {n m : Nat} {f : Nat → Nat → Nat} {i j a : Nat} (h : cov n f i j = false) (ha : a < m) : look (MH ts tb n (covM n f i j) m) (a + 1) = some (.arr tb 1 ((bRow n (covM n f i (j + 1)) a).map bv1)) := by rw [look_MH ha, ← covM_no h]
theorem mh_set {ts tb : TypeId} {n m : Nat} {R : Nat → Nat → Bool} {i j a : Nat} {b b' : Bool} (hb : b = b') (ha : a < m) : look ((i + 1, AObj.arr tb 1 (((bRow n R i).set j b).map bv1)) :: MH ts tb n R m) (a + 1) = some (.arr tb 1 ((bRow n (setM R i j b') a).map bv1)) := by
 subst hb
 by_cases e : a = i
 ·subst e
  rw [look_self, bRow_set]
 rw [look_ne _ _ (by omega), look_MH ha, bRow_other e]
theorem mh_yes {ts tb : TypeId} {n m : Nat} {f : Nat → Nat → Nat} {i j a : Nat} (h : cov n f i j = true) (ha : a < m) : look ((i + 1, AObj.arr tb 1 (((bRow n (covM n f i j) i).set j true).map bv1)) :: MH ts tb n (covM n f i j) m) (a + 1) = some (.arr tb 1 ((bRow n (covM n f i (j + 1)) a).map bv1)) := by
 rw [← covM_yes h]; exact mh_set rfl ha
theorem mh_row {ts tb : TypeId} {n : Nat} {f : Nat → Nat → Nat} {i a : Nat} (ha : a < i + 1) : look (MH ts tb n (covM n f i n) (i + 1)) (a + 1) = some (.arr tb 1 ((bRow n (covM n f (i + 1) 0) a).map bv1)) := by rw [look_MH ha, covM_row (by omega)]
theorem mh_new {ts tb : TypeId} {n : Nat} {f : Nat → Nat → Nat} {i a : Nat} {o : AObj} (ha : a < i + 1) : look ((0, o) :: (i + 1, AObj.arr tb 1 ((List.replicate n false).map bv1)) :: MH ts tb n (covM n f i 0) i) (a + 1) = some (.arr tb 1 ((bRow n (covM n f i 0) a).map bv1)) := by
 rw [look_ne _ _ (by omega)]
 by_cases e : a = i
 ·subst e
  rw [look_self, covM_new]
 rw [look_ne _ _ (by omega), look_MH (by omega)]
theorem mh_end {ts tb : TypeId} {n : Nat} {f : Nat → Nat → Nat} {a : Nat} (ha : a < n) : look (MH ts tb n (covM n f n 0) n) (a + 1) = some (.arr tb 1 ((bRow n (cov n f) a).map bv1)) := by rw [look_MH ha, covM_end ha]
theorem mh_look0 {ts tb : TypeId} {n m : Nat} {R : Nat → Nat → Bool} {i : Nat} {o : AObj} : look ((i + 1, o) :: MH ts tb n R m) 0 = some (.arr ts 1 (upto n (ownR n) nilR m)) := by
 rw [look_ne _ _ (by omega)]; rfl
theorem ids {a : Nat} (h : a ≤ 1000) : Nat.blt a idB = true := Nat.ble_eq_true_of_le (by show a + 1 ≤ 1000000; omega)
theorem idsB {a : Nat} (h : a ≤ 1000) : a ≤ idB := by show a ≤ 1000000; omega
theorem few_n {n : Nat} {f : Nat → Nat → Nat} (h : fewB (tab n f) = true) : n ≤ 12 := by
 unfold fewB at h
 rw [Bool.and_eq_true] at h
 have := h.1
 rw [tab_len] at this
 simp at this; omega
theorem upto_own {n i m : Nat} (hi : i < n) (hm : i < m) : (upto n (ownR n) nilR m)[i]? = some [AV.own (i + 1) n] := by rw [upto_get hi, if_pos hm]; rfl
set_option maxRecDepth 100000 in
set_option maxHeartbeats 1000000 in
theorem lawFCov_f (T : List (List Int)) (hF : fewB T = false) : FC Tryz.prog 9 [tabs T] (bl true) := by
 refine fc_of_awp [2] Tryz.func9 rfl rfl 168 Tryz.ntmps9 (Nat.le_of_ble_eq_true rfl) ?_
 intro E hN
 refine zG ?_; refine zT ?_; refine zH ?_; refine zM ?_; refine zP (q_call (fcb (c := false) (few_fc T) hF) rfl rfl rfl) ?_
 refine zP (q_not rfl rfl) ?_; refine zN ?_; refine c_true rfl rfl ?_; refine zG ?_; refine zP (q_call awake14_fc rfl rfl rfl) ?_; refine zS ?_
 refine zQ ?_
 rfl
set_option maxRecDepth 100000 in
set_option maxHeartbeats 1000000 in
theorem lawFCov_n (T : List (List Int)) (hF : fewB T = true) (hT : isT T = false) : FC Tryz.prog 9 [tabs T] (bl true) := by
 refine fc_of_awp [2] Tryz.func9 rfl rfl 168 Tryz.ntmps9 (Nat.le_of_ble_eq_true rfl) ?_
 intro E hN
 refine zG ?_; refine zT ?_; refine zH ?_; refine zM ?_; refine zP (q_call (fcb (c := true) (few_fc T) hF) rfl rfl rfl) ?_
 refine zP (q_not rfl rfl) ?_; refine zN ?_; refine c_false rfl rfl ?_; refine zW ?_; refine zH ?_; refine zM ?_
 refine zP (q_call (fcb (c := false) (rIs_fc T) hT) rfl rfl rfl) ?_; refine zP (q_not rfl rfl) ?_; refine zN ?_; refine c_true rfl rfl ?_; refine zG ?_
 refine zP (q_call awake14_fc rfl rfl rfl) ?_; refine zM ?_; refine zM ?_; refine zP (q_call (refused1_fc T (usableN_fc T hT)) rfl rfl rfl) ?_
 refine zh1 rfl ?_; refine zS ?_; refine zQ ?_
 rfl
set_option maxRecDepth 100000 in
set_option maxHeartbeats 1000000 in
theorem lawFCov_v (n : Nat) (f : Nat → Nat → Nat) (ht : TabOf (tab n f) n f) (hF : fewB (tab n f) = true) (h0 : ¬ (vio n f).1 = 0) : FC Tryz.prog 9 [tabs (tab n f)] (bl true) := by
 refine fc_of_awp [2] Tryz.func9 rfl rfl 168 Tryz.ntmps9 (Nat.le_of_ble_eq_true rfl) ?_
 intro E hN
 refine zG ?_; refine zT ?_; refine zH ?_; refine zM ?_; refine zP (q_call (fcb (c := true) (few_fc (tab n f)) hF) rfl rfl rfl) ?_
 refine zP (q_not rfl rfl) ?_; refine zN ?_; refine c_false rfl rfl ?_; refine zW ?_; refine zH ?_; refine zM ?_
 refine zP (q_call (fcb (c := true) (rIs_fc (tab n f)) ht.is) rfl rfl rfl) ?_; refine zP (q_not rfl rfl) ?_; refine zN ?_; refine c_false rfl rfl ?_
 refine zW ?_; refine zH ?_; refine zM ?_; refine zP (q_call (fcb (c := false) (rLatY_fc n f ht) (decide_eq_false h0)) rfl rfl rfl) ?_
 refine zP (q_not rfl rfl) ?_; refine zN ?_; refine c_true rfl rfl ?_; refine zG ?_; refine zP (q_call awake14_fc rfl rfl rfl) ?_; refine zM ?_
 refine zM ?_; refine zP (q_call (refused4_fc (tab n f) (us4 ht h0)) rfl rfl rfl) ?_; refine zh1 rfl ?_; refine zS ?_; refine zQ ?_
 rfl
set_option maxRecDepth 100000 in
set_option maxHeartbeats 1000000 in
theorem lawFCov_y (n : Nat) (f : Nat → Nat → Nat) (ht : TabOf (tab n f) n f) (hF : fewB (tab n f) = true) (h0 : (vio n f).1 = 0) (z : Nat) (Lf : LatF n f z) : FC Tryz.prog 9 [tabs (tab n f)] (bl true) := by
 refine fc_of_awp [2] Tryz.func9 rfl rfl 168 Tryz.ntmps9 (Nat.le_of_ble_eq_true rfl) ?_
 intro E hN
 have h256 := ht.le
 have hlt := ht.lt
 have h1n := ht.pos
 have hn12 : n ≤ 12 := few_n hF
 refine zG ?_; refine zT ?_; refine zH ?_; refine zM ?_; refine zP (q_call (fcb (c := true) (few_fc (tab n f)) hF) rfl rfl rfl) ?_
 refine zP (q_not rfl rfl) ?_; refine zN ?_; refine c_false rfl rfl ?_; refine zW ?_; refine zH ?_; refine zM ?_
 refine zP (q_call (fcb (c := true) (rIs_fc (tab n f)) ht.is) rfl rfl rfl) ?_; refine zP (q_not rfl rfl) ?_; refine zN ?_; refine c_false rfl rfl ?_
 refine zW ?_; refine zH ?_; refine zM ?_; refine zP (q_call (fcb (c := true) (rLatY_fc n f ht) (decide_eq_true h0)) rfl rfl rfl) ?_
 refine zP (q_not rfl rfl) ?_; refine zN ?_; refine c_false rfl rfl ?_; refine zW ?_; refine zG ?_; refine zM ?_
 refine zP (q_call (fCovers_fc n f ht (us0 ht h0)) rfl rfl rfl) ?_; refine zM ?_; refine zP (q_extract rfl rfl rfl) ?_
 refine zP (q_extract rfl rfl rfl) ?_; refine zS ?_; refine zT ?_; refine zH ?_; refine zM ?_; refine zB ?_; refine zN ?_; refine c_false rfl rfl ?_
 refine zW ?_; refine zG ?_; refine zS ?_; refine zA ?_; refine zM ?_; refine zE ?_
 refine s_makeN hN rfl (k := 1) (zs := [.slice none 0 0]) rfl (y := 24) (by kernel_rfl) rfl rfl (n := n) (cgI (by simp [tab])) (cgI (by simp [tab])) (by omega) rfl rfl rfl rfl ?_
 refine zT ?_; refine zH ?_; refine zT ?_; refine awp_block ?_
 refine awp_loop (fun x : {i : Nat // i ≤ n ∧ True} => ⟨[(0, tabs (tab n f)), (3, prs (covL n f)), (5, i64 ((covP n f x.1 0).length : Nat)), (6, .own 0 n), (7, i64 (x.1 : Nat))], MH 71 4 n (covM n f x.1 0) x.1, x.1 + 1⟩) (fun x => n - x.1) (⟨0, Nat.zero_le _, by trivial⟩) ?_ ?_
 ·
  exact weak_MH (by first | omega | (dsimp only; omega)) (idsB (by first | omega | (dsimp only; omega))) ⟨rfl, rfl, rfl, rfl, rfl, rfl, rfl, rfl, rfl, rfl, trivial⟩ (cgA (by rw [upto_zero, rep_map]; rfl)) (fun a ha => absurd ha (Nat.not_lt_zero a))
 rintro ⟨i, hi, gi⟩
 dsimp only
 refine zH ?_; refine zM ?_; refine zM ?_; refine zE ?_; refine zB ?_; refine zN ?_
 refine zq ?_ ?_ <;> intro h14
 ·
  have lti : i < n := by simpa [tab] using h14
  refine zW ?_; refine awp_seq ?_; refine awp_block ?_; refine zG ?_; refine zM ?_; refine zM ?_; refine zM ?_; refine zE ?_
  refine s_makeB hN (ids (by omega)) (by kernel_rfl) rfl (n := n) (cgI (by simp [tab])) (cgI (by simp [tab])) (by omega) rfl rfl rfl rfl ?_
  refine zP (q_eown rfl rfl rfl mh_look0 upto_len.symm i rfl lti) ?_
  refine s_storeO hN rfl rfl mh_look0 upto_len.symm i rfl (by rw [upto_len]; exact lti) rfl (cells1_own (look_self _ _ _) (by simp)) rfl rfl (one_upto (fun _ => rfl) (fun _ => rfl)) rfl rfl rfl rfl ?_
  refine zA ?_; refine zT ?_; refine awp_block ?_
  refine awp_loop (fun x : {j : Nat // j ≤ n ∧ True} => ⟨[(0, tabs (tab n f)), (3, prs (covL n f)), (5, i64 ((covP n f i x.1).length : Nat)), (6, .own 0 n), (7, i64 (i : Nat)), (8, i64 (x.1 : Nat))], MH 71 4 n (covM n f i x.1) (i + 1), (i + 1) + 1⟩) (fun x => n - x.1) (⟨0, Nat.zero_le _, by trivial⟩) ?_ ?_
  ·
   exact weak_MH (by first | omega | (dsimp only; omega)) (idsB (by first | omega | (dsimp only; omega))) ⟨rfl, rfl, rfl, rfl, rfl, rfl, rfl, rfl, rfl, rfl, rfl, rfl, trivial⟩ (cgA (upto_set lti)) (fun a ha => mh_new ha)
  rintro ⟨j, hj, gj⟩
  dsimp only
  refine zH ?_; refine zM ?_; refine zM ?_; refine zE ?_; refine zB ?_; refine zN ?_
  refine zq ?_ ?_ <;> intro h26
  ·
   have ltj : j < n := by simpa [tab] using h26
   refine zW ?_; refine awp_seq ?_; refine awp_block ?_; refine zG ?_; refine zM ?_; refine zM ?_; refine zM ?_
   refine zP (q_call (rCov_fc n f ht i j lti ltj) rfl rfl rfl) ?_; refine zN ?_
   refine zq ?_ ?_ <;> intro h27
   ·
    have hcv : cov n f i j = true := h27
    refine zH ?_; refine zM ?_; refine zM ?_; refine zE ?_
    refine zP (q_binb (b := false) rfl rfl rfl (by have := covP_lt lti ltj hcv; simp; omega)) ?_
    refine zM ?_; refine zM ?_; refine zM ?_; refine zP (q_elem rfl rfl rfl (covP n f i j).length rfl _ (pr_get (covP_get lti ltj hcv)) rfl) ?_
    refine zL ?_; refine zM ?_; refine zM ?_; refine zP (q_buildA rfl rfl rfl) ?_
    refine zP (q_eqArr rfl (.inr rfl) (by kernel_rfl) (by kernel_rfl) (by kernel_rfl) [(i : Int), (j : Int)] rfl rfl rfl rfl) ?_; refine zh0 rfl ?_
    refine zN ?_; refine c_false rfl rfl ?_; refine zW ?_; refine zG ?_; refine zM ?_
    refine zP (q_addi rfl rfl rfl (by have := cov_len n f i j; have : i * n ≤ 12 * 12 := Nat.mul_le_mul (by omega) hn12; omega)) ?_
    refine zT ?_; refine awp_region ?_; refine zM ?_; refine zM ?_; refine zP (q_eown rfl rfl rfl rfl upto_len.symm i rfl lti) ?_
    refine zP (q_loadO rfl rfl rfl upto_len.symm (one_upto (fun _ => rfl) (fun _ => rfl)) i rfl (upto_own lti (Nat.lt_succ_self i)) (fun _ => rfl) rfl) ?_
    refine zM ?_; refine zP (q_eown rfl rfl rfl (look_MH (Nat.lt_succ_self i)) (by rw [List.length_map, ← bRow_len]) j rfl ltj) ?_
    refine s_storeB hN rfl rfl (bRow n (covM n f i j) i) (look_MH (Nat.lt_succ_self i)) (bRow_len _ _ _) j rfl (by rw [← bRow_len]; exact ltj) rfl rfl rfl rfl ?_
    refine aops_nil ?_; change AWP _ _ _ _  _; refine awp_region ?_; refine zM ?_; refine zP (q_addi rfl rfl rfl (by omega)) ?_; refine zS ?_
    refine aops_nil ?_
    exact ⟨⟨j + 1, ltj, trivial⟩, weak_MH (by first | omega | (dsimp only; omega)) (idsB (by first | omega | (dsimp only; omega))) ⟨rfl, rfl, rfl, rfl, (cgI (by first | rw [covP_no hcv] | (rw [covP_yes hcv]; simp))), rfl, rfl, rfl, rfl, rfl, (cgI (by dsimp only; omega)), rfl, trivial⟩ (by first | rfl | exact mh_look0) (fun a ha => by first | exact mh_no hcv ha | exact mh_yes hcv ha), by dsimp only; omega⟩
   have hcv : cov n f i j = false := h27
   refine awp_skip ?_; change AWP _ _ _ _  _; refine awp_region ?_; refine zM ?_; refine zP (q_addi rfl rfl rfl (by omega)) ?_; refine zS ?_
   refine aops_nil ?_
   exact ⟨⟨j + 1, ltj, trivial⟩, weak_MH (by first | omega | (dsimp only; omega)) (idsB (by first | omega | (dsimp only; omega))) ⟨rfl, rfl, rfl, rfl, (cgI (by first | rw [covP_no hcv] | (rw [covP_yes hcv]; simp))), rfl, rfl, rfl, rfl, rfl, (cgI (by dsimp only; omega)), rfl, trivial⟩ (by first | rfl | exact mh_look0) (fun a ha => by first | exact mh_no hcv ha | exact mh_yes hcv ha), by dsimp only; omega⟩
  have gej : n ≤ j := by simpa [tab] using h26
  obtain rfl : n = j := by omega
  refine awp_exit ?_; change AWP _ _ _ _  _; refine awp_region ?_; refine zM ?_; refine zP (q_addi rfl rfl rfl (by omega)) ?_; refine zS ?_
  refine aops_nil ?_
  exact ⟨⟨i + 1, lti, trivial⟩, weak_MH (by first | omega | (dsimp only; omega)) (idsB (by first | omega | (dsimp only; omega))) ⟨rfl, rfl, rfl, rfl, (cgI (by rw [covP_row])), rfl, rfl, rfl, (cgI (by dsimp only; omega)), rfl, trivial⟩ (rfl) (fun a ha => mh_row ha), by dsimp only; omega⟩
 have gei : n ≤ i := by simpa [tab] using h14
 obtain rfl : n = i := by omega
 refine awp_exit ?_; change AWP _ _ _ _  _; refine zH ?_; refine zT ?_; refine awp_block ?_
 refine awp_loop (fun x : {p : Nat × (Nat → Nat → Bool) // p.1 ≤ n ∧ WM n f p.1 0 0 p.2} => ⟨[(0, tabs (tab n f)), (3, prs (covL n f)), (5, i64 ((covL n f).length : Nat)), (6, .own 0 n), (9, i64 (x.1.1 : Nat))], MH 71 4 n x.1.2 n, n + 1⟩) (fun x => n - x.1.1) (⟨(0, cov n f), Nat.zero_le _, Lf.wm_start⟩) ?_ ?_
 ·
  exact weak_MH (by first | omega | (dsimp only; omega)) (idsB (by first | omega | (dsimp only; omega))) ⟨rfl, rfl, rfl, rfl, (cgI (by rw [covP_end])), rfl, rfl, rfl, rfl, rfl, trivial⟩ (rfl) (fun a ha => mh_end ha)
 rintro ⟨⟨k, Rk⟩, hk, wmk⟩
 dsimp only at hk wmk ⊢
 refine zH ?_; refine zM ?_; refine zM ?_; refine zE ?_; refine zB ?_; refine zN ?_
 refine zq ?_ ?_ <;> intro h46
 ·
  have ltk : k < n := by simpa [tab] using h46
  refine zW ?_; refine awp_seq ?_; refine awp_block ?_; refine zG ?_; refine zT ?_; refine awp_block ?_
  refine awp_loop (fun x : {p : Nat × (Nat → Nat → Bool) // p.1 ≤ n ∧ WM n f k p.1 0 p.2} => ⟨[(0, tabs (tab n f)), (3, prs (covL n f)), (5, i64 ((covL n f).length : Nat)), (6, .own 0 n), (9, i64 (k : Nat)), (10, i64 (x.1.1 : Nat))], MH 71 4 n x.1.2 n, n + 1⟩) (fun x => n - x.1.1) (⟨(0, Rk), Nat.zero_le _, wmk⟩) ?_ ?_
  ·
   exact weak_MH (by first | omega | (dsimp only; omega)) (idsB (by first | omega | (dsimp only; omega))) ⟨rfl, rfl, rfl, rfl, rfl, rfl, rfl, rfl, rfl, rfl, rfl, rfl, trivial⟩ (rfl) (fun a ha => look_MH ha)
  rintro ⟨⟨i, Ri⟩, hi, wmi⟩
  dsimp only at hi wmi ⊢
  refine zH ?_; refine zM ?_; refine zM ?_; refine zE ?_; refine zB ?_; refine zN ?_
  refine zq ?_ ?_ <;> intro h54
  ·
   have lti : i < n := by simpa [tab] using h54
   refine zW ?_; refine awp_seq ?_; refine awp_block ?_; refine zG ?_; refine zT ?_; refine awp_block ?_
   refine awp_loop (fun x : {p : Nat × (Nat → Nat → Bool) // p.1 ≤ n ∧ WM n f k i p.1 p.2} => ⟨[(0, tabs (tab n f)), (3, prs (covL n f)), (5, i64 ((covL n f).length : Nat)), (6, .own 0 n), (9, i64 (k : Nat)), (10, i64 (i : Nat)), (11, i64 (x.1.1 : Nat))], MH 71 4 n x.1.2 n, n + 1⟩) (fun x => n - x.1.1) (⟨(0, Ri), Nat.zero_le _, wmi⟩) ?_ ?_
   ·
    exact weak_MH (by first | omega | (dsimp only; omega)) (idsB (by first | omega | (dsimp only; omega))) ⟨rfl, rfl, rfl, rfl, rfl, rfl, rfl, rfl, rfl, rfl, rfl, rfl, rfl, rfl, trivial⟩ (rfl) (fun a ha => look_MH ha)
   rintro ⟨⟨j, Rj⟩, hj, wmj⟩
   dsimp only at hj wmj ⊢
   refine zH ?_; refine zM ?_; refine zM ?_; refine zE ?_; refine zB ?_; refine zN ?_
   refine zq ?_ ?_ <;> intro h63
   ·
    have ltj : j < n := by simpa [tab] using h63
    refine zW ?_; refine awp_seq ?_; refine awp_block ?_; refine awp_draw 31 (by kernel_rfl) (by kernel_rfl) ?_; refine zm ?_; refine zm ?_
    refine zp (q_eown rfl rfl rfl rfl upto_len.symm i rfl lti) ?_
    refine zp (q_loadO rfl rfl rfl upto_len.symm (one_upto (fun _ => rfl) (fun _ => rfl)) i rfl (upto_own lti lti) (fun _ => rfl) rfl) ?_; refine zm ?_
    refine zm ?_; refine zm ?_; refine zp (q_eown rfl rfl rfl rfl upto_len.symm i rfl lti) ?_
    refine zp (q_loadO rfl rfl rfl upto_len.symm (one_upto (fun _ => rfl) (fun _ => rfl)) i rfl (upto_own lti lti) (fun _ => rfl) rfl) ?_; refine zm ?_
    refine zp (q_eown rfl rfl rfl (look_MH lti) (by rw [List.length_map, ← bRow_len]) j rfl ltj) ?_
    refine zp (q_loadB rfl rfl (bRow n Rj i) (look_MH lti) (bRow_len _ _ _) j rfl (bRow_get ltj)) ?_; refine zm ?_
    refine zd 118 ?_ ?_ <;> intro h69
    ·
     have g1 : Rj i j = true := h69
     iterate 8 refine vK (w10 h69) ?_
     iterate 7 refine zk ?_
     refine vK (w10 h69) ?_; refine zp (q_pick1 rfl rfl h69 rfl) ?_
     refine zp (q_eown rfl rfl rfl (look_MH lti) (by rw [List.length_map, ← bRow_len]) j rfl ltj) ?_; change AOps _ _ _ _ _ _
     refine s_storeB hN rfl rfl (bRow n Rj i) (look_MH lti) (bRow_len _ _ _) j rfl (by rw [← bRow_len]; exact ltj) rfl rfl rfl rfl ?_
     refine aops_nil ?_; change AWP _ _ _ _  _; refine awp_region ?_; refine zM ?_; refine zP (q_addi rfl rfl rfl (by omega)) ?_; refine zS ?_
     refine aops_nil ?_
     exact ⟨⟨(j + 1, setM Rj i j (Rj i j || (Rj i k && Rj k j))), ltj, Lf.wm_step ltk lti ltj wmj⟩, weak_MH (by first | omega | (dsimp only; omega)) (idsB (by first | omega | (dsimp only; omega))) ⟨rfl, rfl, rfl, rfl, rfl, rfl, rfl, rfl, rfl, rfl, rfl, rfl, (cgI (by dsimp only; omega)), rfl, trivial⟩ (by first | rfl | exact mh_look0) (fun a ha => by first | exact look_MH ha | exact mh_set (by first | (simp [g1]; done) | simp [g1, g2]) ha), by dsimp only; omega⟩
    have g1 : Rj i j = false := h69
    refine vP (w00 h69) (q_move rfl rfl) ?_; refine vP (w00 h69) (q_move rfl rfl) ?_
    refine vP (w00 h69) (q_eown rfl rfl rfl rfl upto_len.symm i rfl lti) ?_
    refine vP (w00 h69) (q_loadO rfl rfl rfl upto_len.symm (one_upto (fun _ => rfl) (fun _ => rfl)) i rfl (upto_own lti lti) (fun _ => rfl) rfl) ?_
    refine vP (w00 h69) (q_move rfl rfl) ?_; refine vP (w00 h69) (q_eown rfl rfl rfl (look_MH lti) (by rw [List.length_map, ← bRow_len]) k rfl ltk) ?_
    refine vP (w00 h69) (q_loadB rfl rfl (bRow n Rj i) (look_MH lti) (bRow_len _ _ _) k rfl (bRow_get ltk)) ?_; refine vP (w00 h69) (q_move rfl rfl) ?_
    refine zd 126 ?_ ?_ <;> intro h76
    ·
     have g2 : Rj i k = true := h76
     refine vP (w11 h76) (q_move rfl rfl) ?_; refine vP (w11 h76) (q_move rfl rfl) ?_
     refine vP (w11 h76) (q_eown rfl rfl rfl rfl upto_len.symm k rfl ltk) ?_
     refine vP (w11 h76) (q_loadO rfl rfl rfl upto_len.symm (one_upto (fun _ => rfl) (fun _ => rfl)) k rfl (upto_own ltk ltk) (fun _ => rfl) rfl) ?_
     refine vP (w11 h76) (q_move rfl rfl) ?_; refine vP (w11 h76) (q_eown rfl rfl rfl (look_MH ltk) (by rw [List.length_map, ← bRow_len]) j rfl ltj) ?_
     refine vP (w11 h76) (q_loadB rfl rfl (bRow n Rj k) (look_MH ltk) (bRow_len _ _ _) j rfl (bRow_get ltj)) ?_
     refine vP (w00 h69) (q_pick1 rfl rfl h76 rfl) ?_; refine zp (q_pick0 rfl rfl h69 rfl) ?_
     refine zp (q_eown rfl rfl rfl (look_MH lti) (by rw [List.length_map, ← bRow_len]) j rfl ltj) ?_; change AOps _ _ _ _ _ _
     refine s_storeB hN rfl rfl (bRow n Rj i) (look_MH lti) (bRow_len _ _ _) j rfl (by rw [← bRow_len]; exact ltj) rfl rfl rfl rfl ?_
     refine aops_nil ?_; change AWP _ _ _ _  _; refine awp_region ?_; refine zM ?_; refine zP (q_addi rfl rfl rfl (by omega)) ?_; refine zS ?_
     refine aops_nil ?_
     exact ⟨⟨(j + 1, setM Rj i j (Rj i j || (Rj i k && Rj k j))), ltj, Lf.wm_step ltk lti ltj wmj⟩, weak_MH (by first | omega | (dsimp only; omega)) (idsB (by first | omega | (dsimp only; omega))) ⟨rfl, rfl, rfl, rfl, rfl, rfl, rfl, rfl, rfl, rfl, rfl, rfl, (cgI (by dsimp only; omega)), rfl, trivial⟩ (by first | rfl | exact mh_look0) (fun a ha => by first | exact look_MH ha | exact mh_set (by first | (simp [g1]; done) | simp [g1, g2]) ha), by dsimp only; omega⟩
    have g2 : Rj i k = false := h76
    iterate 7 refine vK (w01 h76) ?_
    refine vP (w00 h69) (q_pick0 rfl rfl h76 rfl) ?_; refine zp (q_pick0 rfl rfl h69 rfl) ?_
    refine zp (q_eown rfl rfl rfl (look_MH lti) (by rw [List.length_map, ← bRow_len]) j rfl ltj) ?_; change AOps _ _ _ _ _ _
    refine s_storeB hN rfl rfl (bRow n Rj i) (look_MH lti) (bRow_len _ _ _) j rfl (by rw [← bRow_len]; exact ltj) rfl rfl rfl rfl ?_
    refine aops_nil ?_; change AWP _ _ _ _  _; refine awp_region ?_; refine zM ?_; refine zP (q_addi rfl rfl rfl (by omega)) ?_; refine zS ?_
    refine aops_nil ?_
    exact ⟨⟨(j + 1, setM Rj i j (Rj i j || (Rj i k && Rj k j))), ltj, Lf.wm_step ltk lti ltj wmj⟩, weak_MH (by first | omega | (dsimp only; omega)) (idsB (by first | omega | (dsimp only; omega))) ⟨rfl, rfl, rfl, rfl, rfl, rfl, rfl, rfl, rfl, rfl, rfl, rfl, (cgI (by dsimp only; omega)), rfl, trivial⟩ (by first | rfl | exact mh_look0) (fun a ha => by first | exact look_MH ha | exact mh_set (by first | (simp [g1]; done) | simp [g1, g2]) ha), by dsimp only; omega⟩
   have gej : n ≤ j := by simpa [tab] using h63
   obtain rfl : n = j := by omega
   refine awp_exit ?_; change AWP _ _ _ _  _; refine awp_region ?_; refine zM ?_; refine zP (q_addi rfl rfl rfl (by omega)) ?_; refine zS ?_
   refine aops_nil ?_
   exact ⟨⟨(i + 1, Rj), lti, LatF.wm_row wmj⟩, weak_MH (by first | omega | (dsimp only; omega)) (idsB (by first | omega | (dsimp only; omega))) ⟨rfl, rfl, rfl, rfl, rfl, rfl, rfl, rfl, rfl, rfl, (cgI (by dsimp only; omega)), rfl, trivial⟩ (by first | rfl | exact mh_look0) (fun a ha => by first | exact look_MH ha | exact mh_set (by first | (simp [g1]; done) | simp [g1, g2]) ha), by dsimp only; omega⟩
  have gei : n ≤ i := by simpa [tab] using h54
  obtain rfl : n = i := by omega
  refine awp_exit ?_; change AWP _ _ _ _  _; refine awp_region ?_; refine zM ?_; refine zP (q_addi rfl rfl rfl (by omega)) ?_; refine zS ?_
  refine aops_nil ?_
  exact ⟨⟨(k + 1, Ri), ltk, LatF.wm_round wmi⟩, weak_MH (by first | omega | (dsimp only; omega)) (idsB (by first | omega | (dsimp only; omega))) ⟨rfl, rfl, rfl, rfl, rfl, rfl, rfl, rfl, (cgI (by dsimp only; omega)), rfl, trivial⟩ (by first | rfl | exact mh_look0) (fun a ha => by first | exact look_MH ha | exact mh_set (by first | (simp [g1]; done) | simp [g1, g2]) ha), by dsimp only; omega⟩
 have gek : n ≤ k := by simpa [tab] using h46
 have wmn : WM n f n 0 0 Rk := (show k = n by omega) ▸ wmk
 refine awp_exit ?_; change AWP _ _ _ _  _; refine zH ?_; refine zT ?_; refine awp_block ?_
 refine awp_loop (fun x : {i : Nat // i ≤ n ∧ True} => ⟨[(0, tabs (tab n f)), (3, prs (covL n f)), (5, i64 ((covL n f).length : Nat)), (6, .own 0 n), (12, i64 (x.1 : Nat))], MH 71 4 n Rk n, n + 1⟩) (fun x => n - x.1) (⟨0, Nat.zero_le _, by trivial⟩) ?_ ?_
 ·
  exact weak_MH (by first | omega | (dsimp only; omega)) (idsB (by first | omega | (dsimp only; omega))) ⟨rfl, rfl, rfl, rfl, rfl, rfl, rfl, rfl, rfl, rfl, trivial⟩ (rfl) (fun a ha => look_MH ha)
 rintro ⟨i, hi, gi⟩
 dsimp only
 refine zH ?_; refine zM ?_; refine zM ?_; refine zE ?_; refine zB ?_; refine zN ?_
 refine zq ?_ ?_ <;> intro h95
 ·
  have lti : i < n := by simpa [tab] using h95
  refine zW ?_; refine awp_seq ?_; refine awp_block ?_; refine zG ?_; refine zT ?_; refine awp_block ?_
  refine awp_loop (fun x : {j : Nat // j ≤ n ∧ True} => ⟨[(0, tabs (tab n f)), (3, prs (covL n f)), (5, i64 ((covL n f).length : Nat)), (6, .own 0 n), (12, i64 (i : Nat)), (13, i64 (x.1 : Nat))], MH 71 4 n Rk n, n + 1⟩) (fun x => n - x.1) (⟨0, Nat.zero_le _, by trivial⟩) ?_ ?_
  ·
   exact weak_MH (by first | omega | (dsimp only; omega)) (idsB (by first | omega | (dsimp only; omega))) ⟨rfl, rfl, rfl, rfl, rfl, rfl, rfl, rfl, rfl, rfl, rfl, rfl, trivial⟩ (rfl) (fun a ha => look_MH ha)
  rintro ⟨j, hj, gj⟩
  dsimp only
  refine zH ?_; refine zM ?_; refine zM ?_; refine zE ?_; refine zB ?_; refine zN ?_
  refine zq ?_ ?_ <;> intro h103
  ·
   have ltj : j < n := by simpa [tab] using h103
   refine zW ?_; refine awp_seq ?_; refine awp_block ?_; refine awp_seq ?_; refine awp_draw 11 (by kernel_rfl) (by kernel_rfl) ?_; refine zm ?_
   refine zm ?_; refine zp (q_eown rfl rfl rfl rfl upto_len.symm i rfl lti) ?_
   refine zp (q_loadO rfl rfl rfl upto_len.symm (one_upto (fun _ => rfl) (fun _ => rfl)) i rfl (upto_own lti lti) (fun _ => rfl) rfl) ?_; refine zm ?_
   refine zp (q_eown rfl rfl rfl (look_MH lti) (by rw [List.length_map, ← bRow_len]) j rfl ltj) ?_
   refine zp (q_loadB rfl rfl (bRow n Rk i) (look_MH lti) (bRow_len _ _ _) j rfl (bRow_get ltj)) ?_; refine zm ?_; refine zm ?_; refine zm ?_
   refine zp (q_call (rBelow_fc n f ht i j lti ltj) rfl rfl rfl) ?_; change AOps _ _ _ _ _ _
   refine zP (q_binb (b := false) rfl rfl rfl (congrArg Value.bool (by rw [Lf.wm_end wmn lti ltj]; simp))) ?_
   refine zN ?_; refine c_false rfl rfl ?_; refine awp_skip ?_; change AWP _ _ _ _  _; refine awp_region ?_; refine zM ?_
   refine zP (q_addi rfl rfl rfl (by omega)) ?_; refine zS ?_; refine aops_nil ?_
   exact ⟨⟨j + 1, ltj, trivial⟩, weak_MH (by first | omega | (dsimp only; omega)) (idsB (by first | omega | (dsimp only; omega))) ⟨rfl, rfl, rfl, rfl, rfl, rfl, rfl, rfl, rfl, rfl, (cgI (by dsimp only; omega)), rfl, trivial⟩ (rfl) (fun a ha => look_MH ha), by dsimp only; omega⟩
  have gej : n ≤ j := by simpa [tab] using h103
  refine awp_exit ?_; change AWP _ _ _ _  _; refine awp_region ?_; refine zM ?_; refine zP (q_addi rfl rfl rfl (by omega)) ?_; refine zS ?_
  refine aops_nil ?_
  exact ⟨⟨i + 1, lti, trivial⟩, weak_MH (by first | omega | (dsimp only; omega)) (idsB (by first | omega | (dsimp only; omega))) ⟨rfl, rfl, rfl, rfl, rfl, rfl, rfl, rfl, (cgI (by dsimp only; omega)), rfl, trivial⟩ (rfl) (fun a ha => look_MH ha), by dsimp only; omega⟩
 have gei : n ≤ i := by simpa [tab] using h95
 refine awp_exit ?_; change AWP _ _ _ _  _; refine zG ?_; refine zP (q_call awake14_fc rfl rfl rfl) ?_; refine zM ?_; refine zM ?_; refine zM ?_
 refine zE ?_; refine zP (q_binb (b := true) rfl rfl rfl (by simp)) ?_; refine zh1 rfl ?_; refine zS ?_; refine zQ ?_
 rfl
theorem lawFCov_fc (T : List (List Int)) : FC Tryz.prog 9 [tabs T] (bl true) := by
 cases hF : fewB T with
 | false => exact lawFCov_f T hF
 | true =>
  cases hT : isT T with
  | false => exact lawFCov_n T hF hT
  | true =>
   obtain ⟨n, f, h⟩ := isT_of hT
   have e := h.eq
   subst e
   by_cases h0 : (vio n f).1 = 0
   ·obtain ⟨z, -, Lf⟩ := vio_zero h.lt h0
    exact lawFCov_y n f h hF h0 z Lf
   exact lawFCov_v n f h hF h0
end Go.Proofs.YtaecccdkjmipeaaGreat
