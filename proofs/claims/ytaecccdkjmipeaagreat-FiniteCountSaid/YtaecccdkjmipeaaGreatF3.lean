/-
  Contracts: finite.isTable, bottom, violation, Check, usable (seat r5).
  Contracts: finite.violation, Check, usable, below, covers (seat r5).
-/
import Derived.Test.YtaecccdkjmipeaaGreatF2
import Derived.Test.YtaecccdkjmipeaaGreatF1
import Derived.Test.YtaecccdkjmipeaaGreatB8
import Derived.Test.YtaecccdkjmipeaaGreatA10
namespace Go.Proofs.YtaecccdkjmipeaaGreat
open Go.RowKit
set_option maxRecDepth 100000 in
set_option maxHeartbeats 1000000 in
theorem idxFI_fc {g : FuncId} [TFn Tryz.prog g] {cs : List AV} {q : Int → Bool} (l : List Int) (hc : ∀ y ∈ l, FC Tryz.prog g [i64 y, .el cs] (bl (q y))) : FC Tryz.prog 145 [ivs l, .fn g [.el cs]] (i64 (idxF q l 0)) := by
 refine fc_of_awp [4] Tryz.func145 rfl rfl 19 Tryz.ntmps145 (Nat.le_of_ble_eq_true rfl) ?_
 intro E hN
 refine a_lm 0 rfl (fun hl0 => ?_)
 refine rn12 ?_
 refine awp_loop (fun x : {k : Nat // k ≤ (l).length ∧ idxF q (l.drop k) k = idxF q l 0} => ⟨[(0, ivs l), (1, .fn g [.el cs]), (7, i64 l.length), (8, i64 (x.1 : Nat))], [], 0⟩) (fun x => (l).length - x.1) (⟨0, Nat.zero_le _, by simp⟩) ?_ ?_
 ·
  exact weak_scrub' rfl (zz2 ⟨(cgI (by simp)), rfl, (zz1 trivial)⟩) trivial
 rintro ⟨k, hk, hg⟩
 dsimp only
 refine rn5 ?_
 refine zq ?_ ?_ <;> intro h8
 ·
  have hlt : k < (l).length := by simpa using h8
  obtain ⟨x, hx⟩ := get_lt hlt
  have hs : idxF q l 0 = if q x then (k : Int) else idxF q (l.drop (k + 1)) (k + 1) := by rw [← hg, drop_get hx]; rfl
  refine rn13 ?_; refine zP (q_elem rfl rfl rfl k rfl _ (map_get hx) rfl) ?_; refine zL ?_
  refine zP (q_callv (hc x (List.mem_of_getElem? hx)) rfl rfl rfl rfl) ?_; refine zN ?_
  refine zq ?_ ?_ <;> intro h11
  ·
   have h4 := h11
   refine rn4 ?_; refine zQ ?_
   exact retI (by rw [hs, if_pos (by simp_all)])
  have hn : idxF q (l.drop (k + 1)) (k + 1) = idxF q l 0 := by rw [hs, if_neg (by simp_all)]
  refine rn2 ?_; refine zP (q_addi rfl rfl rfl (by omega)) ?_; refine zM ?_; refine aops_nil ?_
  exact ⟨⟨k + 1, hlt, hn⟩, weak_scrub' rfl (zz3 ⟨(cgI (by dsimp only; omega)), rfl, trivial⟩) trivial, by dsimp only; omega⟩
 have hge : (l).length ≤ k := by simpa using h8
 refine rn4 ?_; refine zQ ?_
 exact retI (by rw [← hg, List.drop_of_length_le hge]; rfl)
set_option maxRecDepth 100000 in
set_option maxHeartbeats 1000000 in
theorem anyFI_fc {g : FuncId} [TFn Tryz.prog g] {cs : List AV} {q : Int → Bool} (l : List Int) (hc : ∀ y ∈ l, FC Tryz.prog g [i64 y, .el cs] (bl (q y))) : FC Tryz.prog 98 [ivs l, .fn g [.el cs]] (bl (l.any q)) := by
 refine fc_of_awp [4] Tryz.func98 rfl rfl 9 Tryz.ntmps98 (Nat.le_of_ble_eq_true rfl) ?_
 intro E hN
 refine rn8 ?_; refine zP (q_call (idxFI_fc l hc) rfl rfl rfl) ?_; refine rn2 ?_; refine zQ ?_
 exact retB (idxF_any q l 0)
set_option maxRecDepth 100000 in
set_option maxHeartbeats 1000000 in
theorem isT1_fc (x n : Int) : FC Tryz.prog 99 [i64 x, .el [i64 n]] (bl (decide (x < 0) || decide (x ≥ n))) := by
 refine fc_of_awp [3] Tryz.func99 rfl rfl 11 Tryz.ntmps99 (Nat.le_of_ble_eq_true rfl) ?_
 intro E hN
 refine rn9 ?_
 refine zc 6 ?_ ?_ <;> intro h2
 ·
  iterate 3 refine uK (w10 h2) ?_
  refine zh1 h2 ?_; refine zS ?_; refine zQ ?_
  all_goals exact retB (by simp_all <;> (intro; omega))
 refine uM (w00 h2) ?_; refine uL (w00 h2) ?_; refine uP (w00 h2) (q_bin rfl rfl rfl) ?_; refine zh0 h2 ?_; refine zS ?_; refine zQ ?_
 all_goals exact retB (by simp_all <;> (intro; omega))
theorem cgEl {a b : Int} (h : a = b) : some (AV.el [i64 a]) = some (AV.el [i64 b]) := by rw [h]
theorem rowOk_any (n : Int) (r : List Int) : (r.all fun x => !(decide (x < 0) || decide (x ≥ n))) = !(r.any fun x => decide (x < 0) || decide (x ≥ n)) := by
 induction r with
 | nil => rfl
 | cons a r ih => rw [List.all_cons, List.any_cons, ih, Bool.not_or, Bool.not_or, Bool.not_or]
set_option maxRecDepth 100000 in
set_option maxHeartbeats 1000000 in
theorem isTable_fc (T : List (List Int)) : FC Tryz.prog 61 [tabs T] (bl (isT T)) := by
 refine fc_of_awp [2] Tryz.func61 rfl rfl 30 Tryz.ntmps61 (Nat.le_of_ble_eq_true rfl) ?_
 intro E hN
 refine a_lm 0 rfl (fun hl0 => ?_)
 refine rn17 ?_
 refine zc 10 ?_ ?_ <;> intro h6
 ·
  iterate 2 refine uK (w10 h6) ?_
  refine zh1 h6 ?_; refine zN ?_; refine c_true rfl rfl ?_; refine rn3 ?_; refine zQ ?_
  all_goals exact retB (by rw [isT_eq]; simp_all)
 refine uL (w00 h6) ?_; refine uP (w00 h6) (q_bin rfl rfl rfl) ?_; refine zh0 h6 ?_; refine zN ?_
 refine zq ?_ ?_ <;> intro h8
 ·
  have h2 := h8
  refine rn3 ?_; refine zQ ?_
  all_goals exact retB (by rw [isT_eq]; simp_all)
 have h2 := h8
 refine rn3 ?_; refine awp_weak (weak_freeze 3 0 rfl rfl rfl rfl) ?_; refine rn6 ?_
 refine awp_loop (fun x : {k : Nat // k ≤ (T).length ∧ (T.drop k).all (rowOk T.length) = T.all (rowOk T.length)} => ⟨[(3, .el [i64 T.length]), (14, tabs T), (15, i64 T.length), (16, i64 (x.1 : Nat))], [], 1⟩) (fun x => (T).length - x.1) (⟨0, Nat.zero_le _, by simp⟩) ?_ ?_
 ·
  exact weak_scrub' rfl ⟨(cgEl (by simp)), rfl, rfl, rfl, (cgI (by simp)), rfl, (zz1 trivial)⟩ trivial
 rintro ⟨k, hk, hg⟩
 dsimp only
 refine rn5 ?_
 refine zq ?_ ?_ <;> intro h14
 ·
  have hlt : k < (T).length := by simpa using h14
  obtain ⟨x, hx⟩ := get_lt hlt
  refine rn5 ?_; refine zP (q_elem rfl rfl rfl k rfl _ (map_get hx) rfl) ?_; refine rn10 ?_
  refine zc 24 ?_ ?_ <;> intro h19
  ·
   iterate 3 refine uK (w10 h19) ?_
   refine zh1 h19 ?_; refine zN ?_; refine c_true rfl rfl ?_; refine rn3 ?_; refine zQ ?_
   all_goals exact retB (by rw [isT_eq, all_no hg hx (by rw [rowOk, rowOk_any]; simp_all), Bool.and_false])
  refine uM (w00 h19) ?_; refine uP (w00 h19) (q_func rfl rfl) ?_
  refine uP (w00 h19) (q_call (anyFI_fc x (fun y _ => isT1_fc y T.length)) rfl rfl rfl) ?_; refine zh0 h19 ?_; refine zN ?_
  refine zq ?_ ?_ <;> intro h21
  ·
   refine rn3 ?_; refine zQ ?_
   all_goals exact retB (by rw [isT_eq, all_no hg hx (by rw [rowOk, rowOk_any]; simp_all), Bool.and_false])
  refine rn2 ?_; refine zP (q_addi rfl rfl rfl (by omega)) ?_; refine zM ?_; refine aops_nil ?_
  exact ⟨⟨k + 1, hlt, all_go hg hx (by rw [rowOk, rowOk_any]; simp_all)⟩, weak_scrub' rfl (zz3 ⟨(cgI (by dsimp only; omega)), rfl, trivial⟩) trivial, by dsimp only; omega⟩
 have hge : (T).length ≤ k := by simpa using h14
 refine rn4 ?_; refine zQ ?_
 all_goals exact retB (by rw [isT_eq, all_end hg hge]; simp_all)
/-- what bottom returns -/
def botR (n : Nat) (f : Nat → Nat → Nat) : AV := .tup [i64 ((bot n f).getD 0 : Nat), bl (bot n f).isSome]
theorem beqN (a b : Nat) : ((a : Int) == (b : Int)) = (a == b) := by rw [Bool.eq_iff_iff, beq_iff_eq, beq_iff_eq]; omega
theorem bneN (a b : Nat) : ((a : Int) != (b : Int)) = (a != b) := by rw [bne, bne, beqN]
set_option maxRecDepth 100000 in
set_option maxHeartbeats 1000000 in
theorem fbot_fc (n : Nat) (f : Nat → Nat → Nat) (h256 : n ≤ 256) (hlt : ∀ i j, i < n → j < n → f i j < n) : FC Tryz.prog 100 [tabs (tab n f)] (botR n f) := by
 refine fc_of_awp [2, 3] Tryz.func100 rfl rfl 44 Tryz.ntmps100 (Nat.le_of_ble_eq_true rfl) ?_
 intro E hN
 refine rn13 ?_
 refine awp_loop (fun x : {b : Nat // b ≤ n ∧ ff (fun b => if neu f b n then some b else none) n b = bot n f} => ⟨[(0, tabs (tab n f)), (7, tabs (tab n f)), (8, i64 n), (9, i64 (x.1 : Nat))], [], 0⟩) (fun x => n - x.1) (⟨0, Nat.zero_le _, by rfl⟩) ?_ ?_
 ·
  exact weak_scrub' rfl (zz2 ⟨(cgI (by simp [tab])), rfl, (zz1 trivial)⟩) trivial
 rintro ⟨b, hb, gb⟩
 dsimp only
 refine rn5 ?_
 refine zq ?_ ?_ <;> intro h7
 ·
  have ltb : b < n := by simpa using h7
  refine rn20 ?_
  refine awp_loop (fun x : {i : Nat // i ≤ n ∧ True} => ⟨[(0, tabs (tab n f)), (7, tabs (tab n f)), (8, i64 n), (9, i64 (b : Nat)), (4, i64 (b : Nat)), (5, bl (neu f b x.1)), (12, tabs (tab n f)), (13, i64 n), (14, i64 (x.1 : Nat))], [], 0⟩) (fun x => n - x.1) (⟨0, Nat.zero_le _, by trivial⟩) ?_ ?_
  ·
   exact weak_scrub' rfl (zz4 (zz3 ⟨(cgI (by simp [tab])), rfl, (zz1 trivial)⟩)) trivial
  rintro ⟨i, hi, gi⟩
  dsimp only
  refine rn5 ?_
  refine zq ?_ ?_ <;> intro h18
  ·
   have lti : i < n := by simpa using h18
   refine rn11 ?_
   refine zc 18 ?_ ?_ <;> intro h14
   ·
    refine uM (w11 h14) ?_; refine uM (w11 h14) ?_; refine uP (w11 h14) (q_elem rfl rfl rfl b rfl _ (tab_get ltb) rfl) ?_; refine uL (w11 h14) ?_
    refine uM (w11 h14) ?_; refine uP (w11 h14) (q_elem rfl rfl rfl i rfl _ (rowL_get lti) rfl) ?_; refine uL (w11 h14) ?_; refine uM (w11 h14) ?_
    refine uP (w11 h14) (q_bin rfl rfl rfl) ?_; refine zh1 h14 ?_; refine zM ?_
    refine zc 29 ?_ ?_ <;> intro h23
    ·
     refine uM (w11 h23) ?_; refine uM (w11 h23) ?_; refine uP (w11 h23) (q_elem rfl rfl rfl i rfl _ (tab_get lti) rfl) ?_; refine uL (w11 h23) ?_
     refine uM (w11 h23) ?_; refine uP (w11 h23) (q_elem rfl rfl rfl b rfl _ (rowL_get ltb) rfl) ?_; refine uL (w11 h23) ?_; refine uM (w11 h23) ?_
     refine uP (w11 h23) (q_bin rfl rfl rfl) ?_; refine zh1 h23 ?_; refine rn3 ?_; refine zP (q_addi rfl rfl rfl (by omega)) ?_; refine zM ?_
     refine aops_nil ?_
     exact ⟨⟨i + 1, lti, trivial⟩, weak_scrub' rfl (zz4 (zz1 ⟨(cgB (by rw [neu_succ]; simp_all [beqN])), rfl, (zz2 ⟨(cgI (by dsimp only; omega)), rfl, trivial⟩)⟩)) trivial, by dsimp only; omega⟩
    iterate 9 refine uK (w01 h23) ?_
    refine zh0 h23 ?_; refine rn3 ?_; refine zP (q_addi rfl rfl rfl (by omega)) ?_; refine zM ?_; refine aops_nil ?_
    exact ⟨⟨i + 1, lti, trivial⟩, weak_scrub' rfl (zz4 (zz1 ⟨(cgB (by rw [neu_succ]; simp_all [beqN])), rfl, (zz2 ⟨(cgI (by dsimp only; omega)), rfl, trivial⟩)⟩)) trivial, by dsimp only; omega⟩
   iterate 9 refine uK (w01 h14) ?_
   refine zh0 h14 ?_; refine rn10 ?_; refine zh0 rfl ?_; refine rn3 ?_; refine zP (q_addi rfl rfl rfl (by omega)) ?_; refine zM ?_; refine aops_nil ?_
   exact ⟨⟨i + 1, lti, trivial⟩, weak_scrub' rfl (zz4 (zz1 ⟨(cgB (by rw [neu_succ]; simp_all [beqN])), rfl, (zz2 ⟨(cgI (by dsimp only; omega)), rfl, trivial⟩)⟩)) trivial, by dsimp only; omega⟩
  have gei : n ≤ i := by simpa using h18
  obtain rfl : i = n := by omega
  refine rn5 ?_
  refine zq ?_ ?_ <;> intro h14
  ·
   have h10 := h14
   refine rn5 ?_; refine zQ ?_
   show AV.tup [i64 b, bl true] = botR i f
   have e : bot i f = some b := by rw [← gb, ff_lt ltb, if_pos h10]; rfl
   rw [botR, e]; rfl
  have h10 := h14
  refine rn2 ?_; refine zP (q_addi rfl rfl rfl (by omega)) ?_; refine zM ?_; refine aops_nil ?_
  exact ⟨⟨b + 1, ltb, by rw [← gb, ff_lt ltb, if_neg (by simp_all)]; rfl⟩, weak_scrub' rfl (zz3 ⟨(cgI (by dsimp only; omega)), rfl, trivial⟩) trivial, by dsimp only; omega⟩
 have geb : n ≤ b := by simpa using h7
 refine rn5 ?_; refine zQ ?_
 show AV.tup [i64 0, bl false] = botR n f
 have e : bot n f = none := by rw [← gb, ff_ge geb]
 rw [botR, e]; rfl
end Go.Proofs.YtaecccdkjmipeaaGreat

namespace Go.Proofs.YtaecccdkjmipeaaGreat
open Go.RowKit
theorem ff_go {α : Type} {p : Nat → Option α} {n k : Nat} {X : Option α} (hk : k < n) (h : ff p n k = X) (hp : p k = none) : ff p n (k + 1) = X := by rw [← h, ff_lt hk, hp]; rfl
theorem ff_at {α : Type} {p : Nat → Option α} {n k : Nat} {X : Option α} {y : α} (hk : k < n) (h : ff p n k = X) (hp : p k = some y) : X = some y := by rw [← h, ff_lt hk, hp]; rfl
theorem ff_no {α : Type} {p : Nat → Option α} {n k : Nat} {X : Option α} (hk : n ≤ k) (h : ff p n k = X) : X = none := by rw [← h, ff_ge hk]
/-- inside: what is left of the row, then what is left of the rows -/
theorem fo_in {α : Type} {p : Nat → Option α} {q : Nat → Option α} {n k a m : Nat} {X : Option α} (hk : k < n) (h : ff p n k = X) (hp : p k = ff q m a) : (ff q m a).or (ff p n (k + 1)) = X := by rw [← h, ff_lt hk, hp]
theorem fo_go {α : Type} {q : Nat → Option α} {m b : Nat} {r X : Option α} (hb : b < m) (h : (ff q m b).or r = X) (hq : q b = none) : (ff q m (b + 1)).or r = X := by rw [← h, ff_lt hb, hq]; rfl
theorem fo_at {α : Type} {q : Nat → Option α} {m b : Nat} {r X : Option α} {y : α} (hb : b < m) (h : (ff q m b).or r = X) (hq : q b = some y) : X = some y := by rw [← h, ff_lt hb, hq]; rfl
theorem fo_end {α : Type} {q : Nat → Option α} {m b : Nat} {r X : Option α} (hb : m ≤ b) (h : (ff q m b).or r = X) : r = X := by rw [← h, ff_ge hb]; rfl
theorem vio_1 {n : Nat} {f : Nat → Nat → Nat} {r : Nat × Nat × Nat × Nat} (h : vio1 n f = some r) : vio n f = r := by rw [vio, h]; rfl
theorem vio_2 {n : Nat} {f : Nat → Nat → Nat} {r : Nat × Nat × Nat × Nat} (h1 : vio1 n f = none) (h : vio2 n f = some r) : vio n f = r := by rw [vio, h1, h]; rfl
theorem vio_3 {n : Nat} {f : Nat → Nat → Nat} {r : Nat × Nat × Nat × Nat} (h1 : vio1 n f = none) (h2 : vio2 n f = none) (h : vio3 n f = some r) : vio n f = r := by rw [vio, h1, h2, h]; rfl
theorem vio_4 {n : Nat} {f : Nat → Nat → Nat} (h1 : vio1 n f = none) (h2 : vio2 n f = none) (h3 : vio3 n f = none) : vio n f = if bot n f = none then (4, 0, 0, 0) else (0, 0, 0, 0) := by rw [vio, h1, h2, h3]; rfl
set_option maxRecDepth 100000 in
set_option maxHeartbeats 1000000 in
theorem violation_fc (n : Nat) (f : Nat → Nat → Nat) (h256 : n ≤ 256) (hlt : ∀ i j, i < n → j < n → f i j < n) : FC Tryz.prog 62 [tabs (tab n f)] (.agg (nat4 (vio n f))) := by
 refine fc_of_awpR [.c 2 48 4 true] ⟨⟨inferInstance, rfl⟩, trivial⟩ Tryz.func62 rfl rfl 115 Tryz.ntmps62 (Nat.le_of_ble_eq_true rfl) ?_
 intro E hN
 refine rn12 ?_
 refine awp_loop (fun x : {a : Nat // a ≤ n ∧ ff (fun a => if f a a = a then none else some (1, a, 0, 0)) n a = vio1 n f} => ⟨[(2, .ptr 0 0), (0, tabs (tab n f)), (12, tabs (tab n f)), (13, i64 n), (14, i64 (x.1 : Nat))], [(0, .var 48 [i64 0, i64 0, i64 0, i64 0])], 1⟩) (fun x => n - x.1) (⟨0, Nat.zero_le _, by rfl⟩) ?_ ?_
 ·
  exact weak_scrub' rfl (zz3 ⟨(cgI (by simp [tab])), rfl, (zz1 trivial)⟩) ⟨rfl, rfl, rfl, trivial⟩
 rintro ⟨a, ha, ga⟩
 dsimp only
 refine rn5 ?_
 refine zq ?_ ?_ <;> intro h9
 ·
  have lta : a < n := by simpa using h9
  refine rn12 ?_; refine zP (q_elem rfl rfl rfl a rfl _ (tab_get lta) rfl) ?_; refine rn2 ?_
  refine zP (q_elem rfl rfl rfl a rfl _ (rowL_get lta) rfl) ?_; refine rn4 ?_
  refine zq ?_ ?_ <;> intro h14
  ·
   have h4 : f a a ≠ a := by simpa [bneN] using h14
   refine rn6 ?_; refine awp_ret ?_
   change (resY _ _).bind AV.fzt = some _
   refine ret_r rfl ?_
   rw [vio_1 (ff_at lta ga (if_neg h4))]; rfl
  have h4 : f a a = a := by simpa [bneN] using h14
  refine rn2 ?_; refine zP (q_addi rfl rfl rfl (by omega)) ?_; refine zM ?_; refine aops_nil ?_
  exact ⟨⟨a + 1, lta, ff_go lta ga (if_pos h4)⟩, weak_scrub' rfl (zz4 ⟨(cgI (by dsimp only; omega)), rfl, trivial⟩) ⟨rfl, rfl, rfl, trivial⟩, by dsimp only; omega⟩
 have gea : n ≤ a := by simpa using h9
 have e1 := ff_no gea ga
 refine rn9 ?_
 refine awp_loop (fun x : {a : Nat // a ≤ n ∧ ff (fun a => ff (vio2a f a) n (a + 1)) n a = vio2 n f} => ⟨[(2, .ptr 0 0), (0, tabs (tab n f)), (30, i64 n), (31, i64 (x.1 : Nat))], [(0, .var 48 [i64 0, i64 0, i64 0, i64 0])], 1⟩) (fun x => n - x.1) (⟨0, Nat.zero_le _, by rfl⟩) ?_ ?_
 ·
  exact weak_scrub' rfl (zz2 ⟨(cgI (by simp [tab])), rfl, (zz1 trivial)⟩) ⟨rfl, rfl, rfl, trivial⟩
 rintro ⟨a, ha, ga⟩
 dsimp only
 refine rn5 ?_
 refine zq ?_ ?_ <;> intro h23
 ·
  have lta : a < n := by simpa using h23
  refine rn11 ?_; refine zP (q_addi rfl rfl rfl (by omega)) ?_; refine rn3 ?_
  refine awp_loop (fun x : {b : Nat // a + 1 ≤ b ∧ b ≤ n ∧ (ff (vio2a f a) n b).or (ff (fun a => ff (vio2a f a) n (a + 1)) n (a + 1)) = vio2 n f} => ⟨[(2, .ptr 0 0), (0, tabs (tab n f)), (30, i64 n), (31, i64 (a : Nat)), (4, i64 (a : Nat)), (5, i64 (x.1 : Nat))], [(0, .var 48 [i64 0, i64 0, i64 0, i64 0])], 1⟩) (fun x => n - x.1) (⟨a + 1, Nat.le_refl _, by omega, fo_in lta ga rfl⟩) ?_ ?_
  ·
   exact weak_scrub' rfl (zz4 (zz1 ⟨(cgI (by dsimp only; omega)), rfl, trivial⟩)) ⟨rfl, rfl, rfl, trivial⟩
  rintro ⟨b, hab, hb, gb⟩
  dsimp only
  refine rn8 ?_
  refine zq ?_ ?_ <;> intro h32
  ·
   have ltb : b < n := by simpa [tab] using h32
   refine rn4 ?_; refine awp_draw 14 (by kernel_rfl) (by kernel_rfl) ?_; refine rn2 ?_; refine zp (q_elem rfl rfl rfl a rfl _ (tab_get lta) rfl) ?_
   refine rn2 ?_; refine zp (q_elem rfl rfl rfl b rfl _ (rowL_get ltb) rfl) ?_; refine rn3 ?_
   refine zp (q_elem rfl rfl rfl b rfl _ (tab_get ltb) rfl) ?_; refine rn2 ?_; refine zp (q_elem rfl rfl rfl a rfl _ (rowL_get lta) rfl) ?_
   refine zl ?_; change AOps _ _ _ _ _ _; refine rn2 ?_
   refine zq ?_ ?_ <;> intro h41
   ·
    have h13 : ¬ f a b = f b a := by simpa [bneN] using h41
    refine rn7 ?_; refine awp_ret ?_
    change (resY _ _).bind AV.fzt = some _
    refine ret_r rfl ?_
    rw [vio_2 e1 (fo_at ltb gb (by rw [vio2a, if_neg h13]))]; rfl
   have h13 : f a b = f b a := by simpa [bneN] using h41
   refine rn3 ?_; refine zP (q_addi rfl rfl rfl (by omega)) ?_; refine zS ?_; refine aops_nil ?_
   exact ⟨⟨b + 1, by omega, ltb, fo_go ltb gb (by rw [vio2a, if_pos h13])⟩, weak_scrub' rfl (zz4 (zz1 ⟨(cgI (by dsimp only; omega)), rfl, trivial⟩)) ⟨rfl, rfl, rfl, trivial⟩, by dsimp only; omega⟩
  have geb : n ≤ b := by simpa [tab] using h32
  refine rn2 ?_; refine zP (q_addi rfl rfl rfl (by omega)) ?_; refine zM ?_; refine aops_nil ?_
  exact ⟨⟨a + 1, lta, (fo_end geb gb)⟩, weak_scrub' rfl (zz3 ⟨(cgI (by dsimp only; omega)), rfl, trivial⟩) ⟨rfl, rfl, rfl, trivial⟩, by dsimp only; omega⟩
 have gea : n ≤ a := by simpa using h23
 have e2 := ff_no gea ga
 refine rn9 ?_
 refine awp_loop (fun x : {a : Nat // a ≤ n ∧ ff (fun a => ff (fun b => ff (vio3a f a b) n 0) n 0) n a = vio3 n f} => ⟨[(2, .ptr 0 0), (0, tabs (tab n f)), (61, tabs (tab n f)), (62, i64 n), (63, i64 (x.1 : Nat))], [(0, .var 48 [i64 0, i64 0, i64 0, i64 0])], 1⟩) (fun x => n - x.1) (⟨0, Nat.zero_le _, by rfl⟩) ?_ ?_
 ·
  exact weak_scrub' rfl (zz3 ⟨(cgI (by simp [tab])), rfl, (zz1 trivial)⟩) ⟨rfl, rfl, rfl, trivial⟩
 rintro ⟨a, ha, ga⟩
 dsimp only
 refine rn5 ?_
 refine zq ?_ ?_ <;> intro h52
 ·
  have lta : a < n := by simpa using h52
  refine rn6 ?_; refine zP (q_elem rfl rfl rfl a rfl _ (tab_get lta) rfl) ?_; refine rn11 ?_
  refine awp_loop (fun x : {b : Nat // b ≤ n ∧ (ff (fun b => ff (vio3a f a b) n 0) n b).or (ff (fun a => ff (fun b => ff (vio3a f a b) n 0) n 0) n (a + 1)) = vio3 n f} => ⟨[(2, .ptr 0 0), (0, tabs (tab n f)), (61, tabs (tab n f)), (62, i64 n), (63, i64 (a : Nat)), (6, i64 (a : Nat)), (7, ivs (rowL n f a)), (69, i64 n), (70, i64 (x.1 : Nat))], [(0, .var 48 [i64 0, i64 0, i64 0, i64 0])], 1⟩) (fun x => n - x.1) (⟨0, Nat.zero_le _, by exact fo_in lta ga rfl⟩) ?_ ?_
  ·
   exact weak_scrub' rfl (zz4 (zz3 ⟨(cgI (by simp [tab])), rfl, (zz1 trivial)⟩)) ⟨rfl, rfl, rfl, trivial⟩
  rintro ⟨b, hb, gb⟩
  dsimp only
  refine rn5 ?_
  refine zq ?_ ?_ <;> intro h65
  ·
   have ltb : b < n := by simpa using h65
   refine rn15 ?_
   refine awp_loop (fun x : {c : Nat // c ≤ n ∧ (ff (vio3a f a b) n c).or ((ff (fun b => ff (vio3a f a b) n 0) n (b + 1)).or (ff (fun a => ff (fun b => ff (vio3a f a b) n 0) n 0) n (a + 1))) = vio3 n f} => ⟨[(2, .ptr 0 0), (0, tabs (tab n f)), (61, tabs (tab n f)), (62, i64 n), (63, i64 (a : Nat)), (6, i64 (a : Nat)), (7, ivs (rowL n f a)), (69, i64 n), (70, i64 (b : Nat)), (8, i64 (b : Nat)), (74, i64 n), (75, i64 (x.1 : Nat))], [(0, .var 48 [i64 0, i64 0, i64 0, i64 0])], 1⟩) (fun x => n - x.1) (⟨0, Nat.zero_le _, by rw [← Option.or_assoc]; rw [ff_lt ltb] at gb; exact gb⟩) ?_ ?_
   ·
    exact weak_scrub' rfl (zz4 (zz4 (zz2 ⟨(cgI (by simp [tab])), rfl, (zz1 trivial)⟩))) ⟨rfl, rfl, rfl, trivial⟩
   rintro ⟨c, hc, gc⟩
   dsimp only
   refine rn5 ?_
   refine zq ?_ ?_ <;> intro h79
   ·
    have ltc : c < n := by simpa using h79
    refine rn9 ?_; refine awp_draw 20 (by kernel_rfl) (by kernel_rfl) ?_; refine rn3 ?_; refine zp (q_elem rfl rfl rfl b rfl _ (rowL_get ltb) rfl) ?_
    refine zl ?_; refine zp (q_elem rfl rfl rfl (f a b) rfl _ (tab_get (hlt a b lta ltb)) rfl) ?_; refine rn2 ?_
    refine zp (q_elem rfl rfl rfl c rfl _ (rowL_get ltc) rfl) ?_; refine rn4 ?_; refine zp (q_elem rfl rfl rfl b rfl _ (tab_get ltb) rfl) ?_
    refine rn2 ?_; refine zp (q_elem rfl rfl rfl c rfl _ (rowL_get ltc) rfl) ?_; refine zl ?_
    refine zp (q_elem rfl rfl rfl (f b c) rfl _ (rowL_get (hlt b c ltb ltc)) rfl) ?_; refine zl ?_; change AOps _ _ _ _ _ _; refine rn2 ?_
    refine zq ?_ ?_ <;> intro h92
    ·
     have h25 : ¬ f (f a b) c = f a (f b c) := by simpa [bneN] using h92
     refine rn8 ?_; refine awp_ret ?_
     change (resY _ _).bind AV.fzt = some _
     refine ret_r rfl ?_
     rw [vio_3 e1 e2 (fo_at ltc gc (by rw [vio3a, if_neg h25]))]; rfl
    have h25 : f (f a b) c = f a (f b c) := by simpa [bneN] using h92
    refine rn2 ?_; refine zP (q_addi rfl rfl rfl (by omega)) ?_; refine zM ?_; refine aops_nil ?_
    exact ⟨⟨c + 1, ltc, fo_go ltc gc (by rw [vio3a, if_pos h25])⟩, weak_scrub' rfl (zz4 (zz4 (zz3 ⟨(cgI (by dsimp only; omega)), rfl, trivial⟩))) ⟨rfl, rfl, rfl, trivial⟩, by dsimp only; omega⟩
   have gec : n ≤ c := by simpa using h79
   refine rn2 ?_; refine zP (q_addi rfl rfl rfl (by omega)) ?_; refine zM ?_; refine aops_nil ?_
   exact ⟨⟨b + 1, ltb, (fo_end gec gc)⟩, weak_scrub' rfl (zz4 (zz4 ⟨(cgI (by dsimp only; omega)), rfl, trivial⟩)) ⟨rfl, rfl, rfl, trivial⟩, by dsimp only; omega⟩
  have geb : n ≤ b := by simpa using h65
  refine rn2 ?_; refine zP (q_addi rfl rfl rfl (by omega)) ?_; refine zM ?_; refine aops_nil ?_
  exact ⟨⟨a + 1, lta, (fo_end geb gb)⟩, weak_scrub' rfl (zz4 ⟨(cgI (by dsimp only; omega)), rfl, trivial⟩) ⟨rfl, rfl, rfl, trivial⟩, by dsimp only; omega⟩
 have gea : n ≤ a := by simpa using h52
 have e3 := ff_no gea ga
 refine rn5 ?_; refine zP (q_call (fbot_fc n f h256 hlt) rfl rfl rfl) ?_; refine rn11 ?_
 refine zq ?_ ?_ <;> intro h100
 ·
  have h31 := h100
  refine rn5 ?_; refine awp_ret ?_
  change (resY _ _).bind AV.fzt = some _
  refine ret_r rfl ?_
  rw [vio_4 e1 e2 e3, if_pos (by simpa using h31)]; rfl
 have h31 := h100
 refine rn6 ?_; refine awp_ret ?_
 change (resY _ _).bind AV.fzt = some _
 refine ret_r rfl ?_
 rw [vio_4 e1 e2 e3, if_neg (by intro e; simp [e] at h31)]; rfl
end Go.Proofs.YtaecccdkjmipeaaGreat
