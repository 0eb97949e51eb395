/-
  Contracts: names.Of at sorted names, Union, Intersect.
  Contracts: copies of names and clocks.
-/
import Derived.Test.YtaecccdkjmipeaaGreatB9
import Derived.Test.YtaecccdkjmipeaaGreatA4
import Derived.Test.YtaecccdkjmipeaaGreatA6
namespace Go.Proofs.YtaecccdkjmipeaaGreat
open Go.RowKit
theorem bl_trans : ∀ {a b d : Nm}, Op.bytesLess a b = true → Op.bytesLess b d = true → Op.bytesLess a d = true
 | _, [], _, h, _ => by rename_i a _; cases a <;> simp [Op.bytesLess] at h
 | [], _ :: _, [], _, h => by simp [Op.bytesLess] at h
 | [], _ :: _, _ :: _, _, _ => rfl
 | _ :: _, _ :: _, [], _, h => by simp [Op.bytesLess] at h
 | x :: a, y :: b, z :: d, h1, h2 => by
  unfold Op.bytesLess at h1 h2 ⊢
  simp only [Bool.or_eq_true, Bool.and_eq_true, decide_eq_true_eq, beq_iff_eq] at h1 h2 ⊢
  rcases h1 with h1 | ⟨rfl, h1⟩ <;> rcases h2 with h2 | ⟨rfl, h2⟩
  ·exact .inl (UInt8.lt_trans h1 h2)
  ·exact .inl h1
  ·exact .inl h2
  exact .inr ⟨rfl, bl_trans h1 h2⟩
theorem bl_le : ∀ {a b : Nm}, Op.bytesLess a b = true → a ≤ b
 | [], _, _ => List.nil_le _
 | _ :: _, [], h => by simp [Op.bytesLess] at h
 | x :: a, y :: b, h => by
  rw [List.cons_le_cons_iff]
  unfold Op.bytesLess at h
  simp only [Bool.or_eq_true, Bool.and_eq_true, decide_eq_true_eq, beq_iff_eq] at h
  rcases h with h | ⟨h1, h2⟩
  ·exact .inl h
  exact .inr ⟨h1, bl_le h2⟩
theorem sorted_pw : ∀ {l : List Nm}, sortedB l = true → l.Pairwise (fun a b => Op.bytesLess a b = true)
 | [], _ => List.Pairwise.nil
 | [_], _ => List.pairwise_singleton _ _
 | a :: b :: l, h => by
  have h : (Op.bytesLess a b && sortedB (b :: l)) = true := h
  rw [Bool.and_eq_true] at h
  have ih := sorted_pw h.2
  refine List.Pairwise.cons (fun d hd => ?_) ih
  rcases List.mem_cons.1 hd with rfl | hd
  ·exact h.1
  exact bl_trans h.1 ((List.pairwise_cons.1 ih).1 d hd)
theorem sorted_id {l : List Nm} (h : sortedB l = true) : (l.mergeSort fun x y => decide (x ≤ y)) = l :=
 List.mergeSort_of_pairwise ((sorted_pw h).imp (fun h => by simpa using bl_le h))

set_option maxRecDepth 100000 in
set_option maxHeartbeats 1000000 in
theorem of_fc (l : List Nm) (hs0 : sortedB l = true) (hl : l.length ≤ 1000000) : FC Tryz.prog 192 [svs l] (svs l) := by
 refine fc_of_awp [2] Tryz.func192 rfl rfl 10 Tryz.ntmps192 (Nat.le_of_ble_eq_true rfl) ?_
 intro E hN
 refine rn7 ?_; refine s_ocall hN rfl (clone_fo l hl) (.fn _ _ _ _ rfl rfl) rfl rfl rfl rfl rfl ?_; refine rn5 ?_
 refine s_sortS hN shc_Sort shc_Sort0 l rfl rfl (by simp) rfl (by omega) rfl rfl rfl rfl ?_
 rw [sorted_id hs0]
 refine rn2 ?_; refine awp_weak (weak_frow 3 0 rfl rfl (by simp) (all_okE okE_nm _) (fzs_nms l) rfl) ?_; refine rn2 ?_
 refine zP (q_call (compact_fc l hs0) rfl rfl rfl) ?_; refine zS ?_; refine zQ ?_
 rfl
theorem merge_fc (a b : List Nm) (ha : sortedB a = true) (hb : sortedB b = true) (hab : a.length + b.length ≤ 1000000) (lf bo ri : Bool) : FC Tryz.prog 179 [svs a, svs b, bl lf, bl bo, bl ri] (svs (mrgT lf bo ri a b)) := merge_s (fun l h1 h2 => of_fc l h1 h2) a b ha hb hab lf bo ri
set_option maxRecDepth 100000 in
set_option maxHeartbeats 1000000 in
theorem union_fc (a b : List Nm) (ha : sortedB a = true) (hb : sortedB b = true) (hab : a.length + b.length ≤ 1000000) : FC Tryz.prog 167 [svs a, svs b] (svs (mrgT true true true a b)) := by
 refine fc_of_awp [4] Tryz.func167 rfl rfl 8 Tryz.ntmps167 (Nat.le_of_ble_eq_true rfl) ?_
 intro E hN
 refine rn8 ?_; refine zP (q_call (merge_fc a b ha hb hab true true true) rfl rfl rfl) ?_; refine zS ?_; refine zQ ?_
 rfl
end Go.Proofs.YtaecccdkjmipeaaGreat

namespace Go.Proofs.YtaecccdkjmipeaaGreat
open Go.RowKit
theorem cloneNm_fc (l : List Nm) (hl : l.length ≤ 1000000) : FC Tryz.prog 113 [svs l] (svs l) := fc_of_fo (clone_fo l hl) (all_okE okE_nm _)
theorem fzs_tks (l : List Tk) : ∀ e ∈ l.map tkC, fzs e = some e := fun e he => by
 obtain ⟨x, -, rfl⟩ := List.mem_map.1 he
 rfl

set_option maxRecDepth 100000 in
set_option maxHeartbeats 1000000 in
theorem cloneTk_fo (l : List Tk) (hl : l.length ≤ 1000000) : FO Tryz.prog 172 [tks l] 153 2 (l.map tkC) := by
 refine fo_of_awp 2 Tryz.func172 rfl rfl 8 Tryz.ntmps172 (Nat.le_of_ble_eq_true rfl) ?_
 intro E hN
 refine rn8 ?_
 refine s_sleq hN rfl rfl rfl rfl rfl rfl rfl (fun b hbb => ?_)
 refine zN ?_
 refine zq ?_ ?_ <;> intro h2
 ·
  have hnil : l = [] := by
   rcases l with _ | ⟨x, r⟩
   ·rfl
   have := hbb (by simp); rw [this] at h2; cases h2
  subst hnil
  refine rn4 ?_; refine awp_weak (weak_own rfl 2 153 2 rfl) ?_; refine awp_ret ?_
  exact ⟨0, 0, rfl, rfl, rfl, fzs_tks []⟩
 refine rn3 ?_; refine s_bslice0 hN rfl rfl rfl rfl rfl rfl ?_; refine zM ?_
 refine s_append_own hN rfl rfl rfl rfl rfl rfl (all_okE okE_tk _) (by simp; omega) rfl rfl rfl rfl ?_
 refine zT ?_; refine awp_ret ?_
 exact ⟨0, _, rfl, by simp, rfl, fzs_tks l⟩
theorem cloneTk_fc (l : List Tk) (hl : l.length ≤ 1000000) : FC Tryz.prog 172 [tks l] (tks l) := fc_of_fo (cloneTk_fo l hl) (all_okE okE_tk _)
end Go.Proofs.YtaecccdkjmipeaaGreat
