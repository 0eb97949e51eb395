/-
  Contracts over lists of names: names.Sorted and the reference's Has, Subset, Ascending; the law's same.
-/
import Derived.Test.YthgplaledmccgaaW1
namespace Go.Proofs.Ythgplaledmccgaa
open Go.RowKit

set_option maxHeartbeats 400000 in
theorem sorted_any (v : Value) (l : List Nm) (w : World) (h : RdS w v l) :
    Calls Try.prog 72 #[v] w fun e w' => e = .returned (.bool (ascB l)) ∧ ∃ n, w' = w.drewN n := by
  obtain ⟨A, n, c, rfl, hl, hnc, hcm, hcell⟩ := h
  unfold maxLen at hcm
  have HL := Lib.hid hl; clear hl
  have HC := Lib.hid hcell; clear hcell
  have tl := fun (x : List UInt8) => ByteArray.toList_mk x
  go_enter Try.func72, Try.ntmps72
  go_wp2
  go_loopw [3] (fun i wr => ∃ k : Nat, k ≤ n ∧ i = .int .i64 (k + 1) ∧ (∃ m, wr = w.drewN m) ∧ ∀ i (h0 : i + 1 < l.length), i < k → Op.bytesLess (l[i]'(by omega)) (l[i + 1]'h0) = true) (fun i _ => n + 1 - (intOf i).toNat)
  case atStart => exact ⟨0, Nat.zero_le _, rfl, ⟨0, rfl⟩, by intro i h0 h1; omega⟩
  case round =>
    obtain ⟨k, hk, rfl, ⟨m, rfl⟩, hno⟩ := hrel
    have HNO := Lib.hid hno; clear hno
    by_cases hlt : k + 1 < n
    · obtain ⟨b, off, rfl, hb, hc⟩ := HC.out (by omega)
      have hkl : k + 1 < l.length := by rw [HL.out]; exact hlt
      have hc1 := hc k l[k] (List.getElem?_eq_getElem (by omega))
      have hc2 := hc (k + 1) l[k + 1] (List.getElem?_eq_getElem (by omega))
      clear hc
      go_wp2
      go_quiet (fail)
      go_wp2
      · have ht : (!Op.bytesLess l[k] l[k + 1]) = true := by assumption
        go_ret
        refine ⟨ret_bool (Eq.symm ?_), _, World.drewN_drewN _ _ _⟩
        cases hs : ascB l with
        | false => rfl
        | true => rw [get_ascB hs k hkl] at ht; cases ht
      · have ht : (!Op.bytesLess l[k] l[k + 1]) = false := by assumption
        go_roundw
        case rel =>
          refine ⟨k + 1, by omega, by go_num, ⟨_, rfl⟩, fun i h0 h1 => ?_⟩
          by_cases hi : i < k
          · exact HNO.out i h0 hi
          · obtain rfl : i = k := by omega
            simpa using ht
        case measure => simp [intOf]; omega
    · go_wp2
      go_ret
      refine ⟨ret_bool (Eq.symm (ascB_get fun i h0 => HNO.out i h0 ?_)), _, rfl⟩
      have := HL.out
      omega

set_option maxHeartbeats 400000 in
theorem ascending_any (v : Value) (l : List Nm) (w : World) (h : RdS w v l) :
    Calls Try.prog 43 #[v] w fun e w' => e = .returned (.bool (ascB l)) ∧ ∃ n, w' = w.drewN n := by
  obtain ⟨A, n, c, rfl, hl, hnc, hcm, hcell⟩ := h
  unfold maxLen at hcm
  have HL := Lib.hid hl; clear hl
  have HC := Lib.hid hcell; clear hcell
  have tl := fun (x : List UInt8) => ByteArray.toList_mk x
  go_enter Try.func43, Try.ntmps43
  go_wp2
  go_loopw [3] (fun i wr => ∃ k : Nat, k ≤ n ∧ i = .int .i64 (k + 1) ∧ (∃ m, wr = w.drewN m) ∧ ∀ i (h0 : i + 1 < l.length), i < k → Op.bytesLess (l[i]'(by omega)) (l[i + 1]'h0) = true) (fun i _ => n + 1 - (intOf i).toNat)
  case atStart => exact ⟨0, Nat.zero_le _, rfl, ⟨0, rfl⟩, by intro i h0 h1; omega⟩
  case round =>
    obtain ⟨k, hk, rfl, ⟨m, rfl⟩, hno⟩ := hrel
    have HNO := Lib.hid hno; clear hno
    by_cases hlt : k + 1 < n
    · obtain ⟨b, off, rfl, hb, hc⟩ := HC.out (by omega)
      have hkl : k + 1 < l.length := by rw [HL.out]; exact hlt
      have hc1 := hc k l[k] (List.getElem?_eq_getElem (by omega))
      have hc2 := hc (k + 1) l[k + 1] (List.getElem?_eq_getElem (by omega))
      clear hc
      go_wp2
      go_quiet (fail)
      go_wp2
      · have ht : (!Op.bytesLess l[k] l[k + 1]) = true := by assumption
        go_ret
        refine ⟨ret_bool (Eq.symm ?_), _, World.drewN_drewN _ _ _⟩
        cases hs : ascB l with
        | false => rfl
        | true => rw [get_ascB hs k hkl] at ht; cases ht
      · have ht : (!Op.bytesLess l[k] l[k + 1]) = false := by assumption
        go_roundw
        case rel =>
          refine ⟨k + 1, by omega, by go_num, ⟨_, rfl⟩, fun i h0 h1 => ?_⟩
          by_cases hi : i < k
          · exact HNO.out i h0 hi
          · obtain rfl : i = k := by omega
            simpa using ht
        case measure => simp [intOf]; omega
    · go_wp2
      go_ret
      refine ⟨ret_bool (Eq.symm (ascB_get fun i h0 => HNO.out i h0 ?_)), _, rfl⟩
      have := HL.out
      omega

set_option maxHeartbeats 400000 in
theorem has_any (v : Value) (l : List Nm) (name : Nm) (w : World) (h : RdS w v l) :
    Calls Try.prog 33 #[v, .string ⟨name.toArray⟩] w fun e w' => e = .returned (.bool (decide (name ∈ l))) ∧ w = w' := by
  obtain ⟨A, n, c, rfl, hl, hnc, hcm, hcell⟩ := h
  unfold maxLen at hcm
  have HL := Lib.hid hl; clear hl
  have HC := Lib.hid hcell; clear hcell
  have tl := fun (x : List UInt8) => ByteArray.toList_mk x
  go_enter Try.func33, Try.ntmps33
  go_wp2
  go_loop [5] (fun i => ∃ k : Nat, k ≤ n ∧ i = .int .i64 k ∧ ¬ name ∈ l.take k) (fun i => n - (intOf i).toNat)
  case atStart => exact ⟨0, Nat.zero_le _, rfl, by simp⟩
  case round =>
    obtain ⟨k, hk, rfl, hno⟩ := hrel
    have HNO := Lib.hid hno; clear hno
    by_cases hlt : k < n
    · obtain ⟨b, off, rfl, hb, hc⟩ := HC.out (by omega)
      have hkl : k < l.length := by rw [HL.out]; exact hlt
      have hc1 := hc k l[k] (List.getElem?_eq_getElem hkl)
      clear hc
      go_wp2
      · have ht : (l[k] == name) = true := by assumption
        go_ret
        refine ⟨ret_bool (Eq.symm (decide_eq_true ?_)), rfl⟩
        rw [← beq_iff_eq.1 ht]
        exact List.getElem_mem hkl
      · have ht : (l[k] == name) = false := by assumption
        go_round
        case rel =>
          refine ⟨k + 1, by omega, by go_num, fun hm => ?_⟩
          rw [List.take_succ_eq_append_getElem hkl, List.mem_append] at hm
          rcases hm with hm | hm
          · exact HNO.out hm
          · rw [List.mem_singleton] at hm
            rw [hm] at ht
            simp at ht
        case measure => simp [intOf]; omega
    · go_wp2
      go_ret
      refine ⟨ret_bool (Eq.symm (decide_eq_false ?_)), rfl⟩
      have hno := HNO.out
      rwa [List.take_of_length_le (by have := HL.out; omega)] at hno

set_option maxHeartbeats 400000 in
theorem subset_any (va vb : Value) (a b : List Nm) (w : World) (ha : RdS w va a) (hb : RdS w vb b) :
    Calls Try.prog 32 #[va, vb] w fun e w' => e = .returned (.bool (decide (∀ x ∈ a, x ∈ b))) ∧ w = w' := by
  obtain ⟨A, n, c, rfl, hl, hnc, hcm, hcell⟩ := ha
  have HB := Lib.hid hb; clear hb
  unfold maxLen at hcm
  have HL := Lib.hid hl; clear hl
  have HC := Lib.hid hcell; clear hcell
  go_enter Try.func32, Try.ntmps32
  go_wp2
  go_loop [5] (fun i => ∃ k : Nat, k ≤ n ∧ i = .int .i64 k ∧ ∀ x ∈ a.take k, x ∈ b) (fun i => n - (intOf i).toNat)
  case atStart => exact ⟨0, Nat.zero_le _, rfl, by simp⟩
  case round =>
    obtain ⟨k, hk, rfl, hno⟩ := hrel
    have HNO := Lib.hid hno; clear hno
    by_cases hlt : k < n
    · obtain ⟨bl, off, rfl, hbl, hc⟩ := HC.out (by omega)
      have hkl : k < a.length := by rw [HL.out]; exact hlt
      have hc1 := hc k a[k] (List.getElem?_eq_getElem hkl)
      clear hc
      by_cases hm : a[k] ∈ b
      · have HM := Lib.hid hm; clear hm
        go_wp2_with (go_at_call 33; refine (has_any _ b _ _ HB.out).mono ?_; rintro e w' ⟨rfl, rfl⟩; rw [decide_eq_true HM.out])
        go_round
        case rel =>
          refine ⟨k + 1, by omega, by go_num, fun x hx => ?_⟩
          rw [List.take_succ_eq_append_getElem hkl, List.mem_append] at hx
          rcases hx with hx | hx
          · exact HNO.out x hx
          · rw [List.mem_singleton] at hx
            subst hx
            exact HM.out
        case measure => simp [intOf]; omega
      · have HM := Lib.hid hm; clear hm
        go_wp2_with (go_at_call 33; refine (has_any _ b _ _ HB.out).mono ?_; rintro e w' ⟨rfl, rfl⟩; rw [decide_eq_false HM.out])
        go_ret
        refine ⟨ret_bool (Eq.symm (decide_eq_false fun hall => ?_)), rfl⟩
        exact HM.out (hall _ (List.getElem_mem hkl))
    · go_wp2
      go_ret
      refine ⟨ret_bool (Eq.symm (decide_eq_true ?_)), rfl⟩
      have hno := HNO.out
      rwa [List.take_of_length_le (by have := HL.out; omega)] at hno

set_option maxHeartbeats 400000 in
theorem same_any (va vb : Value) (a b : List Nm) (w : World) (ha : RdS w va a) (hb : RdS w vb b) :
    Calls Try.prog 20 #[va, vb] w fun e w' => e = .returned (.bool (decide (a = b))) ∧ ∃ n, w' = w.drewN n := by
  obtain ⟨A, n, c, rfl, hl, hnc, hcm, hcell⟩ := ha
  obtain ⟨A', n', c', rfl, hl', hnc', hcm', hcell'⟩ := hb
  unfold maxLen at hcm hcm'
  have HL := Lib.hid hl; clear hl
  have HC := Lib.hid hcell; clear hcell
  have HL' := Lib.hid hl'; clear hl'
  have HC' := Lib.hid hcell'; clear hcell'
  have tl := fun (x : List UInt8) => ByteArray.toList_mk x
  by_cases hnn : n = n'
  · subst hnn
    go_enter Try.func20, Try.ntmps20
    go_wp2
    go_loopw [5] (fun i wr => ∃ k : Nat, k ≤ n ∧ i = .int .i64 k ∧ (∃ m, wr = w.drewN m) ∧ a.take k = b.take k) (fun i _ => n - (intOf i).toNat)
    case atStart => exact ⟨0, Nat.zero_le _, rfl, ⟨0, rfl⟩, by simp⟩
    case round =>
      obtain ⟨k, hk, rfl, ⟨m, rfl⟩, hno⟩ := hrel
      have HNO := Lib.hid hno; clear hno
      by_cases hlt : k < n
      · obtain ⟨bl, off, rfl, hbl, hc⟩ := HC.out (by omega)
        obtain ⟨bl', off', rfl, hbl', hc'⟩ := HC'.out (by omega)
        have hkl : k < a.length := by rw [HL.out]; exact hlt
        have hkl' : k < b.length := by rw [HL'.out]; exact hlt
        have hc1 := hc k a[k] (List.getElem?_eq_getElem hkl)
        have hc2 := hc' k b[k] (List.getElem?_eq_getElem hkl')
        clear hc hc'
        go_wp2
        go_quiet (fail)
        go_wp2
        · have ht : (a[k] != b[k]) = true := by assumption
          go_ret
          refine ⟨ret_bool (Eq.symm (decide_eq_false fun he => ?_)), _, World.drewN_drewN _ _ _⟩
          subst he
          simp at ht
        · have ht : (a[k] != b[k]) = false := by assumption
          go_roundw
          case rel =>
            refine ⟨k + 1, by omega, by go_num, ⟨_, rfl⟩, ?_⟩
            rw [List.take_succ_eq_append_getElem hkl, List.take_succ_eq_append_getElem hkl', HNO.out]
            have : a[k] = b[k] := by simpa using ht
            rw [this]
          case measure => simp [intOf]; omega
      · go_wp2
        go_ret
        refine ⟨ret_bool (Eq.symm (decide_eq_true ?_)), _, rfl⟩
        have hno := HNO.out
        rwa [List.take_of_length_le (by have := HL.out; omega), List.take_of_length_le (by have := HL'.out; omega)] at hno
  · have hne : ((n : Int) != (n' : Int)) = true := by simp; omega
    go_enter Try.func20, Try.ntmps20
    go_wp2
    go_ret
    refine ⟨ret_bool (Eq.symm (decide_eq_false fun he => hnn ?_)), 0, rfl⟩
    rw [← HL.out, ← HL'.out, he]
end Go.Proofs.Ythgplaledmccgaa
