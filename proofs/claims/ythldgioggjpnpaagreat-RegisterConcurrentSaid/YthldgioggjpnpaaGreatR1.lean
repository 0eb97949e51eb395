/-
  Contracts: clock.Valid, the reference's Valid, Get.
-/
import Derived.Test.YthldgioggjpnpaaGreatRSpec
namespace Go.Proofs.YthldgioggjpnpaaGreat
open Go.RowKit

theorem ret_bool {a b : Bool} (h : a = b) : Ending.returned (.bool a) = .returned (.bool b) := by rw [h]

set_option maxRecDepth 100000 in
set_option maxHeartbeats 1000000 in
theorem cvalid_any (v : Value) (ts : List Tk) (w : World) (h : RdT w v ts) :
    Calls Tryz.prog 55 #[v] w fun e w' => e = .returned (.bool (validT ts)) ∧ Ext w w' := by
  have H := Lib.hid h
  obtain ⟨A, n, c, rfl, hl, hnc, hcm, -⟩ := h
  unfold maxLen at hcm
  have HL := Lib.hid hl; clear hl
  go_enter Tryz.func55, Tryz.ntmps55
  go_wp2_with (fail)
  go_loopw [3, 8] (fun la i wr => ∃ (k : Nat) (last : Int), k ≤ n ∧ i = .int .i64 k ∧ la = .int .i64 last ∧ goodF last (ts.drop k) = validT ts ∧ Ext w wr) (fun _ i _ => n - (intOf i).toNat)
  case atStart => exact ⟨0, -1, Nat.zero_le _, rfl, rfl, rfl, Ext.refl _⟩
  case round =>
    obtain ⟨k, last, hk, rfl, rfl, hg, hE⟩ := hrel
    have HG := Lib.hid hg; clear hg
    by_cases hlt : k < n
    · obtain ⟨b, off, t, rfl, hb, ht, c0, c1⟩ := RdT.tick (H.out.ext hE) hlt
      have hd : ts.drop k = t :: ts.drop (k + 1) := by
        obtain ⟨hk', rfl⟩ := List.getElem?_eq_some_iff.1 ht
        exact List.drop_eq_getElem_cons hk'
      have HD := Lib.hid hd; clear hd ht
      obtain ⟨p, m⟩ := t
      dsimp only at c0 c1
      have hw : b < (wr.alloc (.cells #[.int .i64 0, .int .i64 0] 40)).heap.size := by simp; omega
      by_cases hok : okTk last (p, m) = true
      · have HOK := Lib.hid hok
        simp only [okTk, Bool.and_eq_true, decide_eq_true_eq] at hok
        obtain ⟨⟨⟨q1, q2⟩, q3⟩, q4⟩ := hok
        go_wp2_with (fail)
        go_roundw
        case rel => exact ⟨k + 1, p, by omega, by go_num, rfl, by have := HG.out; rw [HD.out, goodF_cons, HOK.out] at this; simpa using this, by first | exact hE.alloc _ | exact (hE.alloc _).drewN _⟩
        case measure => simp [intOf]; omega
      · have HOK := Lib.hid (Bool.eq_false_iff.2 hok)
        have HV : Hid (validT ts = false) := Lib.hid (by rw [← HG.out, HD.out, goodF_cons, HOK.out]; rfl)
        clear hok
        go_wp2_with (fail)
        all_goals first
          | (go_ret; exact ⟨ret_bool HV.out.symm, hE.alloc _⟩)
          | (exfalso; have := HOK.out; simp [okTk] at this; omega)
    · go_wp2_with (fail)
      go_ret
      refine ⟨ret_bool ?_, hE⟩
      have := HG.out
      rw [List.drop_of_length_le (by have := HL.out; omega)] at this
      exact this

set_option maxRecDepth 100000 in
set_option maxHeartbeats 1000000 in
theorem rvalid_any (v : Value) (ts : List Tk) (w : World) (h : RdT w v ts) :
    Calls Tryz.prog 58 #[v] w fun e w' => e = .returned (.bool (validT ts)) ∧ Ext w w' := by
  have H := Lib.hid h
  obtain ⟨A, n, c, rfl, hl, hnc, hcm, -⟩ := h
  unfold maxLen at hcm
  have HL := Lib.hid hl; clear hl
  go_enter Tryz.func58, Tryz.ntmps58
  go_wp2_with (fail)
  go_loopw [3] (fun i wr => ∃ (k : Nat) (last : Int), k ≤ n ∧ i = .int .i64 k ∧ (0 < k → ∃ m, ts[k - 1]? = some (last, m)) ∧ (k = 0 → last = -1) ∧ -1 ≤ last ∧ goodF last (ts.drop k) = validT ts ∧ Ext w wr) (fun i _ => n - (intOf i).toNat)
  case atStart => exact ⟨0, -1, Nat.zero_le _, rfl, fun h => absurd h (by omega), fun _ => rfl, by omega, rfl, Ext.refl _⟩
  case round =>
    obtain ⟨k, last, hk, rfl, hp, h0, hl1, hg, hE⟩ := hrel
    have HG := Lib.hid hg; clear hg
    by_cases hlt : k < n
    · obtain ⟨b, off, t, rfl, hb, ht, c0, c1⟩ := RdT.tick (H.out.ext hE) hlt
      have hd : ts.drop k = t :: ts.drop (k + 1) := by
        obtain ⟨hk', rfl⟩ := List.getElem?_eq_some_iff.1 ht
        exact List.drop_eq_getElem_cons hk'
      have HD := Lib.hid hd; clear hd
      obtain ⟨p, m⟩ := t
      have HT := Lib.hid ht; clear ht
      dsimp only at c0 c1
      by_cases hok : okTk last (p, m) = true
      · have HOK := Lib.hid hok
        simp only [okTk, Bool.and_eq_true, decide_eq_true_eq] at hok
        obtain ⟨⟨⟨q1, q2⟩, q3⟩, q4⟩ := hok
        rcases Nat.eq_zero_or_pos k with hk0 | hk0
        · subst hk0
          have := h0 rfl
          subst this
          clear hp h0
          simp only [Nat.zero_mul, Nat.add_zero] at c0 c1
          have hd0 : decide ((0 : Int) < ((0 : Nat) : Int)) = false := by decide
          go_wp2_with (fail)
          go_quiet (fail)
          go_wp2_with (fail)
          go_roundw
          case rel => exact ⟨1, p, by omega, by go_num, fun _ => ⟨m, HT.out⟩, fun h => absurd h (by omega), by omega, by have := HG.out; rw [HD.out, goodF_cons, HOK.out] at this; simpa using this, by first | exact hE | exact hE.drewN _⟩
          case measure => simp [intOf]; omega
        · obtain ⟨m', hm'⟩ := hp hk0
          obtain ⟨b', off', t', hA', hb', ht', e0, e1⟩ := RdT.tick (H.out.ext hE) (j := k - 1) (by omega)
          injection hA' with hA'
          injection hA' with q5 q6
          subst q5 q6
          rw [hm'] at ht'
          injection ht' with ht'
          subst ht'
          clear hp h0 hm' e1 hb'
          dsimp only at e0
          have hd0 : decide ((0 : Int) < (k : Int)) = true := decide_eq_true (by omega)
          have e0' : wr.cell? ⟨b, off + ((k : Int) - 1).toNat * 2, none⟩ = some (.int .i64 last) := by
            rw [show ((k : Int) - 1).toNat = k - 1 by omega]; exact e0
          go_wp2_with (fail)
          go_quiet (fail)
          go_wp2_with (fail)
          go_roundw
          case rel => exact ⟨k + 1, p, by omega, by go_num, fun _ => ⟨m, HT.out⟩, fun h => absurd h (by omega), by omega, by have := HG.out; rw [HD.out, goodF_cons, HOK.out] at this; simpa using this, by first | exact hE | exact hE.drewN _⟩
          case measure => simp [intOf]; omega
      · have HOK := Lib.hid (Bool.eq_false_iff.2 hok)
        have HV : Hid (validT ts = false) := Lib.hid (by rw [← HG.out, HD.out, goodF_cons, HOK.out]; rfl)
        clear hok
        by_cases hin : 0 ≤ p ∧ p ≤ 63 ∧ 1 ≤ m ∧ m ≤ 1000000000000000
        · obtain ⟨q1, q2, q3, q4⟩ := hin
          have hpl : p ≤ last := by
            have := HOK.out
            simp [okTk] at this
            omega
          have hk0 : 0 < k := by
            rcases Nat.eq_zero_or_pos k with h | h
            · have := h0 h; omega
            · exact h
          obtain ⟨m', hm'⟩ := hp hk0
          obtain ⟨b', off', t', hA', hb', ht', e0, e1⟩ := RdT.tick (H.out.ext hE) (j := k - 1) (by omega)
          injection hA' with hA'
          injection hA' with q5 q6
          subst q5 q6
          rw [hm'] at ht'
          injection ht' with ht'
          subst ht'
          clear hp h0 hm' e1 hb'
          dsimp only at e0
          have hd0 : decide ((0 : Int) < (k : Int)) = true := decide_eq_true (by omega)
          have e0' : wr.cell? ⟨b, off + ((k : Int) - 1).toNat * 2, none⟩ = some (.int .i64 last) := by
            rw [show ((k : Int) - 1).toNat = k - 1 by omega]; exact e0
          go_wp2_with (fail)
          go_quiet (fail)
          go_wp2_with (fail)
          go_ret
          exact ⟨ret_bool HV.out.symm, by first | exact hE | exact hE.drewN _⟩
        · clear hp h0
          by_cases q1 : 0 ≤ p
          · by_cases q2 : p ≤ 63
            · by_cases q3 : 1 ≤ m
              · have q4 : ¬ m ≤ 1000000000000000 := fun h => hin ⟨q1, q2, q3, h⟩
                clear hin
                go_wp2_with (fail)
                go_ret
                exact ⟨ret_bool HV.out.symm, hE⟩
              · clear hin
                go_wp2_with (fail)
                go_ret
                exact ⟨ret_bool HV.out.symm, hE⟩
            · clear hin
              go_wp2_with (fail)
              go_ret
              exact ⟨ret_bool HV.out.symm, hE⟩
          · clear hin
            go_wp2_with (fail)
            go_ret
            exact ⟨ret_bool HV.out.symm, hE⟩
    · go_wp2_with (fail)
      go_ret
      refine ⟨ret_bool ?_, hE⟩
      have := HG.out
      rw [List.drop_of_length_le (by have := HL.out; omega)] at this
      exact this
end Go.Proofs.YthldgioggjpnpaaGreat
