/-
  Contracts: names.Valid, names.wordByte, the references' Valid and Name, all saying okName.
-/
import Derived.Test.YthldgioggjpnpaaGreatR1
namespace Go.Proofs.YthldgioggjpnpaaGreat
open Go.RowKit

def okByte (c : UInt8) : Bool := (97 ≤ c && c ≤ 122) || (48 ≤ c && c ≤ 57) || c == 45
def okFirst (c : UInt8) : Bool := 97 ≤ c && c ≤ 122
def okName (x : List UInt8) : Bool := decide (1 ≤ x.length) && decide (x.length ≤ 16) && okFirst (x.getD 0 0) && x.all okByte

theorem okByte_int (c : UInt8) : okByte c = ((decide (97 ≤ (c.toNat : Int)) && decide ((c.toNat : Int) ≤ 122)) || (decide (48 ≤ (c.toNat : Int)) && decide ((c.toNat : Int) ≤ 57)) || ((c.toNat : Int) == 45)) := by
  have e1 : ∀ a b : UInt8, decide (a ≤ b) = decide ((a.toNat : Int) ≤ (b.toNat : Int)) := fun a b => by
    rw [Bool.eq_iff_iff]; simp [UInt8.le_iff_toNat_le]
  have e2 : ∀ a b : UInt8, (a == b) = ((a.toNat : Int) == (b.toNat : Int)) := fun a b => by
    rw [Bool.eq_iff_iff, beq_iff_eq, beq_iff_eq, ← UInt8.toNat_inj]; omega
  unfold okByte
  rw [e1, e1, e1, e1, e2]
  rfl
theorem okFirst_int (c : UInt8) : okFirst c = (decide (97 ≤ (c.toNat : Int)) && decide ((c.toNat : Int) ≤ 122)) := by
  have e1 : ∀ a b : UInt8, decide (a ≤ b) = decide ((a.toNat : Int) ≤ (b.toNat : Int)) := fun a b => by
    rw [Bool.eq_iff_iff]; simp [UInt8.le_iff_toNat_le]
  unfold okFirst
  rw [e1, e1]
  rfl

theorem byte_cases (c : UInt8) : (okByte c = true ∧ ((97 ≤ (c.toNat : Int) ∧ (c.toNat : Int) ≤ 122 ∧ ((c.toNat : Int) != 45) = true) ∨ (48 ≤ (c.toNat : Int) ∧ (c.toNat : Int) ≤ 57 ∧ ((c.toNat : Int) != 45) = true) ∨ (45 ≤ (c.toNat : Int) ∧ (c.toNat : Int) ≤ 45 ∧ ((c.toNat : Int) != 45) = false))) ∨
    (okByte c = false ∧ ((0 ≤ (c.toNat : Int) ∧ (c.toNat : Int) < 45 ∧ ((c.toNat : Int) != 45) = true) ∨ (45 < (c.toNat : Int) ∧ (c.toNat : Int) < 48 ∧ ((c.toNat : Int) != 45) = true) ∨ (57 < (c.toNat : Int) ∧ (c.toNat : Int) < 97 ∧ ((c.toNat : Int) != 45) = true) ∨ (122 < (c.toNat : Int) ∧ (c.toNat : Int) < 256 ∧ ((c.toNat : Int) != 45) = true))) := by
  have h := c.toNat_lt
  rw [okByte_int]
  generalize hy : (c.toNat : Int) = y
  simp
  omega

set_option maxHeartbeats 400000 in
theorem wordByte_any (c : UInt8) (w : World) : Calls Tryz.prog 54 #[.int .u8 (c.toNat : Int)] w fun e w' => e = .returned (.bool (okByte c)) ∧ w = w' := by
  have hc := c.toNat_lt
  go_enter Tryz.func54, Tryz.ntmps54
  go_wp2
  all_goals go_ret
  all_goals refine ⟨ret_bool ?_, rfl⟩
  all_goals rw [okByte_int]
  all_goals generalize (c.toNat : Int) = x at *
  all_goals (rw [Bool.eq_iff_iff]; simp; omega)


theorem okName_int (x : Nm) (h1 : 1 ≤ x.length) (h2 : x.length ≤ 16) : okName x = (okFirst (x[0]'(by omega)) && x.all okByte) := by
  unfold okName
  have : x.getD 0 0 = x[0]'(by omega) := by
    rw [List.getD_eq_getElem?_getD, List.getElem?_eq_getElem (by omega)]; rfl
  rw [this]; simp [h1, h2]

set_option maxHeartbeats 400000 in
theorem valid_any (x : Nm) (w : World) (hm : x.length ≤ maxLen) : Calls Tryz.prog 36 #[.string ⟨x.toArray⟩] w fun e w' => e = .returned (.bool (okName x)) ∧ w = w' := by
  unfold maxLen at hm
  by_cases h1 : 1 ≤ x.length
  · have hx : 0 < (ByteArray.mk x.toArray).size := by show 0 < x.toArray.size; simp; omega
    have hz : ((x.length : Int) == 0) = false := by simp; intro h; subst h; simp at h1
    by_cases h2 : x.length ≤ 16
    · have hok := okName_int x h1 h2
      have HOK := Lib.hid hok; clear hok
      have hi : okFirst (x[0]'(by omega)) = (decide (97 ≤ ((ByteArray.mk x.toArray)[0].toNat : Int)) && decide (((ByteArray.mk x.toArray)[0].toNat : Int) ≤ 122)) := okFirst_int _
      by_cases h4 : 97 ≤ ((ByteArray.mk x.toArray)[0].toNat : Int)
      · by_cases h5 : ((ByteArray.mk x.toArray)[0].toNat : Int) ≤ 122
        · have HI := Lib.hid hi; clear hi
          go_enter Tryz.func36, Tryz.ntmps36
          go_wp2
          go_loop [24] (fun i => ∃ k : Nat, k ≤ x.length ∧ i = .int .i64 k ∧ (x.take k).all okByte = true) (fun i => x.length - (intOf i).toNat)
          case atStart => exact ⟨0, Nat.zero_le _, rfl, by simp⟩
          case round =>
            obtain ⟨k, hk, rfl, hno⟩ := hrel
            have HNO := Lib.hid hno; clear hno
            by_cases hlt : k < x.length
            · have hlt' : k < (ByteArray.mk x.toArray).size := by show k < x.toArray.size; simpa using hlt
              go_wp2_with (go_at_call 54; refine (wordByte_any _ _).mono ?_; rintro e w' ⟨rfl, rfl⟩)
              · have hf : (!okByte (ByteArray.mk x.toArray)[k]) = true := by assumption
                go_ret
                refine ⟨ret_bool ?_, rfl⟩
                have hf2 : okByte (ByteArray.mk x.toArray)[k] = false := by simpa using hf
                have hx : okByte (x[k]) = false := hf2
                have ha : x.all okByte = false := by rw [List.all_eq_false]; exact ⟨_, List.getElem_mem hlt, by simp [hx]⟩
                rw [HOK.out, ha, Bool.and_false]
              · have hf : (!okByte (ByteArray.mk x.toArray)[k]) = false := by assumption
                have hf2 : okByte (ByteArray.mk x.toArray)[k] = true := by simpa using hf
                have hx : okByte (x[k]) = true := hf2
                go_round
                case rel => exact ⟨k + 1, by omega, by go_num, by rw [List.take_succ_eq_append_getElem hlt, List.all_append, HNO.out]; simp [hx]⟩
                case measure => simp [intOf]; omega
            · go_wp2
              go_ret
              refine ⟨ret_bool ?_, rfl⟩
              rw [HOK.out, HI.out]
              have := HNO.out
              rw [List.take_of_length_le (by omega)] at this
              rw [this, decide_eq_true h4, decide_eq_true h5]; rfl
        · go_enter Tryz.func36, Tryz.ntmps36
          go_wp2
          go_ret
          exact ⟨ret_bool (by rw [HOK.out, hi, decide_eq_false (Int.not_le.2 h5)]; simp), rfl⟩
      · go_enter Tryz.func36, Tryz.ntmps36
        go_wp2
        go_ret
        exact ⟨ret_bool (by rw [HOK.out, hi, decide_eq_false (Int.not_le.2 h4)]; simp), rfl⟩
    · have hn : okName x = false := by unfold okName; simp [h2]
      have HN := Lib.hid hn; clear hn
      go_enter Tryz.func36, Tryz.ntmps36
      go_wp2
      go_ret
      exact ⟨ret_bool (by rw [HN.out]), rfl⟩
  · obtain rfl : x = [] := by cases x with | nil => rfl | cons => simp at h1
    go_enter Tryz.func36, Tryz.ntmps36
    go_wp2
    go_ret
    exact ⟨ret_bool (by decide), rfl⟩

set_option maxRecDepth 100000 in
set_option maxHeartbeats 1000000 in
theorem refName_any (x : Nm) (w : World) (hm : x.length ≤ maxLen) : Calls Tryz.prog 40 #[.string ⟨x.toArray⟩] w fun e w' => e = .returned (.bool (okName x)) ∧ w = w' := by
  unfold maxLen at hm
  by_cases h1 : 1 ≤ x.length
  · have hx : 0 < (ByteArray.mk x.toArray).size := by show 0 < x.toArray.size; simp; omega
    have hz : ((x.length : Int) == 0) = false := by simp; intro h; subst h; simp at h1
    by_cases h2 : x.length ≤ 16
    · have hok := okName_int x h1 h2
      have HOK := Lib.hid hok; clear hok
      have hi : okFirst (x[0]'(by omega)) = (decide (97 ≤ ((ByteArray.mk x.toArray)[0].toNat : Int)) && decide (((ByteArray.mk x.toArray)[0].toNat : Int) ≤ 122)) := okFirst_int _
      by_cases h4 : 97 ≤ ((ByteArray.mk x.toArray)[0].toNat : Int)
      · by_cases h5 : ((ByteArray.mk x.toArray)[0].toNat : Int) ≤ 122
        · have HI := Lib.hid hi; clear hi
          go_enter Tryz.func40, Tryz.ntmps40
          go_wp2
          go_loop [3] (fun i => ∃ k : Nat, k ≤ x.length ∧ i = .int .i64 k ∧ (x.take k).all okByte = true) (fun i => x.length - (intOf i).toNat)
          case atStart => exact ⟨0, Nat.zero_le _, rfl, by simp⟩
          case round =>
            obtain ⟨k, hk, rfl, hno⟩ := hrel
            have HNO := Lib.hid hno; clear hno
            by_cases hlt : k < x.length
            · have hlt' : k < (ByteArray.mk x.toArray).size := by show k < x.toArray.size; simpa using hlt
              have hcs := byte_cases ((ByteArray.mk x.toArray)[k])
              rcases hcs with ⟨hv, hcs⟩ | ⟨hv, hcs⟩
              · have hx : okByte (x[k]) = true := hv
                have HX := Lib.hid hx; clear hx hv
                rcases hcs with ⟨hb1, hb2, hb3⟩ | ⟨hb1, hb2, hb3⟩ | ⟨hb1, hb2, hb3⟩
                all_goals
                  go_wp2
                  go_round
                  case rel => exact ⟨k + 1, by omega, by go_num, by rw [List.take_succ_eq_append_getElem hlt, List.all_append, HNO.out]; simp [HX.out]⟩
                  case measure => simp [intOf]; omega
              · have hx : okByte (x[k]) = false := hv
                have HX := Lib.hid hx; clear hx hv
                rcases hcs with ⟨hb1, hb2, hb3⟩ | ⟨hb1, hb2, hb3⟩ | ⟨hb1, hb2, hb3⟩ | ⟨hb1, hb2, hb3⟩
                all_goals
                  go_wp2
                  go_ret
                  refine ⟨ret_bool ?_, rfl⟩
                  have ha : x.all okByte = false := by rw [List.all_eq_false]; exact ⟨_, List.getElem_mem hlt, by simp [HX.out]⟩
                  rw [HOK.out, ha, Bool.and_false]
            · go_wp2
              go_ret
              refine ⟨ret_bool ?_, rfl⟩
              rw [HOK.out, HI.out]
              have := HNO.out
              rw [List.take_of_length_le (by omega)] at this
              rw [this, decide_eq_true h4, decide_eq_true h5]; rfl
        · go_enter Tryz.func40, Tryz.ntmps40
          go_wp2
          go_ret
          exact ⟨ret_bool (by rw [HOK.out, hi, decide_eq_false (Int.not_le.2 h5)]; simp), rfl⟩
      · go_enter Tryz.func40, Tryz.ntmps40
        go_wp2
        go_ret
        exact ⟨ret_bool (by rw [HOK.out, hi, decide_eq_false (Int.not_le.2 h4)]; simp), rfl⟩
    · have hn : okName x = false := by unfold okName; simp [h2]
      have HN := Lib.hid hn; clear hn
      go_enter Tryz.func40, Tryz.ntmps40
      go_wp2
      go_ret
      exact ⟨ret_bool (by rw [HN.out]), rfl⟩
  · obtain rfl : x = [] := by cases x with | nil => rfl | cons => simp at h1
    go_enter Tryz.func40, Tryz.ntmps40
    go_wp2
    go_ret
    exact ⟨ret_bool (by decide), rfl⟩

set_option maxHeartbeats 400000 in
theorem letter_any (c : UInt8) (w : World) : Calls Tryz.prog 173 #[.int .u8 (c.toNat : Int)] w fun e w' => e = .returned (.bool (okByte c)) ∧ w = w' := by
  have hc := c.toNat_lt
  go_enter Tryz.func173, Tryz.ntmps173
  go_wp2
  all_goals go_ret
  all_goals refine ⟨ret_bool ?_, rfl⟩
  all_goals rw [okByte_int]
  all_goals generalize (c.toNat : Int) = x at *
  all_goals (rw [Bool.eq_iff_iff]; simp; omega)

set_option maxHeartbeats 400000 in
theorem refValid_any (x : Nm) (w : World) (hm : x.length ≤ maxLen) : Calls Tryz.prog 155 #[.string ⟨x.toArray⟩] w fun e w' => e = .returned (.bool (okName x)) ∧ w = w' := by
  unfold maxLen at hm
  by_cases h1 : 1 ≤ x.length
  · have hx : 0 < (ByteArray.mk x.toArray).size := by show 0 < x.toArray.size; simp; omega
    have hz : ((x.length : Int) == 0) = false := by simp; intro h; subst h; simp at h1
    by_cases h2 : x.length ≤ 16
    · have hok := okName_int x h1 h2
      have HOK := Lib.hid hok; clear hok
      have hi : okFirst (x[0]'(by omega)) = (decide (97 ≤ ((ByteArray.mk x.toArray)[0].toNat : Int)) && decide (((ByteArray.mk x.toArray)[0].toNat : Int) ≤ 122)) := okFirst_int _
      by_cases h4 : 97 ≤ ((ByteArray.mk x.toArray)[0].toNat : Int)
      · by_cases h5 : ((ByteArray.mk x.toArray)[0].toNat : Int) ≤ 122
        · have HI := Lib.hid hi; clear hi
          go_enter Tryz.func155, Tryz.ntmps155
          go_wp2
          go_loop [3] (fun i => ∃ k : Nat, k ≤ x.length ∧ i = .int .i64 k ∧ (x.take k).all okByte = true) (fun i => x.length - (intOf i).toNat)
          case atStart => exact ⟨0, Nat.zero_le _, rfl, by simp⟩
          case round =>
            obtain ⟨k, hk, rfl, hno⟩ := hrel
            have HNO := Lib.hid hno; clear hno
            by_cases hlt : k < x.length
            · have hlt' : k < (ByteArray.mk x.toArray).size := by show k < x.toArray.size; simpa using hlt
              go_wp2_with (go_at_call 173; refine (letter_any _ _).mono ?_; rintro e w' ⟨rfl, rfl⟩)
              · have hf : (!okByte (ByteArray.mk x.toArray)[k]) = true := by assumption
                go_ret
                refine ⟨ret_bool ?_, rfl⟩
                have hf2 : okByte (ByteArray.mk x.toArray)[k] = false := by simpa using hf
                have hx : okByte (x[k]) = false := hf2
                have ha : x.all okByte = false := by rw [List.all_eq_false]; exact ⟨_, List.getElem_mem hlt, by simp [hx]⟩
                rw [HOK.out, ha, Bool.and_false]
              · have hf : (!okByte (ByteArray.mk x.toArray)[k]) = false := by assumption
                have hf2 : okByte (ByteArray.mk x.toArray)[k] = true := by simpa using hf
                have hx : okByte (x[k]) = true := hf2
                go_round
                case rel => exact ⟨k + 1, by omega, by go_num, by rw [List.take_succ_eq_append_getElem hlt, List.all_append, HNO.out]; simp [hx]⟩
                case measure => simp [intOf]; omega
            · go_wp2
              go_ret
              refine ⟨ret_bool ?_, rfl⟩
              rw [HOK.out, HI.out]
              have := HNO.out
              rw [List.take_of_length_le (by omega)] at this
              rw [this, decide_eq_true h4, decide_eq_true h5]; rfl
        · go_enter Tryz.func155, Tryz.ntmps155
          go_wp2
          go_ret
          exact ⟨ret_bool (by rw [HOK.out, hi, decide_eq_false (Int.not_le.2 h5)]; simp), rfl⟩
      · go_enter Tryz.func155, Tryz.ntmps155
        go_wp2
        go_ret
        exact ⟨ret_bool (by rw [HOK.out, hi, decide_eq_false (Int.not_le.2 h4)]; simp), rfl⟩
    · have hn : okName x = false := by unfold okName; simp [h2]
      have HN := Lib.hid hn; clear hn
      go_enter Tryz.func155, Tryz.ntmps155
      go_wp2
      go_ret
      exact ⟨ret_bool (by rw [HN.out]), rfl⟩
  · obtain rfl : x = [] := by cases x with | nil => rfl | cons => simp at h1
    go_enter Tryz.func155, Tryz.ntmps155
    go_wp2
    go_ret
    exact ⟨ret_bool (by decide), rfl⟩

end Go.Proofs.YthldgioggjpnpaaGreat
