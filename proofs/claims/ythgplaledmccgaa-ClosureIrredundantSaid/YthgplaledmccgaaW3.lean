/-
  Contracts: slices.BinarySearch over ascending names.
-/
import Derived.Test.YthgplaledmccgaaW2
namespace Go.Proofs.Ythgplaledmccgaa
open Go.RowKit

set_option maxHeartbeats 400000 in
theorem isNaN2_any (x : Nm) (w : World) : Calls Try.prog 78 #[.string ⟨x.toArray⟩] w fun e w' => e = .returned (.bool false) ∧ w = w' := by
  go_enter Try.func78, Try.ntmps78
  go_wp2
  go_ret
  exact ⟨by simp, rfl⟩

theorem mid_eq (i j : Nat) (hij : i < j) (hj : j ≤ 9223372036854775807) : wrap64 (IntKind.u64.wrap (wrap64 ((i : Int) + (j : Int))) / 2) = ((i : Int) + (j : Int)) / 2 := by
  unfold wrap64
  simp only [IntKind.wrap_u64]
  omega

def SearchPost (u : List Nm) (x : Nm) (w : World) (e : Ending) (w' : World) : Prop :=
  (∃ (i : Nat) (f : Bool), e = .returned (.tuple #[.int .i64 i, .bool f]) ∧ i ≤ u.length ∧ (f = true → u[i]? = some x) ∧ (f = false → ¬ x ∈ u)) ∧ w = w'

set_option maxHeartbeats 400000 in
theorem search_any (v : Value) (u : List Nm) (x : Nm) (w : World) (h : RdS w v u) (hs : ascB u = true) :
    Calls Try.prog 74 #[v, .string ⟨x.toArray⟩] w (SearchPost u x w) := by
  obtain ⟨A, n, c, rfl, hl, hnc, hcm, hcell⟩ := h
  unfold maxLen at hcm
  have HL := Lib.hid hl; clear hl
  have HC := Lib.hid hcell; clear hcell
  have HS := Lib.hid hs; clear hs
  have tl := fun (x : List UInt8) => ByteArray.toList_mk x
  go_enter Try.func74, Try.ntmps74
  go_wp2
  go_loop [7, 8] (fun vi vj => ∃ i j : Nat, i ≤ j ∧ j ≤ n ∧ vi = .int .i64 i ∧ vj = .int .i64 j ∧ (∀ t y, t < i → u[t]? = some y → Op.bytesLess y x = true) ∧ (∀ t y, j ≤ t → u[t]? = some y → Op.bytesLess y x = false)) (fun vi vj => (intOf vj).toNat - (intOf vi).toNat)
  case atStart => 
    refine ⟨0, n, by omega, by omega, rfl, rfl, by intro t y h; omega, ?_⟩
    intro t y ht hy
    rw [List.getElem?_eq_none (by have := HL.out; omega)] at hy
    cases hy
  case round =>
    obtain ⟨i, j, hij, hjn, rfl, rfl, hlo, hhi⟩ := hrel
    have HLO := Lib.hid hlo; clear hlo
    have HHI := Lib.hid hhi; clear hhi
    by_cases hlt : i < j
    · obtain ⟨b, off, rfl, hb, hc⟩ := HC.out (by omega)
      have hkl : (i + j) / 2 < u.length := by rw [HL.out]; omega
      have hc1 := hc ((i + j) / 2) u[(i + j) / 2] (List.getElem?_eq_getElem hkl)
      clear hc
      have hmid := mid_eq i j hlt (by omega)
      go_wp2_with (go_at_call 77; refine (less_any _ _ _).mono ?_; rintro e w' ⟨rfl, rfl⟩)
      · have ht : Op.bytesLess u[(i + j) / 2] x = true := by assumption
        go_round
        case rel =>
          refine ⟨(i + j) / 2 + 1, j, by omega, by omega, by go_num, by go_num, fun t y hty hy => ?_, HHI.out⟩
          by_cases he : t = (i + j) / 2
          · subst he
            rw [List.getElem?_eq_getElem hkl] at hy
            cases hy
            exact ht
          · exact bl_trans (ascB_lt HS.out (by omega) hy (List.getElem?_eq_getElem hkl)) ht
        case measure => simp [intOf]; omega
      · have ht : Op.bytesLess u[(i + j) / 2] x = false := by assumption
        go_round
        case rel =>
          refine ⟨i, (i + j) / 2, by omega, by omega, by go_num, by go_num, HLO.out, fun t y hty hy => ?_⟩
          by_cases he : t = (i + j) / 2
          · subst he
            rw [List.getElem?_eq_getElem hkl] at hy
            cases hy
            exact ht
          · cases hb : Op.bytesLess y x with
            | false => rfl
            | true =>
              have := bl_trans (ascB_lt HS.out (by omega) (List.getElem?_eq_getElem hkl) hy) hb
              rw [ht] at this
              cases this
        case measure => simp [intOf]; omega
    · obtain rfl : i = j := by omega
      have hnot : (∀ y, u[i]? = some y → y ≠ x) → ¬ x ∈ u := by
        intro hne hm
        obtain ⟨t, ht⟩ := List.mem_iff_getElem?.1 hm
        rcases Nat.lt_or_ge t i with hlt | hge
        · have := HLO.out t x hlt ht
          rw [bl_irrefl] at this
          cases this
        · by_cases he : t = i
          · subst he; exact hne x ht rfl
          · have hil : i < u.length := by
              have := (List.getElem?_eq_some_iff.1 ht).1; omega
            have h1 := ascB_lt HS.out (i := i) (j := t) (by omega) (List.getElem?_eq_getElem hil) ht
            rw [HHI.out i _ (Nat.le_refl _) (List.getElem?_eq_getElem hil)] at h1
            cases h1
      have HN := Lib.hid hnot; clear hnot
      by_cases hin : i < n
      · obtain ⟨b, off, rfl, hb, hc⟩ := HC.out (by omega)
        have hkl : i < u.length := by rw [HL.out]; omega
        have hc1 := hc i u[i] (List.getElem?_eq_getElem hkl)
        clear hc
        cases ht : (u[i] == x) with
        | true =>
          have HT := Lib.hid ht
          go_wp2_with (go_at_call 78; refine (isNaN2_any _ _).mono ?_; rintro e w' ⟨rfl, rfl⟩)
          go_ret2
          have hx := beq_iff_eq.1 HT.out
          exact ⟨⟨i, true, rfl, by omega, fun _ => by rw [List.getElem?_eq_getElem hkl, hx], fun h => by cases h⟩, rfl⟩
        | false =>
          have HT := Lib.hid ht
          go_wp2_with (go_at_call 78; refine (isNaN2_any _ _).mono ?_; rintro e w' ⟨rfl, rfl⟩)
          go_ret2
          refine ⟨⟨i, false, rfl, by omega, fun h => (by cases h), fun _ => HN.out fun y hy he => ?_⟩, rfl⟩
          rw [List.getElem?_eq_getElem hkl] at hy
          cases hy
          rw [he] at HT
          simp [Hid] at HT
      · go_wp2
        go_ret2
        refine ⟨⟨i, false, rfl, by have := HL.out; omega, fun h => (by cases h), fun _ => HN.out fun y hy => ?_⟩, rfl⟩
        rw [List.getElem?_eq_none (by have := HL.out; omega)] at hy
        cases hy
end Go.Proofs.Ythgplaledmccgaa
