/-
  Contracts: closure.Check, closure.Close.
-/
import Derived.Test.YthgplaledmccgaaW8
import Derived.Test.YthgplaledmccgaaSpec9
namespace Go.Proofs.Ythgplaledmccgaa
open Go.RowKit

theorem parse_ok (vu vs : Value) (u : List Nm) (rs : List RuleN) (w : World) (hu : InU w vu u) (hr : InR w vs rs) (h0 : checkE u rs = 0) :
    Calls Try.prog 44 #[vu, vs] w fun e w' => ∃ b vu' vr, e = .returned (.tuple #[.pointer (some ⟨b, 0, none⟩), .int .i64 0]) ∧ Sys w w' b vu' vr u (rs.map (toHorn u)) :=
  (parse_any vu vs u rs w hu.rd hu.nm hr.rd hu.sz hr.sz hr.pr).mono fun _ _ h => by
    rcases h with ⟨_, h⟩ | ⟨h, _⟩
    · exact h
    · exact absurd h0 h
theorem parse_err (vu vs : Value) (u : List Nm) (rs : List RuleN) (w : World) (hu : InU w vu u) (hr : InR w vs rs) (h0 : checkE u rs ≠ 0) :
    Calls Try.prog 44 #[vu, vs] w fun e w' => e = .returned (.tuple #[.pointer none, .int .i64 (checkE u rs)]) ∧ Ext w w' :=
  (parse_any vu vs u rs w hu.rd hu.nm hr.rd hu.sz hr.sz hr.pr).mono fun _ _ h => by
    rcases h with ⟨h, _⟩ | ⟨_, h⟩
    · exact absurd h h0
    · exact h

set_option maxRecDepth 100000 in
set_option maxHeartbeats 400000 in
theorem check_any (vu vs : Value) (u : List Nm) (rs : List RuleN) (w : World) (hu : InU w vu u) (hr : InR w vs rs) :
    Calls Try.prog 26 #[vu, vs] w fun e w' => e = .returned (.int .i64 (checkE u rs)) ∧ Ext w w' := by
  have HU := Lib.hid hu; clear hu
  have HR := Lib.hid hr; clear hr
  by_cases h0 : checkE u rs = 0
  · have H0 := Lib.hid h0; clear h0
    go_enter Try.func26, Try.ntmps26
    go_wp2_with (fail)
    refine (parse_ok _ _ u rs _ HU.out HR.out H0.out).mono ?_
    rintro e w' ⟨b, vu', vr, rfl, hS⟩
    have HS := Lib.hid hS; clear hS
    go_wp2_with (fail)
    go_ret
    exact ⟨by rw [H0.out]; rfl, HS.out.ext⟩
  · have H0 := Lib.hid h0; clear h0
    go_enter Try.func26, Try.ntmps26
    go_wp2_with (fail)
    refine (parse_err _ _ u rs _ HU.out HR.out H0.out).mono ?_
    rintro e w' ⟨rfl, hE⟩
    have HE := Lib.hid hE; clear hE
    go_wp2_with (fail)
    go_ret
    exact ⟨rfl, HE.out⟩

/-- the error of a universe, rules and a set -/
def check2E (u : List Nm) (rs : List RuleN) (l : List Nm) : Int := if checkE u rs = 0 then setE u l else checkE u rs

theorem setE_cases (u l : List Nm) : (setE u l = 0 ∧ ascB l = true ∧ ∀ x ∈ l, x ∈ u) ∨ (setE u l = 1 ∧ ascB l = false) ∨ (setE u l = 3 ∧ ascB l = true ∧ ¬ ∀ x ∈ l, x ∈ u) := by
  unfold setE
  cases ascB l with
  | false => simp
  | true =>
    by_cases h : ∀ x ∈ l, x ∈ u
    · left; rw [if_neg (by decide), if_pos h]; exact ⟨rfl, rfl, h⟩
    · right; right; rw [if_neg (by decide), if_neg h]; exact ⟨rfl, rfl, h⟩

theorem set_err (b : Nat) (vu vl : Value) (u l : List Nm) (w : World) (hc : w.cell? ⟨b, 0, none⟩ = some vu) (hu : RdS w vu u) (hs : ascB u = true) (hl : RdS w vl l) (hsz : u.length ≤ 1048576) (h0 : setE u l ≠ 0) :
    Calls Try.prog 53 #[.pointer (some ⟨b, 0, none⟩), vl] w fun e w' => e = .returned (.tuple #[.slice none 0 0, .int .i64 (setE u l)]) ∧ Ext w w' := by
  rcases setE_cases u l with h | h | h
  · exact absurd h.1 h0
  · rw [h.1]; exact set_asc b vl l w hl h.2
  · rw [h.1]; exact set_name b vu vl u l w hc hu hs hl h.2.1 h.2.2 hsz

theorem memB_len (u l : List Nm) : (memB u l).length = u.length := by simp [memB]

def CloseOk (u : List Nm) (rs : List RuleN) (l : List Nm) (w : World) (e : Ending) (w' : World) : Prop :=
  ∃ v, e = .returned (.tuple #[v, .int .i64 0]) ∧ RdS w' v (closeN u rs l) ∧ Ext w w'

set_option maxRecDepth 100000 in
set_option maxHeartbeats 400000 in
theorem close_ok (vu vs vl : Value) (u : List Nm) (rs : List RuleN) (l : List Nm) (w : World) (hu : InU w vu u) (hr : InR w vs rs) (hl : RdS w vl l) (h0 : check2E u rs l = 0) :
    Calls Try.prog 28 #[vu, vs, vl] w (CloseOk u rs l w) := by
  have hc0 : checkE u rs = 0 := by
    unfold check2E at h0
    by_cases h : checkE u rs = 0
    · exact h
    · rw [if_neg h] at h0; exact absurd h0 h
  have hs0 : setE u l = 0 := by unfold check2E at h0; rwa [if_pos hc0] at h0
  have HU := Lib.hid hu; clear hu
  have HR := Lib.hid hr; clear hr
  have HL := Lib.hid hl; clear hl
  have HC0 := Lib.hid hc0; clear hc0
  have HS0 := Lib.hid hs0; clear hs0 h0
  have hss : ascB l = true ∧ ∀ x ∈ l, x ∈ u := by
    rcases setE_cases u l with h | h | h
    · exact h.2
    · have := HS0.out; rw [h.1] at this; cases this
    · have := HS0.out; rw [h.1] at this; cases this
  have HSS := Lib.hid hss; clear hss
  go_enter Try.func28, Try.ntmps28
  go_wp2_with (fail)
  refine (parse_ok _ _ u rs _ HU.out HR.out HC0.out).mono ?_
  rintro e w1 ⟨b, vu', vr, rfl, hS⟩
  have HS := Lib.hid hS; clear hS
  go_wp2_with (fail)
  refine (set_ok b vu' vl u l _ HS.out.read.cu HS.out.read.ru HS.out.asc (HL.out.ext HS.out.ext) HSS.out.1 HSS.out.2 HS.out.szu).mono ?_
  rintro e w2 ⟨g, rfl, hg, hA, hE⟩
  have HA := Lib.hid hA; clear hA
  have HE := Lib.hid hE; clear hE
  have hrd := HA.out.rd (by rw [memB_len]; have := HU.out.sz; unfold maxLen; omega)
  rw [memB_len] at hrd
  have HRD := Lib.hid hrd; clear hrd
  go_wp2_with (fail)
  refine (close_any b vu' vr _ u _ (memB u l) _ (HS.out.read.ext HE.out) HRD.out (memB_len _ _)).mono ?_
  rintro e w3 ⟨g', rfl, hg', hA', hE'⟩
  have hrd := hA'.rd (by rw [chainB_len, memB_len]; have := HU.out.sz; unfold maxLen; omega)
  rw [chainB_len] at hrd
  have HRD' := Lib.hid hrd; clear hrd hA'
  have HE' := Lib.hid hE'; clear hE'
  go_wp2_with (fail)
  have hS3 := HS.out.read.ext (HE.out.trans HE'.out)
  refine (list_any b vu' _ u _ _ hS3.cu hS3.ru HRD'.out (by rw [chainB_len, memB_len]) hS3.szu).mono ?_
  rintro e w4 ⟨v, rfl, hO, hE4⟩
  have HO := Lib.hid hO; clear hO
  have HE4 := Lib.hid hE4; clear hE4
  clear hS3
  go_wp2_with (fail)
  go_ret2
  exact ⟨v, rfl, HO.out.rd, ((HS.out.ext.trans HE.out).trans HE'.out).trans HE4.out⟩

set_option maxRecDepth 100000 in
set_option maxHeartbeats 400000 in
theorem close_err (vu vs vl : Value) (u : List Nm) (rs : List RuleN) (l : List Nm) (w : World) (hu : InU w vu u) (hr : InR w vs rs) (hl : RdS w vl l) (h0 : check2E u rs l ≠ 0) :
    Calls Try.prog 28 #[vu, vs, vl] w fun e w' => e = .returned (.tuple #[.slice none 0 0, .int .i64 (check2E u rs l)]) ∧ Ext w w' := by
  have HU := Lib.hid hu; clear hu
  have HR := Lib.hid hr; clear hr
  have HL := Lib.hid hl; clear hl
  by_cases hc0 : checkE u rs = 0
  · have he : check2E u rs l = setE u l := by unfold check2E; rw [if_pos hc0]
    rw [he] at h0 ⊢
    have HC0 := Lib.hid hc0; clear hc0 he
    have hzb : (setE u l != 0) = true := by simpa using h0
    have H0 := Lib.hid h0; clear h0
    go_enter Try.func28, Try.ntmps28
    go_wp2_with (fail)
    refine (parse_ok _ _ u rs _ HU.out HR.out HC0.out).mono ?_
    rintro e w1 ⟨b, vu', vr, rfl, hS⟩
    have HS := Lib.hid hS; clear hS
    go_wp2_with (fail)
    refine (set_err b vu' vl u l _ HS.out.read.cu HS.out.read.ru HS.out.asc (HL.out.ext HS.out.ext) HS.out.szu H0.out).mono ?_
    rintro e w2 ⟨rfl, hE⟩
    have HE := Lib.hid hE; clear hE
    go_wp2_with (fail)
    go_ret2
    exact ⟨rfl, HS.out.ext.trans HE.out⟩
  · have he : check2E u rs l = checkE u rs := by unfold check2E; rw [if_neg hc0]
    rw [he] at h0 ⊢
    clear he hc0
    have hzb : (checkE u rs != 0) = true := by simpa using h0
    have H0 := Lib.hid h0; clear h0
    go_enter Try.func28, Try.ntmps28
    go_wp2_with (fail)
    refine (parse_err _ _ u rs _ HU.out HR.out H0.out).mono ?_
    rintro e w1 ⟨rfl, hE⟩
    have HE := Lib.hid hE; clear hE
    go_wp2_with (fail)
    go_ret2
    exact ⟨rfl, HE.out⟩
end Go.Proofs.Ythgplaledmccgaa
