/-
  Contract: closure parse.
-/
import Derived.Test.YthgplaledmccgaaW7
namespace Go.Proofs.Ythgplaledmccgaa
open Go.RowKit

def ParsePost (u : List Nm) (rs : List RuleN) (w : World) (e : Ending) (w' : World) : Prop :=
  (checkE u rs = 0 ∧ ∃ b vu vr, e = .returned (.tuple #[.pointer (some ⟨b, 0, none⟩), .int .i64 0]) ∧ Sys w w' b vu vr u (rs.map (toHorn u))) ∨
  (checkE u rs ≠ 0 ∧ e = .returned (.tuple #[.pointer none, .int .i64 (checkE u rs)]) ∧ Ext w w')

set_option maxRecDepth 100000 in
set_option maxHeartbeats 1000000 in
theorem parse_any (vu vs : Value) (u : List Nm) (rs : List RuleN) (w : World) (hu : RdS w vu u) (hum : ∀ x ∈ u, x.length ≤ maxLen) (hr : RdR w vs rs) (hun : u.length ≤ 1048576) (hsz : rs.length ≤ 1048576) (hpr : ∀ r ∈ rs, r.1.length ≤ 1048576) :
    Calls Try.prog 44 #[vu, vs] w (ParsePost u rs w) := by
  have HU := Lib.hid hu
  obtain ⟨A, n, c, rfl, hl, hnc, hcm, hcell⟩ := hu
  unfold maxLen at hcm
  have HUM := Lib.hid hum; clear hum
  have HR := Lib.hid hr; clear hr
  have HUN := Lib.hid hun; clear hun
  have HSZ := Lib.hid hsz; clear hsz
  have HPR := Lib.hid hpr; clear hpr
  have HL := Lib.hid hl; clear hl
  have HC := Lib.hid hcell; clear hcell
  go_enter Try.func44, Try.ntmps44
  go_wp2_with (fail)
  go_loop [12] (fun i => ∃ k : Nat, k ≤ n ∧ i = .int .i64 k ∧ (u.take k).all okName = true) (fun i => n - (intOf i).toNat)
  case atStart => exact ⟨0, Nat.zero_le _, rfl, by simp⟩
  case round =>
    obtain ⟨k, hk, rfl, hno⟩ := hrel
    have HNO := Lib.hid hno; clear hno
    by_cases hlt : k < n
    · obtain ⟨bl, off, rfl, hbl, hcl⟩ := HC.out (by omega)
      have hkl : k < u.length := by rw [HL.out]; exact hlt
      have hc1 := hcl k u[k] (List.getElem?_eq_getElem hkl)
      clear hcl
      cases hok : okName u[k] with
      | true =>
        have HOK := Lib.hid hok; clear hok
        go_wp2_with (go_at_call 71; refine (valid_any _ _ (HUM.out _ (List.getElem_mem hkl))).mono ?_; rintro e w' ⟨rfl, rfl⟩; rw [HOK.out])
        go_round
        case rel => exact ⟨k + 1, by omega, by go_num, by rw [List.take_succ_eq_append_getElem hkl, List.all_append, HNO.out]; simp [HOK.out]⟩
        case measure => simp [intOf]; omega
      | false =>
        have HOK := Lib.hid hok; clear hok
        go_wp2_with (go_at_call 71; refine (valid_any _ _ (HUM.out _ (List.getElem_mem hkl))).mono ?_; rintro e w' ⟨rfl, rfl⟩; rw [HOK.out])
        go_ret2
        have hall : u.all okName = false := by rw [List.all_eq_false]; exact ⟨_, List.getElem_mem hkl, by rw [HOK.out]; decide⟩
        have he : checkE u rs = 3 := by unfold checkE; rw [if_pos hall]
        exact .inr ⟨by rw [he]; decide, by rw [he]; rfl, Ext.refl _⟩
    · have hall := HNO.out
      rw [List.take_of_length_le (by have := HL.out; omega)] at hall
      have HALL := Lib.hid hall; clear hall
      cases has : ascB u with
      | false =>
        have HAS := Lib.hid has; clear has
        go_wp2_with (go_at_call 72; refine (sorted_any _ u _ HU.out).mono ?_; rintro e w' ⟨rfl, m, rfl⟩; rw [HAS.out])
        go_ret2
        have he : checkE u rs = 1 := by unfold checkE; rw [if_neg (by rw [HALL.out]; decide), if_pos HAS.out]
        exact .inr ⟨by rw [he]; decide, by rw [he]; rfl, (Ext.refl _).drewN m⟩
      | true =>
        have HAS := Lib.hid has; clear has
        have he : checkE u rs = rulesE u rs := by unfold checkE; rw [if_neg (by rw [HALL.out]; decide), if_neg (by rw [HAS.out]; decide)]
        have HE := Lib.hid he; clear he
        go_wp2_with (go_at_call 72; refine (sorted_any _ u _ HU.out).mono ?_; rintro e w' ⟨rfl, m, rfl⟩; rw [HAS.out])
        refine Calls.mono (add_any w w.heap.size (.slice A n c) (.slice none 0 0) vs u [] rs _ ⟨Blk.new' _ _ _ _ (by simp), Nat.le_refl _, ?_, HU.out, OwnRules.nil _ _ _ _, HAS.out, (by intro h hh; cases hh), HUN.out, (by simp)⟩ [] (by simp) (by simp) (fun W hE _ => HR.out.ext hE) (by simpa using HSZ.out) HPR.out) ?_
        · repeat (first | exact Ext.refl _ | apply Ext.alloc | apply Ext.drewN | apply Ext.drew)
        rintro e w' ⟨rfl, hE', hS'⟩
        have HE' := Lib.hid hE'; clear hE'
        have HS' := Lib.hid hS'; clear hS'
        by_cases hz : rulesE u rs = 0
        · have HZ := Lib.hid hz; clear hz
          rw [HZ.out]
          go_wp2_with (fail)
          go_ret2
          obtain ⟨vr, hvr, -⟩ := HS'.out HZ.out
          exact .inl ⟨HE.out.trans HZ.out, w.heap.size, _, vr, rfl, by simpa using hvr⟩
        · have hzb : (rulesE u rs != 0) = true := by simpa using hz
          have HZ := Lib.hid hz; clear hz
          generalize hre : rulesE u rs = re at *
          have HRE := Lib.hid hre; clear hre
          go_wp2_with (fail)
          go_ret2
          exact .inr ⟨by rw [HE.out]; exact HZ.out, by rw [HE.out]; rfl, HE'.out⟩
end Go.Proofs.Ythgplaledmccgaa
