/-
  Contracts: the reference's comparisons of clocks and entries.
-/
import Derived.Test.YthldgioggjpnpaaGreatS3
namespace Go.Proofs.YthldgioggjpnpaaGreat
open Go.RowKit

def signI (b : Bool) : Int := if b then -1 else 1
theorem sign_any (b : Bool) (w : World) : Calls Tryz.prog 61 #[.bool b] w fun e w' => e = .returned (.int .i64 (signI b)) ∧ w = w' := by
  cases b
  all_goals
    go_enter Tryz.func61, Tryz.ntmps61
    go_wp2
    go_ret
    exact ⟨rfl, rfl⟩
def lensI (a b : Nat) : Int := if a = b then 0 else signI (decide (a < b))
set_option maxRecDepth 100000 in
set_option maxHeartbeats 400000 in
theorem lengths_any (a b : Nat) (w : World) : Calls Tryz.prog 62 #[.int .i64 (a : Int), .int .i64 (b : Int)] w fun e w' => e = .returned (.int .i64 (lensI a b)) ∧ w = w' := by
  by_cases h : a = b
  · have e0 : ((a : Int) == (b : Int)) = true := by rw [beq_iff_eq]; omega
    have HR : Hid (lensI a b = 0) := Lib.hid (by rw [lensI, if_pos h])
    clear h
    go_enter Tryz.func62, Tryz.ntmps62
    go_wp2_with (fail)
    go_ret
    exact ⟨by rw [HR.out]; rfl, rfl⟩
  · have e0 : ((a : Int) == (b : Int)) = false := by rw [beq_eq_false_iff_ne]; omega
    by_cases hl : a < b
    · have HR : Hid (lensI a b = -1) := Lib.hid (by rw [lensI, if_neg h, decide_eq_true hl]; rfl)
      have hl1 : (a : Int) < (b : Int) := by omega
      clear h hl
      go_enter Tryz.func62, Tryz.ntmps62
      go_wp2_with (go_at_call 61; refine (sign_any true _).mono ?_; rintro e w1 ⟨rfl, rfl⟩)
      go_ret
      exact ⟨by rw [HR.out]; rfl, rfl⟩
    · have HR : Hid (lensI a b = 1) := Lib.hid (by rw [lensI, if_neg h, decide_eq_false hl]; rfl)
      have hl1 : ¬ (a : Int) < (b : Int) := by omega
      clear h hl
      go_enter Tryz.func62, Tryz.ntmps62
      go_wp2_with (go_at_call 61; refine (sign_any false _).mono ?_; rintro e w1 ⟨rfl, rfl⟩)
      go_ret
      exact ⟨by rw [HR.out]; rfl, rfl⟩

theorem cmpTk_le (p r q s : Int) (h : p ≠ r) : cmpTk (p, q) (r, s) = signI (decide (p < r)) := by
  unfold cmpTk
  rw [orI2]
  unfold Lib.compareInt signI
  by_cases h1 : p < r
  · simp [h1]
  · have h2 : r < p := by omega
    simp [h1, h2]
theorem cmpTk_eq (p q s : Int) (h : q ≠ s) : cmpTk (p, q) (p, s) = signI (decide (q < s)) := by
  unfold cmpTk
  rw [orI2]
  have : Lib.compareInt p p = 0 := by unfold Lib.compareInt; simp
  rw [if_pos this]
  unfold Lib.compareInt signI
  by_cases h1 : q < s
  · simp [h1]
  · have h2 : s < q := by omega
    simp [h1, h2]
theorem signI_ne (b : Bool) : signI b ≠ 0 := by cases b <;> decide
theorem cmpTs_lens (a b : List Tk) (h : a = [] ∨ b = []) : cmpTs a b = lensI a.length b.length := by
  cases a with
  | nil => cases b with
    | nil => rfl
    | cons u r => simp [cmpTs, lensI, signI]
  | cons t r => cases b with
    | nil => simp [cmpTs, lensI, signI]
    | cons u s => simp at h
theorem cmpTs_len_add (a b : List Tk) (k : Nat) (ha : k ≤ a.length) (hb : k ≤ b.length) (h : a.drop k = [] ∨ b.drop k = []) (e : cmpTs (a.drop k) (b.drop k) = cmpTs a b) : cmpTs a b = lensI a.length b.length := by
  rw [← e, cmpTs_lens _ _ h, List.length_drop, List.length_drop]
  unfold lensI
  by_cases h1 : a.length = b.length
  · rw [if_pos h1, if_pos (by omega)]
  · rw [if_neg h1, if_neg (by omega)]
    congr 1
    rw [Bool.eq_iff_iff]
    simp
    omega

set_option maxRecDepth 100000 in
set_option maxHeartbeats 2000000 in
theorem rcmpTicks_any (va vb : Value) (a b : List Tk) (w : World) (ha : RdT w va a) (hb : RdT w vb b) :
    Calls Tryz.prog 90 #[va, vb] w fun e w' => e = .returned (.int .i64 (cmpTs a b)) ∧ Ext w w' := by
  have HA := Lib.hid ha
  have HB := Lib.hid hb
  obtain ⟨A, n, c, rfl, hla, hnc, hcm, -⟩ := ha
  obtain ⟨B, m, d, rfl, hlb, hmd, hdm, -⟩ := hb
  unfold maxLen at hcm hdm
  have HLA := Lib.hid hla; clear hla
  have HLB := Lib.hid hlb; clear hlb
  go_enter Tryz.func90, Tryz.ntmps90
  go_wp2_with (fail)
  go_loopw [5] (fun i wr => ∃ k : Nat, k ≤ n ∧ k ≤ m ∧ i = .int .i64 k ∧ cmpTs (a.drop k) (b.drop k) = cmpTs a b ∧ Ext w wr) (fun i _ => n - (intOf i).toNat)
  case atStart => exact ⟨0, Nat.zero_le _, Nat.zero_le _, rfl, rfl, Ext.refl _⟩
  case round =>
    obtain ⟨k, hkn, hkm, rfl, hg, hE⟩ := hrel
    have HG := Lib.hid hg; clear hg
    by_cases hlt : k < n
    · by_cases hlm : k < m
      · obtain ⟨b1, o1, t1, rfl, hb1, ht1, c0, c1⟩ := RdT.tick (HA.out.ext hE) hlt
        obtain ⟨b2, o2, t2, rfl, hb2, ht2, c2, c3⟩ := RdT.tick (HB.out.ext hE) hlm
        obtain ⟨p, q⟩ := t1
        obtain ⟨r, s⟩ := t2
        dsimp only at c0 c1 c2 c3
        have hda : a.drop k = (p, q) :: a.drop (k + 1) := by
          obtain ⟨hk', h2⟩ := List.getElem?_eq_some_iff.1 ht1
          rw [← h2]; exact List.drop_eq_getElem_cons hk'
        have hdb : b.drop k = (r, s) :: b.drop (k + 1) := by
          obtain ⟨hk', h2⟩ := List.getElem?_eq_some_iff.1 ht2
          rw [← h2]; exact List.drop_eq_getElem_cons hk'
        have HS : Hid ((if cmpTk (p, q) (r, s) = 0 then cmpTs (a.drop (k + 1)) (b.drop (k + 1)) else cmpTk (p, q) (r, s)) = cmpTs a b) := Lib.hid (by rw [← HG.out, hda, hdb, cmpTs])
        clear hda hdb ht1 ht2
        by_cases hpr : p = r
        · subst hpr
          have e0 : (p != p) = false := by simp
          by_cases hqs : q = s
          · subst hqs
            have HT : Hid (cmpTs (a.drop (k + 1)) (b.drop (k + 1)) = cmpTs a b) := Lib.hid (by
              rw [← HS.out, if_pos (cmpTk_ok.refl _)])
            have e1 : (q != q) = false := by simp
            clear HS
            go_wp2_with (fail)
            go_quiet (fail)
            go_wp2_with (fail)
            go_quiet (fail)
            go_wp2_with (fail)
            go_roundw
            case rel => exact ⟨k + 1, by omega, by omega, by go_num, HT.out, by first | exact hE | exact hE.drewN _ | exact (hE.drewN _).drewN _⟩
            case measure => simp [intOf]; omega
          · have HT : Hid (signI (decide (q < s)) = cmpTs a b) := Lib.hid (by
              rw [← HS.out, cmpTk_eq p q s hqs, if_neg (signI_ne _)])
            have e1 : (q != s) = true := by simpa using hqs
            have HSG := Lib.hid (fun W => sign_any (decide (q < s)) W)
            clear HS hqs
            have HE := Lib.hid hE; clear hE
            go_wp2_with (fail)
            go_quiet (fail)
            go_wp2_with (fail)
            go_quiet (fail)
            go_wp2_with (fail)
            refine wp_world (fun W => Ext wr W) (by first | exact ((Ext.refl _).drewN _).drewN _ | exact (Ext.refl _).drewN _) ?_
            intro wz hEz
            have k0 := cell_regrown (hEz.cell c0)
            have k1 := cell_regrown (hEz.cell c1)
            have k2 := cell_regrown (hEz.cell c2)
            have k3 := cell_regrown (hEz.cell c3)
            clear c0 c1 c2 c3
            refine wp_region_ext (by kernel_rfl) (by kernel_rfl) ?_
            repeat (go_big_quiet_step (first | (go_at_call 61; exact Calls.same_of HSG.out _ _)))
            refine wpQuiet_nil ?_
            intro w3 hE3
            go_wp2_with (fail)
            go_ret
            exact ⟨by rw [← HT.out]; rfl, (HE.out.trans hEz).trans hE3⟩
        · have HT : Hid (signI (decide (p < r)) = cmpTs a b) := Lib.hid (by
            rw [← HS.out, cmpTk_le p r q s hpr, if_neg (signI_ne _)])
          have e1 : (p != r) = true := by simpa using hpr
          have HSG := Lib.hid (fun W => sign_any (decide (p < r)) W)
          clear HS hpr
          have HE := Lib.hid hE; clear hE
          go_wp2_with (fail)
          go_quiet (fail)
          go_wp2_with (fail)
          refine wp_world (fun W => Ext wr W) (by first | exact ((Ext.refl _).drewN _).drewN _ | exact (Ext.refl _).drewN _) ?_
          intro wz hEz
          have k0 := cell_regrown (hEz.cell c0)
          have k1 := cell_regrown (hEz.cell c1)
          have k2 := cell_regrown (hEz.cell c2)
          have k3 := cell_regrown (hEz.cell c3)
          clear c0 c1 c2 c3
          refine wp_region_ext (by kernel_rfl) (by kernel_rfl) ?_
          repeat (go_big_quiet_step (first | (go_at_call 61; exact Calls.same_of HSG.out _ _)))
          refine wpQuiet_nil ?_
          intro w3 hE3
          go_wp2_with (fail)
          go_ret
          exact ⟨by rw [← HT.out]; rfl, (HE.out.trans hEz).trans hE3⟩
      · have HT : Hid (lensI n m = cmpTs a b) := Lib.hid (by
          rw [cmpTs_len_add a b k (by have := HLA.out; omega) (by have := HLB.out; omega) (.inr (List.drop_of_length_le (by have := HLB.out; omega))) HG.out, HLA.out, HLB.out])
        have HLG := Lib.hid (fun W => lengths_any n m W)
        go_wp2_with (go_at_call 62; refine (HLG.out _).mono ?_; rintro e w1 ⟨rfl, rfl⟩; rw [HT.out])
        go_ret
        exact ⟨rfl, hE⟩
    · have HT : Hid (lensI n m = cmpTs a b) := Lib.hid (by
        rw [cmpTs_len_add a b k (by have := HLA.out; omega) (by have := HLB.out; omega) (.inl (List.drop_of_length_le (by have := HLA.out; omega))) HG.out, HLA.out, HLB.out])
      have HLG := Lib.hid (fun W => lengths_any n m W)
      go_wp2_with (go_at_call 62; refine (HLG.out _).mono ?_; rintro e w1 ⟨rfl, rfl⟩; rw [HT.out])
      go_ret
      exact ⟨rfl, hE⟩
end Go.Proofs.YthldgioggjpnpaaGreat
