/-
  Contracts: the reference's CompareEntries and Entries.
-/
import Derived.Test.YthldgioggjpnpaaGreatS4
namespace Go.Proofs.YthldgioggjpnpaaGreat
open Go.RowKit

theorem compareBytes_sign (x y : Nm) : Lib.compareBytes x y = if x = y then 0 else signI (Op.bytesLess x y) := by
  induction x generalizing y with
  | nil => cases y with
    | nil => rfl
    | cons b s => simp [Lib.compareBytes, Op.bytesLess, signI]
  | cons a r ih => cases y with
    | nil => simp [Lib.compareBytes, Op.bytesLess, signI]
    | cons b s =>
      rw [Lib.compareBytes, Op.bytesLess, ih s]
      by_cases h1 : a < b
      · have : a ≠ b := fun e => by subst e; exact absurd h1 (by rw [UInt8.lt_iff_toNat_lt]; omega)
        simp [h1, this, signI]
      · by_cases h2 : b < a
        · have : a ≠ b := fun e => by subst e; exact h1 h2
          simp [h1, h2, this, signI]
        · have : a = b := by
            apply UInt8.toNat_inj.1
            rw [UInt8.lt_iff_toNat_lt] at h1 h2
            omega
          subst this
          simp [h1]
theorem cmpEn_same (ta tb : List Tk) (x : Nm) : cmpEn (ta, x) (tb, x) = cmpTs ta tb := by
  unfold cmpEn; rw [orI2, if_pos (compareBytes_ok.refl x)]
theorem cmpEn_diff (ta tb : List Tk) (x y : Nm) (h : x ≠ y) : cmpEn (ta, x) (tb, y) = signI (Op.bytesLess x y) := by
  unfold cmpEn
  rw [orI2, compareBytes_sign, if_neg h, if_neg (signI_ne _)]

set_option maxRecDepth 100000 in
set_option maxHeartbeats 1000000 in
theorem rcmpEntry_any (va vb : Value) (a b : En) (w : World) (ha : RdT w va a.1) (hb : RdT w vb b.1) :
    Calls Tryz.prog 63 #[.agg #[va, encS a.2], .agg #[vb, encS b.2]] w fun e w' => e = .returned (.int .i64 (cmpEn a b)) ∧ Ext w w' := by
  have HA := Lib.hid ha
  have HB := Lib.hid hb
  obtain ⟨A, na, ca, rfl, -⟩ := ha
  obtain ⟨C, nb, cb, rfl, -⟩ := hb
  obtain ⟨ta, xa⟩ := a
  obtain ⟨tb, xb⟩ := b
  dsimp only at HA HB ⊢
  by_cases h : xa = xb
  · subst h
    have HC : Hid (cmpEn (ta, xa) (tb, xa) = cmpTs ta tb) := Lib.hid (cmpEn_same _ _ _)
    have e1 : (xa != xa) = false := by simp
    have e2 : (xa == xa) = true := by simp
    have HT := Lib.hid (fun W (hW : Ext w W) => rcmpTicks_any _ _ ta tb W (HA.out.ext hW) (HB.out.ext hW))
    generalize cmpTs ta tb = r at *
    go_enter Tryz.func63, Tryz.ntmps63
    go_wp2_with (go_at_call 90; refine (HT.out _ (((Ext.refl w).alloc _).alloc _)).mono ?_; rintro e w3 ⟨rfl, hE3⟩; have HE3 := Lib.hid ((((Ext.refl w).alloc _).alloc _).trans hE3); clear hE3)
    go_ret
    exact ⟨by rw [HC.out]; rfl, HE3.out⟩
  · have HC : Hid (cmpEn (ta, xa) (tb, xb) = signI (Op.bytesLess xa xb)) := Lib.hid (cmpEn_diff _ _ _ _ h)
    have e1 : (xa != xb) = true := by simpa using h
    have e2 : (xa == xb) = false := by simpa using h
    obtain ⟨r, hr⟩ : ∃ r, Op.bytesLess xa xb = r := ⟨_, rfl⟩
    rw [hr] at HC
    have HS := Lib.hid (fun W => sign_any r W)
    go_enter Tryz.func63, Tryz.ntmps63
    go_wp2_with (go_at_call 61; refine (HS.out _).mono ?_; rintro e w3 ⟨rfl, rfl⟩)
    all_goals (go_ret; exact ⟨by rw [HC.out]; rfl, ((Ext.refl w).alloc _).alloc _⟩)

/-- what the reference asks of the entry at a place -/
def okE (es : List En) (j : Nat) : Prop := ∀ e, es[j]? = some e →
  e.1 ≠ [] ∧ validT e.1 = true ∧ okName e.2 = true ∧ (∀ d, 0 < j → es[j - 1]? = some d → cmpEn d e < 0) ∧ ∀ d ∈ es, belowT e.1 d.1 = false

set_option maxRecDepth 100000 in
set_option maxHeartbeats 4000000 in
theorem rentries_any (v : Value) (es : List En) (w : World) (h : RdE w v es) :
    Calls Tryz.prog 125 #[v] w fun e w' => ∃ r, e = .returned (.bool r) ∧ (r = true ↔ ∀ j, okE es j) ∧ Ext w w' := by
  have H := Lib.hid h
  obtain ⟨A, n, c, rfl, hl, hnc, hcm, -⟩ := h
  unfold maxLen at hcm
  have HL := Lib.hid hl; clear hl
  go_enter Tryz.func125, Tryz.ntmps125
  go_wp2_with (fail)
  go_loopw [3] (fun i wr => ∃ k : Nat, k ≤ n ∧ i = .int .i64 k ∧ (∀ j, j < k → okE es j) ∧ Ext w wr) (fun i _ => n - (intOf i).toNat)
  case atStart => exact ⟨0, Nat.zero_le _, rfl, fun j hj => absurd hj (by omega), Ext.refl _⟩
  case round =>
    obtain ⟨wo, rfl⟩ : ∃ wo : World, wo = wr := ⟨_, rfl⟩
    obtain ⟨k, hk, rfl, hg, hE⟩ := hrel
    have HG := Lib.hid hg; clear hg
    by_cases hlt : k < n
    · obtain ⟨b, off, x, q, rfl, hb, hx, c0, c1, hq, hnl⟩ := RdE.at_ (H.out.ext hE) hlt
      have HX := Lib.hid hx; clear hx
      have HQ := Lib.hid hq
      have HNL := Lib.hid hnl; clear hnl
      have HE := Lib.hid hE; clear hE
      have hlen : q = .slice ((fun _ => none) ()) 0 0 ∨ True := .inr trivial
      clear hlen
      obtain ⟨Aq, cq, rfl⟩ := hq.lenv
      clear hq
      obtain ⟨ts, nm⟩ := x
      dsimp only at c0 c1 HQ HNL
      have HBAD : Hid (¬ (ts ≠ [] ∧ validT ts = true ∧ okName nm = true ∧ (∀ d, 0 < k → es[k - 1]? = some d → cmpEn d (ts, nm) < 0) ∧ ∀ d ∈ es, belowT ts d.1 = false) → ¬ ∀ j, okE es j) := Lib.hid (fun hn ha => hn (ha k _ HX.out))
      by_cases hem : ts = []
      · subst hem
        go_wp2_with (fail)
        go_ret
        exact ⟨_, rfl, ⟨fun h => absurd h (by decide), fun h => absurd h (HBAD.out (fun h => h.1 rfl))⟩, HE.out⟩
      · have hl0 : (((ts.length : Nat) : Int) == 0) = false := by
          rw [beq_eq_false_iff_ne]
          intro h
          exact hem (List.eq_nil_of_length_eq_zero (by omega))
        have HEM := Lib.hid hem; clear hem
        cases hva : validT ts with
        | false =>
          have HVA := Lib.hid hva; clear hva
          go_wp2_with (first | (go_at_call 58; refine (rvalid_any _ ts _ HQ.out).mono ?_; rintro e w1 ⟨rfl, hE1⟩; rw [HVA.out]; have HE1 := Lib.hid (HE.out.trans hE1); clear hE1))
          go_ret
          exact ⟨_, rfl, ⟨fun h => absurd h (by decide), fun h => absurd h (HBAD.out (fun h => by have := h.2.1; rw [HVA.out] at this; exact absurd this (by decide)))⟩, HE1.out⟩
        | true =>
          have HVA := Lib.hid hva; clear hva
          cases hon : okName nm with
          | false =>
            have HON := Lib.hid hon; clear hon
            go_wp2_with (first
              | (go_at_call 58; refine (rvalid_any _ ts _ HQ.out).mono ?_; rintro e w1 ⟨rfl, hE1⟩; rw [HVA.out]; have d1 := hE1.cell c1; have l1 := Nat.lt_of_lt_of_le hb hE1.size; have HE1 := Lib.hid (HE.out.trans hE1); clear hE1)
              | (go_at_call 155; refine (refValid_any nm _ HNL.out).mono ?_; rintro e w2 ⟨rfl, rfl⟩; rw [HON.out]))
            go_ret
            exact ⟨_, rfl, ⟨fun h => absurd h (by decide), fun h => absurd h (HBAD.out (fun h => by have := h.2.2.1; rw [HON.out] at this; exact absurd this (by decide)))⟩, HE1.out⟩
          | true =>
            have HON := Lib.hid hon; clear hon
            go_upto_region 6 with (first
              | (go_at_call 58; refine (rvalid_any _ ts _ HQ.out).mono ?_; rintro e w1 ⟨rfl, hE1⟩; rw [HVA.out]; have d1 := hE1.cell c1; have l1 := Nat.lt_of_lt_of_le hb hE1.size; have HEW := Lib.hid hE1; have HE1 := Lib.hid (HE.out.trans hE1); clear hE1)
              | (go_at_call 155; refine (refValid_any nm _ HNL.out).mono ?_; rintro e w2 ⟨rfl, rfl⟩; rw [HON.out]))
            have hq1 := HQ.out
            have d0 : w1.cell? ⟨b, off + k * 2, none⟩ = some (.slice Aq ts.length cq) := by
              have := HEW.out.cell c0
              exact this
            have HQ1 := Lib.hid (hq1.ext HEW.out)
            clear hq1 c0 c1
            go_cut [50] from 5 to 67 (fun v50 wx => ∃ bd : Bool, v50 = .bool bd ∧ (bd = false ↔ ∀ d, 0 < k → es[k - 1]? = some d → cmpEn d (ts, nm) < 0) ∧ Ext w1 wx)
            case first =>
              rcases Nat.eq_zero_or_pos k with hk0 | hk0
              · subst hk0
                have hd0 : decide ((0 : Int) < ((0 : Nat) : Int)) = false := by decide
                go_quiet (fail)
                go_wp2_with (fail)
                go_meet
                case rel => exact ⟨false, rfl, ⟨fun _ d h => absurd h (by omega), fun _ => rfl⟩, by first | exact Ext.refl _ | exact (Ext.refl _).drewN _⟩
              · obtain ⟨b', off', d, q', hA', hb', hd, e0, e1, hq', hnl'⟩ := RdE.at_ (H.out.ext HE1.out) (j := k - 1) (by omega)
                injection hA' with hA'
                injection hA' with q5 q6
                subst q5 q6
                have HD := Lib.hid hd; clear hd hnl'
                have HQ' := Lib.hid hq'
                obtain ⟨Ad, cd, rfl⟩ := hq'.lenv
                clear hq' hb'
                have hkI : (0 : Int) < (k : Int) := by omega
                have hd0 : decide ((0 : Int) < (k : Int)) = true := decide_eq_true hkI
                have hk2 : (k : Int) - 1 < (n : Int) := by omega
                have hk3 : 0 ≤ (k : Int) - 1 := by omega
                obtain ⟨r, hr⟩ : ∃ r, cmpEn d (ts, nm) = r := ⟨_, rfl⟩
                have CE : Hid (∀ W, Ext w1 W → Calls Tryz.prog 63 #[.agg #[.slice Ad d.1.length cd, encS d.2], .agg #[.slice Aq ts.length cq, encS nm]] W fun e w' => e = .returned (.int .i64 r) ∧ Ext W w') := Lib.hid (fun W hW => by
                  have := rcmpEntry_any _ _ d (ts, nm) W (HQ'.out.ext hW) (HQ1.out.ext hW)
                  rw [hr] at this
                  exact this)
                have k0 := cell_regrown d0
                have k1 := cell_regrown d1
                have k2 := cell_regrown e0
                have k3 := cell_regrown e1
                clear e0 e1
                have HBD : Hid ((∀ d', 0 < k → es[k - 1]? = some d' → cmpEn d' (ts, nm) < 0) ↔ r < 0) := Lib.hid ⟨fun h => by rw [← hr]; exact h d hk0 HD.out, fun h d' _ hd' => by
                  have := HD.out.symm.trans hd'
                  injection this with this
                  subst this
                  rw [hr]; exact h⟩
                have HD0 := Lib.hid d0; have HD1 := Lib.hid d1
                clear hr d0 d1
                by_cases hr0 : r < 0
                · have hr1 : ¬ 0 ≤ r := by omega
                  have hr2 : decide (0 ≤ r) = false := decide_eq_false hr1
                  refine wp_region_ext (by kernel_rfl) (by kernel_rfl) ?_
                  repeat (go_big_quiet_step (first | (go_at_call 63; exact Calls.ext_of CE.out _ _)))
                  refine wpQuiet_nil ?_
                  intro w3 hE3
                  go_wp2_with (fail)
                  go_meet
                  case rel => exact ⟨false, rfl, ⟨fun _ => HBD.out.2 hr0, fun _ => rfl⟩, hE3⟩
                · have hr1 : 0 ≤ r := by omega
                  have hr2 : decide (0 ≤ r) = true := decide_eq_true hr1
                  refine wp_region_ext (by kernel_rfl) (by kernel_rfl) ?_
                  repeat (go_big_quiet_step (first | (go_at_call 63; exact Calls.ext_of CE.out _ _)))
                  refine wpQuiet_nil ?_
                  intro w3 hE3
                  go_wp2_with (fail)
                  go_meet
                  case rel => exact ⟨true, rfl, ⟨fun h => absurd h (by decide), fun h => absurd (HBD.out.1 h) (Int.not_lt.2 hr1)⟩, hE3⟩
            case rest =>
              obtain ⟨bd, rfl, hbd, hE3⟩ := hcut
              have HBD := Lib.hid hbd; clear hbd
              have HEC := Lib.hid (HE1.out.trans hE3)
              have HQ3 := Lib.hid (HQ1.out.ext hE3)
              have a0 := hE3.cell d0
              clear hE3 d0 d1
              cases bd with
              | true =>
                go_wp2_with (fail)
                go_ret
                exact ⟨_, rfl, ⟨fun h => absurd h (by decide), fun h => absurd h (HBAD.out (fun h => by have := HBD.out.2 h.2.2.2.1; exact absurd this (by decide)))⟩, HEC.out⟩
              | false =>
                go_wp2_with (fail)
                go_loopw [4] (fun i wr => ∃ m : Nat, m ≤ n ∧ i = .int .i64 m ∧ (∀ d ∈ es.take m, belowT ts d.1 = false) ∧ Ext wc wr) (fun i _ => n - (intOf i).toNat)
                case atStart => exact ⟨0, Nat.zero_le _, rfl, by simp, Ext.refl _⟩
                case round =>
                  obtain ⟨m, hm, rfl, hall, hEi⟩ := hrel
                  have HALL := Lib.hid hall; clear hall
                  have a0' := hEi.cell a0
                  by_cases hlm : m < n
                  · obtain ⟨b', off', d, q', hA', hb', hd, e0, e1, hq', hnl'⟩ := RdE.at_ (H.out.ext (HEC.out.trans hEi)) hlm
                    injection hA' with hA'
                    injection hA' with q5 q6
                    subst q5 q6
                    have HD := Lib.hid hd; clear hd hnl' e1
                    have HQ' := Lib.hid hq'
                    obtain ⟨Ad, cd, rfl⟩ := hq'.lenv
                    clear hq' hb'
                    have hb2 : b < wr.heap.size := World.block_lt_of_cell? _ _ a0'
                    obtain ⟨r, hr⟩ : ∃ r, belowT ts d.1 = r := ⟨_, rfl⟩
                    have CE : Hid (∀ W, Ext wr W → Calls Tryz.prog 71 #[.slice Aq ts.length cq, .slice Ad d.1.length cd] W fun e w' => e = .returned (.bool r) ∧ Ext W w') := Lib.hid (fun W hW => by
                      have := rbelow_any _ _ ts d.1 W (HQ3.out.ext (hEi.trans hW)) (HQ'.out.ext hW)
                      rw [hr] at this
                      exact this)
                    have HR := Lib.hid hr; clear hr
                    have HEI := Lib.hid hEi; clear hEi
                    have k0 := cell_regrown a0'
                    have k2 := cell_regrown e0
                    clear e0 a0'
                    cases r with
                    | true =>
                      go_wp2_with (fail)
                      refine wp_region_ext (by kernel_rfl) (by kernel_rfl) ?_
                      repeat (go_big_quiet_step (first | (go_at_call 71; exact Calls.ext_of CE.out _ _)))
                      refine wpQuiet_nil ?_
                      intro w4 hE4
                      go_wp2_with (fail)
                      go_ret
                      exact ⟨_, rfl, ⟨fun h => absurd h (by decide), fun h => absurd h (HBAD.out (fun h => by have := h.2.2.2.2 d (List.mem_of_getElem? HD.out); rw [HR.out] at this; exact absurd this (by decide)))⟩, (HEC.out.trans HEI.out).trans hE4⟩
                    | false =>
                      go_wp2_with (fail)
                      refine wp_region_ext (by kernel_rfl) (by kernel_rfl) ?_
                      repeat (go_big_quiet_step (first | (go_at_call 71; exact Calls.ext_of CE.out _ _)))
                      refine wpQuiet_nil ?_
                      intro w4 hE4
                      go_wp2_with (fail)
                      go_roundw
                      case rel =>
                        refine ⟨m + 1, by omega, by go_num, ?_, HEI.out.trans hE4⟩
                        intro f hf
                        obtain ⟨hml, hme⟩ := List.getElem?_eq_some_iff.1 HD.out
                        rw [List.take_succ_eq_append_getElem hml, hme] at hf
                        rcases List.mem_append.1 hf with hf | hf
                        · exact HALL.out f hf
                        · rw [List.mem_singleton] at hf; rw [hf]; exact HR.out
                      case measure => simp [intOf]; omega
                  · obtain rfl : m = n := by omega
                    go_wp2_with (fail)
                    go_roundw
                    case rel =>
                      refine ⟨k + 1, by omega, by go_num, fun j hj => ?_, HEC.out.trans hEi⟩
                      rcases Nat.lt_succ_iff_lt_or_eq.1 hj with h | rfl
                      · exact HG.out j h
                      · intro e he
                        have := HX.out.symm.trans he
                        injection this with this
                        subst this
                        refine ⟨HEM.out, HVA.out, HON.out, HBD.out.1 (by first | rfl | trivial), fun d hd => HALL.out d ?_⟩
                        rw [List.take_of_length_le (by have := HL.out; omega)]
                        exact hd
                    case measure => simp [intOf]; omega
    · go_wp2_with (fail)
      go_ret
      refine ⟨_, rfl, ⟨fun _ j => ?_, fun _ => rfl⟩, hE⟩
      by_cases hj : j < k
      · exact HG.out j hj
      · intro e he
        have := (List.getElem?_eq_some_iff.1 he).1
        have := HL.out
        omega
end Go.Proofs.YthldgioggjpnpaaGreat
