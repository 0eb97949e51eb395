/-
  The walk of the law RegisterReads: it returns true, whatever comes in.
-/
import Derived.Test.YthldgioggjpnpaaGreatS11
import Derived.Test.YthldgioggjpnpaaGreatS12
namespace Go.Proofs.YthldgioggjpnpaaGreat
open Go.RowKit

theorem isReg_facts {N : Int} {nn np : Nat} {es : List En} (h : isB (es.length ≤ 12 ∧ IsReg N nn np es) = true) : es.length ≤ 12 ∧ isReg N nn np es = true ∧ (∀ x ∈ es, validT x.1 = true) := by
  have h' := (isB_iff _).1 h
  have hr := (isReg_iff N nn np es).1 h'.2
  exact ⟨h'.1, hr, isReg_valid hr⟩

set_option maxRecDepth 100000 in
set_option maxHeartbeats 4000000 in
theorem lawReads_any (v : Value) (N : Int) (nn np : Nat) (es : List En) (w : World) (h : RdV w v N nn np es) :
    Calls Tryz.prog 4 #[v] w fun e w' => e = .returned (.bool true) ∧ Ext w w' := by
  have H := Lib.hid h
  obtain ⟨An, cn, Ap, cp, ve, rfl, he⟩ := h
  obtain ⟨A, n, c, rfl⟩ := he.slice
  clear he
  go_enter Tryz.func4, Tryz.ntmps4
  go_upto_region 1 with (fail)
  obtain ⟨wa, hwa⟩ : ∃ wa, wa = w.alloc (.cells #[.int .i64 N, .slice An nn cn, .slice Ap np cp, .slice A n c] 26) := ⟨_, rfl⟩
  have HEA : Hid (Ext w wa) := Lib.hid (by rw [hwa]; exact (Ext.refl w).alloc _)
  have HBK : Hid (Blk wa w.heap.size 26 #[.int .i64 N, .slice An nn cn, .slice Ap np cp, .slice A n c]) := Lib.hid (by rw [hwa]; exact Blk.new _ _ _)
  rw [← hwa]
  clear hwa
  generalize w.heap.size = G at *
  have HS : Hid (∀ W, Ext wa W → W.cell? ⟨G, 0, none⟩ = some (.int .i64 N) ∧ W.cell? ⟨G, 1, none⟩ = some (.slice An nn cn) ∧ W.cell? ⟨G, 2, none⟩ = some (.slice Ap np cp) ∧ W.cell? ⟨G, 3, none⟩ = some (.slice A n c)) := Lib.hid (fun W hW => ⟨hW.cell (HBK.out.cell 0), hW.cell (HBK.out.cell 1), hW.cell (HBK.out.cell 2), hW.cell (HBK.out.cell 3)⟩)
  go_upto_region 3 with (go_at_call 10; refine (awake_any _).mono ?_; rintro e w1 ⟨rfl, hE1⟩; obtain ⟨x0, x1, x2, x3⟩ := HS.out _ hE1; have lx := World.block_lt_of_cell? _ _ x0; have HE1 := Lib.hid hE1; clear hE1)
  obtain ⟨s, hs⟩ : ∃ s, isB (es.length ≤ 12 ∧ IsReg N nn np es) = s := ⟨_, rfl⟩
  cases s with
  | false =>
    have HSM := Lib.hid hs; clear hs
    go_wp2_with (go_at_call 17; refine (small_any _ N nn np es _ (H.out.ext (HEA.out.trans HE1.out))).mono ?_; rintro e w2 ⟨rfl, hE2⟩; rw [HSM.out]; have HE2 := Lib.hid hE2; clear hE2)
    go_ret
    exact ⟨rfl, HEA.out.trans (HE1.out.trans HE2.out)⟩
  | true =>
    obtain ⟨hle, hrg, hva⟩ := isReg_facts hs
    have HLE : Hid (es.length ≤ 1048576) := Lib.hid (by omega)
    have HVA := Lib.hid hva; clear hva hle hrg
    have HSM := Lib.hid hs; clear hs
    go_upto_region 5 with (go_at_call 17; refine (small_any _ N nn np es _ (H.out.ext (HEA.out.trans HE1.out))).mono ?_; rintro e w2 ⟨rfl, hE2⟩; rw [HSM.out]; replace x0 := hE2.cell x0; replace x1 := hE2.cell x1; replace x2 := hE2.cell x2; replace x3 := hE2.cell x3; have lx := World.block_lt_of_cell? _ _ x0; have HE2 := Lib.hid hE2; clear hE2)
    go_cut [3, 4] (fun v3 v4 wx => ∃ l, NamesOf es l ∧ RdS wx v3 l ∧ RdS wx v4 l ∧ Ext w2 wx)
    case first =>
      go_region_held3 (fun w' => w'.cell? ⟨G, 0, none⟩ = some (.int .i64 N) ∧ w'.cell? ⟨G, 1, none⟩ = some (.slice An nn cn) ∧ w'.cell? ⟨G, 2, none⟩ = some (.slice Ap np cp) ∧ w'.cell? ⟨G, 3, none⟩ = some (.slice A n c)) (first | exact HS.out _ (by repeat (first | exact Ext.refl _ | refine Ext.drew ?_ | refine Ext.drewN ?_ _ | refine Ext.alloc ?_ _ | refine Ext.trans ?_ (Hid.out (by assumption)))) | go_keep) (first
        | (go_at_call 18; refine (rnames_any _ N nn np es _ (H.out.ext (by repeat (first | exact Ext.refl _ | refine Ext.drew ?_ | refine Ext.drewN ?_ _ | refine Ext.alloc ?_ _ | refine Ext.trans ?_ (Hid.out (by assumption))))) HLE.out).mono ?_; rintro e w3 ⟨u3, l3, rfl, hn3, hr3, hE3⟩; have HN3 := Lib.hid hn3; have HR3 := Lib.hid hr3; have HE3 := Lib.hid hE3; clear hn3 hr3 hE3)
        | (go_at_call 19; refine (rnames13_any _ N nn np es _ (H.out.ext (by repeat (first | exact Ext.refl _ | refine Ext.drew ?_ | refine Ext.drewN ?_ _ | refine Ext.alloc ?_ _ | refine Ext.trans ?_ (Hid.out (by assumption))))) HLE.out).mono ?_; rintro e w4 ⟨u4, l4, rfl, hn4, hr4, hE4⟩; have HN4 := Lib.hid hn4; have HR4 := Lib.hid hr4; have HE4 := Lib.hid hE4; clear hn4 hr4 hE4))
      all_goals
        go_wp2_with (fail)
        go_meet
        case rel =>
          refine ⟨l3, HN3.out, HR3.out.ext (by repeat (first | exact Ext.refl _ | refine Ext.drew ?_ | refine Ext.drewN ?_ _ | refine Ext.alloc ?_ _ | refine Ext.trans ?_ (Hid.out (by assumption)))), ?_, (by repeat (first | exact Ext.refl _ | refine Ext.drew ?_ | refine Ext.drewN ?_ _ | refine Ext.alloc ?_ _ | refine Ext.trans ?_ (Hid.out (by assumption))))⟩
          rw [namesOf_uniq HN3.out HN4.out]
          exact HR4.out.ext (by repeat (first | exact Ext.refl _ | refine Ext.drew ?_ | refine Ext.drewN ?_ _ | refine Ext.alloc ?_ _ | refine Ext.trans ?_ (Hid.out (by assumption))))
    case rest =>
      obtain ⟨l, hn, hr3, hr4, hE⟩ := hcut
      obtain ⟨x0, x1, x2, x3⟩ := HS.out wc (HE1.out.trans (HE2.out.trans hE))
      have lx := World.block_lt_of_cell? _ _ x0
      have HE3 := Lib.hid hE; clear hE
      have HN := Lib.hid hn
      have HR3 := Lib.hid hr3
      have HR4 := Lib.hid hr4
      obtain ⟨A3, c3, rfl, -⟩ := hr3.form
      obtain ⟨A4, c4, rfl, -⟩ := hr4.form
      clear hn hr3 hr4
      obtain ⟨w5, rfl⟩ : ∃ W : World, W = wc := ⟨_, rfl⟩
      go_upto_region 6 with (fail)
      go_cut [5, 6] (fun v5 v6 wx => RdT wx v5 (clockR es) ∧ RdT wx v6 (clockR es) ∧ Ext w5 wx)
      case first =>
        go_region_held3 (fun w' => w'.cell? ⟨G, 0, none⟩ = some (.int .i64 N) ∧ w'.cell? ⟨G, 1, none⟩ = some (.slice An nn cn) ∧ w'.cell? ⟨G, 2, none⟩ = some (.slice Ap np cp) ∧ w'.cell? ⟨G, 3, none⟩ = some (.slice A n c)) (first | exact HS.out _ (by repeat (first | exact Ext.refl _ | refine Ext.drew ?_ | refine Ext.drewN ?_ _ | refine Ext.alloc ?_ _ | refine Ext.trans ?_ (Hid.out (by assumption)))) | go_keep) (first
          | (go_at_call 20; refine (rclock_any _ N nn np es _ (H.out.ext (by repeat (first | exact Ext.refl _ | refine Ext.drew ?_ | refine Ext.drewN ?_ _ | refine Ext.alloc ?_ _ | refine Ext.trans ?_ (Hid.out (by assumption))))) HVA.out).mono ?_; rintro e w6 ⟨u6, rfl, ho6, -, hE6⟩; have HR6 := Lib.hid (ho6.rdN (fun _ => rfl)); have HE6 := Lib.hid hE6; clear ho6 hE6)
          | (go_at_call 21; refine (rclock13_any _ N nn np es _ (H.out.ext (by repeat (first | exact Ext.refl _ | refine Ext.drew ?_ | refine Ext.drewN ?_ _ | refine Ext.alloc ?_ _ | refine Ext.trans ?_ (Hid.out (by assumption))))) HVA.out).mono ?_; rintro e w7 ⟨u7, rfl, hr7, hE7⟩; have HR7 := Lib.hid hr7; have HE7 := Lib.hid hE7; clear hr7 hE7))
        all_goals
          go_wp2_with (fail)
          go_meet
          case rel => exact ⟨HR6.out.ext (by repeat (first | exact Ext.refl _ | refine Ext.drew ?_ | refine Ext.drewN ?_ _ | refine Ext.alloc ?_ _ | refine Ext.trans ?_ (Hid.out (by assumption)))), HR7.out.ext (by repeat (first | exact Ext.refl _ | refine Ext.drew ?_ | refine Ext.drewN ?_ _ | refine Ext.alloc ?_ _ | refine Ext.trans ?_ (Hid.out (by assumption)))), (by repeat (first | exact Ext.refl _ | refine Ext.drew ?_ | refine Ext.drewN ?_ _ | refine Ext.alloc ?_ _ | refine Ext.trans ?_ (Hid.out (by assumption))))⟩
      case rest =>
        obtain ⟨hr5, hr6, hE⟩ := hcut
        obtain ⟨x0, x1, x2, x3⟩ := HS.out wc (HE1.out.trans (HE2.out.trans (HE3.out.trans hE)))
        have lx := World.block_lt_of_cell? _ _ x0
        have HE4 := Lib.hid hE; clear hE
        have HR5 := Lib.hid hr5
        have HR6 := Lib.hid hr6
        obtain ⟨A5, c5, rfl⟩ := hr5.lenv
        obtain ⟨A6, c6, rfl⟩ := hr6.lenv
        clear hr5 hr6
        obtain ⟨w8, rfl⟩ : ∃ W : World, W = wc := ⟨_, rfl⟩
        obtain ⟨ts, hts⟩ : ∃ ts, clockR es = ts := ⟨_, rfl⟩
        rw [hts] at HR5 HR6 ⊢
        clear hts
        have hlm : l.length ≤ 9223372036854775807 := by
          obtain ⟨_, _, _, h1, h2⟩ := HR3.out.form
          unfold maxLen at h2
          omega
        have htm : ts.length ≤ 9223372036854775807 := by
          obtain ⟨_, _, _, _, h0, h1, h2, _⟩ := HR5.out
          unfold maxLen at h2
          omega
        have q0 : ((l.length : Int) != l.length) = false := by simp
        have q1 : ((ts.length : Int) != ts.length) = false := by simp
        obtain ⟨d, hd⟩ : ∃ d, decide (1 < l.length) = d := ⟨_, rfl⟩
        have hd' : decide ((1 : Int) < (l.length : Int)) = d := by rw [← hd, Bool.eq_iff_iff]; simp; omega
        have q2 : (d != d) = false := by simp
        have HD := Lib.hid hd; clear hd
        go_upto_region 9 with (go_at_call 22; refine (conflict_any _ N nn np es _ (H.out.ext (by repeat (first | exact Ext.refl _ | refine Ext.drew ?_ | refine Ext.drewN ?_ _ | refine Ext.alloc ?_ _ | refine Ext.trans ?_ (Hid.out (by assumption))))) HLE.out).mono ?_; rintro e w9 ⟨l9, rfl, hn9, hE9⟩; obtain rfl := namesOf_uniq HN.out hn9; rw [HD.out]; have HE9 := Lib.hid hE9; clear hn9 hE9)
        go_wp2_with (fail)
        go_loopw [7] (fun i wr => ∃ k : Nat, k ≤ l.length ∧ i = .int .i64 k ∧ Ext w9 wr) (fun i _ => l.length - (intOf i).toNat)
        case atStart => exact ⟨0, Nat.zero_le _, rfl, Ext.refl _⟩
        case round =>
          obtain ⟨k, hk, rfl, hE⟩ := hrel
          have HEr := Lib.hid hE; clear hE
          by_cases hlt : k < l.length
          · obtain ⟨b1, o1, y1, rfl, hb1, hy1, d1⟩ := Rd1.at_ (HR3.out.ext (by repeat (first | exact Ext.refl _ | refine Ext.drew ?_ | refine Ext.drewN ?_ _ | refine Ext.alloc ?_ _ | refine Ext.trans ?_ (Hid.out (by assumption)))) : RdS wr _ _) hlt
            obtain ⟨b2, o2, y2, rfl, hb2, hy2, d2⟩ := Rd1.at_ (HR4.out.ext (by repeat (first | exact Ext.refl _ | refine Ext.drew ?_ | refine Ext.drewN ?_ _ | refine Ext.alloc ?_ _ | refine Ext.trans ?_ (Hid.out (by assumption)))) : RdS wr _ _) hlt
            rw [hy1] at hy2
            injection hy2 with hy2
            subst hy2
            have HY := Lib.hid hy1; clear hy1
            have e1 : (y1 == y1) = true := by simp
            have e2 : (y1 != y1) = false := by simp
            go_wp2_with (fail)
            go_quiet (fail)
            go_wp2_with (fail)
            go_roundw
            case rel => exact ⟨k + 1, by omega, by go_num, by first | exact HEr.out | exact HEr.out.drewN _⟩
            case measure => simp [intOf]; omega
          · go_wp2_with (fail)
            obtain ⟨wx, rfl⟩ : ∃ W : World, W = wr := ⟨_, rfl⟩
            go_loopw [8] (fun i wr => ∃ k : Nat, k ≤ ts.length ∧ i = .int .i64 k ∧ Ext wx wr) (fun i _ => ts.length - (intOf i).toNat)
            case atStart => exact ⟨0, Nat.zero_le _, rfl, Ext.refl _⟩
            case round =>
              obtain ⟨m, hm, rfl, hE⟩ := hrel
              have HEs := Lib.hid hE; clear hE
              by_cases hlt : m < ts.length
              · obtain ⟨b1, o1, t1, rfl, hb1, ht1, d1, d2⟩ := RdT.tick (HR5.out.ext (by repeat (first | exact Ext.refl _ | refine Ext.drew ?_ | refine Ext.drewN ?_ _ | refine Ext.alloc ?_ _ | refine Ext.trans ?_ (Hid.out (by assumption)))) : RdT wr _ _) hlt
                obtain ⟨b2, o2, t2, rfl, hb2, ht2, d3, d4⟩ := RdT.tick (HR6.out.ext (by repeat (first | exact Ext.refl _ | refine Ext.drew ?_ | refine Ext.drewN ?_ _ | refine Ext.alloc ?_ _ | refine Ext.trans ?_ (Hid.out (by assumption)))) : RdT wr _ _) hlt
                rw [ht1] at ht2
                injection ht2 with ht2
                subst ht2
                have HY := Lib.hid ht1; clear ht1
                obtain ⟨p, q⟩ := t1
                dsimp only at d1 d2 d3 d4
                have e1 : (p == p) = true := by simp
                have e2 : (q == q) = true := by simp
                have e3 : (p != p) = false := by simp
                have e4 : (q != q) = false := by simp
                go_wp2_with (fail)
                go_quiet (fail)
                go_wp2_with (fail)
                go_roundw
                case rel => exact ⟨m + 1, by omega, by go_num, by first | exact HEs.out | exact HEs.out.drewN _⟩
                case measure => simp [intOf]; omega
              · go_wp2_with (fail)
                go_ret
                exact ⟨rfl, (by repeat (first | exact Ext.refl _ | refine Ext.drew ?_ | refine Ext.drewN ?_ _ | refine Ext.alloc ?_ _ | refine Ext.trans ?_ (Hid.out (by assumption))))⟩
end Go.Proofs.YthldgioggjpnpaaGreat
