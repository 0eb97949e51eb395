/-
  The walk of the law RegisterWrites: it returns true, whatever comes in.
-/
import Derived.Test.YthldgioggjpnpaaGreatS19
import Derived.Test.YthldgioggjpnpaaGreatS20
import Derived.Test.YthldgioggjpnpaaGreatS11
namespace Go.Proofs.YthldgioggjpnpaaGreat
open Go.RowKit

set_option maxRecDepth 100000 in
set_option maxHeartbeats 4000000 in
theorem lawWrites_any (d : Nat) (cs : List Value) (x : Val) (p : Int) (nm : Nm) (w : World) (hx : RdVal d w cs x) (hnl : nm.length ≤ maxLen) :
    Calls Tryz.prog 3 #[.agg cs.toArray, .int .i64 p, encS nm] w fun e w' => e = .returned (.bool true) ∧ Ext w w' := by
  have HXV := Lib.hid hx
  have HV := Lib.hid hx.V
  have HNL := Lib.hid hnl; clear hnl
  cases d with
  | zero => exact hx.elim
  | succ d =>
  obtain ⟨An, nn, cn, Ap, np, cp, ve, rfl, -, -, hE, -⟩ := hx
  obtain ⟨A, n, c, hve⟩ := hE.slice
  have HLN : Hid (x.es.length = n) := Lib.hid (by subst hve; obtain ⟨_, _, _, hv, hl, -⟩ := hE; injection hv with e1 e2 e3; rw [e2]; exact hl)
  subst hve
  clear hE
  generalize x.N = N at *
  go_enter Tryz.func3, Tryz.ntmps3
  go_upto_region 1 with (fail)
  obtain ⟨wa, hwa⟩ : ∃ wa, wa = w.alloc (.cells #[.int .i64 N, .slice An nn cn, .slice Ap np cp, .slice A n c] 26) := ⟨_, rfl⟩
  have HEA : Hid (Ext w wa) := Lib.hid (by rw [hwa]; exact (Ext.refl w).alloc _)
  have HBK : Hid (Blk wa w.heap.size 26 #[.int .i64 N, .slice An nn cn, .slice Ap np cp, .slice A n c]) := Lib.hid (by rw [hwa]; exact Blk.new _ _ _)
  rw [← hwa]
  clear hwa
  generalize w.heap.size = G at *
  have HS : Hid (∀ W, Ext wa W → W.cell? ⟨G, 0, none⟩ = some (.int .i64 N) ∧ W.cell? ⟨G, 1, none⟩ = some (.slice An nn cn) ∧ W.cell? ⟨G, 2, none⟩ = some (.slice Ap np cp) ∧ W.cell? ⟨G, 3, none⟩ = some (.slice A n c)) := Lib.hid (fun W hW => ⟨hW.cell (HBK.out.cell 0), hW.cell (HBK.out.cell 1), hW.cell (HBK.out.cell 2), hW.cell (HBK.out.cell 3)⟩)
  go_upto_region 3 with (go_at_call 10; refine (awake_any _).mono ?_; rintro e w1 ⟨rfl, hE1⟩; obtain ⟨x0, x1, x2, x3⟩ := HS.out _ hE1; have lx := World.block_lt_of_cell? _ _ x0; have HE1 := Lib.hid hE1; clear hE1)
  by_cases hle : (12 : Int) < (n : Int)
  · go_wp2_with (fail)
    go_ret
    exact ⟨rfl, (by repeat (first | exact Ext.refl _ | refine Ext.drew ?_ | refine Ext.drewN ?_ _ | refine Ext.alloc ?_ _ | refine Ext.trans ?_ (Hid.out (by assumption))))⟩
  · have HLE : Hid (x.es.length ≤ 1048576) := Lib.hid (by have := HLN.out; omega)
    obtain ⟨s, hs⟩ : ∃ s, smallV x 400 = s := ⟨_, rfl⟩
    have HSM := Lib.hid hs; clear hs
    cases s with
    | false =>
      go_wp2_with (go_at_call 11; refine (rsmall_any _ _ x 400 _ (by decide) (by decide) (HXV.out.ext (by repeat (first | exact Ext.refl _ | refine Ext.drew ?_ | refine Ext.drewN ?_ _ | refine Ext.alloc ?_ _ | refine Ext.trans ?_ (Hid.out (by assumption)))))).mono ?_; rintro e w2 ⟨rfl, hE2⟩; rw [HSM.out]; have HE2 := Lib.hid hE2; clear hE2)
      go_ret
      exact ⟨rfl, (by repeat (first | exact Ext.refl _ | refine Ext.drew ?_ | refine Ext.drewN ?_ _ | refine Ext.alloc ?_ _ | refine Ext.trans ?_ (Hid.out (by assumption))))⟩
    | true =>
      go_upto_region 5 with (go_at_call 11; refine (rsmall_any _ _ x 400 _ (by decide) (by decide) (HXV.out.ext (by repeat (first | exact Ext.refl _ | refine Ext.drew ?_ | refine Ext.drewN ?_ _ | refine Ext.alloc ?_ _ | refine Ext.trans ?_ (Hid.out (by assumption)))))).mono ?_; rintro e w2 ⟨rfl, hE2⟩; rw [HSM.out]; obtain ⟨x0, x1, x2, x3⟩ := HS.out w2 (HE1.out.trans hE2); have lx := World.block_lt_of_cell? _ _ x0; have HE2 := Lib.hid hE2; clear hE2)
      obtain ⟨er, es', hwr⟩ : ∃ er es', writeR (isReg N x.nm.length x.ps.length x.es) x.es p nm = (er, es') := ⟨_, _, rfl⟩
      have HWR := Lib.hid hwr; clear hwr
      go_upto_region 6 with (go_at_call 12; refine (write_any _ N x.nm.length x.ps.length x.es p nm _ (HV.out.ext (by repeat (first | exact Ext.refl _ | refine Ext.drew ?_ | refine Ext.drewN ?_ _ | refine Ext.alloc ?_ _ | refine Ext.trans ?_ (Hid.out (by assumption))))) HNL.out).mono ?_; rintro e w3 ⟨u3, rfl, hr, hE⟩; rw [HWR.out] at hr ⊢; have HR3 := Lib.hid hr; have HE3 := Lib.hid hE; obtain ⟨A3, n3, c3, rfl⟩ := hr.slice; clear hr hE)
      obtain ⟨wb3, hwb⟩ : ∃ W, W = w3.alloc (.cells #[.int .i64 0, nilS, nilS, .slice A3 n3 c3] 26) := ⟨_, rfl⟩
      have HF3 : Hid (Ext w3 wb3) := Lib.hid (by rw [hwb]; exact (Ext.refl _).alloc _)
      have HK3 : Hid (Blk wb3 w3.heap.size 26 #[.int .i64 0, nilS, nilS, .slice A3 n3 c3]) := Lib.hid (by rw [hwb]; exact Blk.new _ _ _)
      rw [← hwb]; clear hwb
      obtain ⟨B3, hB0⟩ : ∃ B, B = w3.heap.size := ⟨_, rfl⟩
      rw [← hB0] at HK3 ⊢; clear hB0
      obtain ⟨x0, x1, x2, x3⟩ := HS.out wb3 (by repeat (first | exact Ext.refl _ | refine Ext.drew ?_ | refine Ext.drewN ?_ _ | refine Ext.alloc ?_ _ | refine Ext.trans ?_ (Hid.out (by assumption))))
      have lx := World.block_lt_of_cell? _ _ x0
      go_upto_region 7 with (go_at_call 13; refine (rwrite13_any _ N x.nm.length x.ps.length x.es p nm _ (HV.out.ext (by repeat (first | exact Ext.refl _ | refine Ext.drew ?_ | refine Ext.drewN ?_ _ | refine Ext.alloc ?_ _ | refine Ext.trans ?_ (Hid.out (by assumption))))) HNL.out).mono ?_; rintro e w4 ⟨u4, rfl, hr, hE⟩; rw [HWR.out] at hr ⊢; have HR4 := Lib.hid hr; have HE4 := Lib.hid hE; obtain ⟨A4, n4, c4, rfl⟩ := hr.slice; clear hr hE)
      obtain ⟨wb4, hwb⟩ : ∃ W, W = w4.alloc (.cells #[.int .i64 0, nilS, nilS, .slice A4 n4 c4] 26) := ⟨_, rfl⟩
      have HF4 : Hid (Ext w4 wb4) := Lib.hid (by rw [hwb]; exact (Ext.refl _).alloc _)
      have HK4 : Hid (Blk wb4 w4.heap.size 26 #[.int .i64 0, nilS, nilS, .slice A4 n4 c4]) := Lib.hid (by rw [hwb]; exact Blk.new _ _ _)
      rw [← hwb]; clear hwb
      obtain ⟨B4, hB0⟩ : ∃ B, B = w4.heap.size := ⟨_, rfl⟩
      rw [← hB0] at HK4 ⊢; clear hB0
      obtain ⟨x0, x1, x2, x3⟩ := HS.out wb4 (by repeat (first | exact Ext.refl _ | refine Ext.drew ?_ | refine Ext.drewN ?_ _ | refine Ext.alloc ?_ _ | refine Ext.trans ?_ (Hid.out (by assumption))))
      have lx := World.block_lt_of_cell? _ _ x0
      go_upto_region 8 with (go_at_call 14; refine (resolve_any _ N x.nm.length x.ps.length x.es p _ (HV.out.ext (by repeat (first | exact Ext.refl _ | refine Ext.drew ?_ | refine Ext.drewN ?_ _ | refine Ext.alloc ?_ _ | refine Ext.trans ?_ (Hid.out (by assumption))))) HLE.out).mono ?_; rintro e w5 ⟨u5, l5, hn, rfl, hr, hE⟩; have HN5 := Lib.hid hn; have HR5 := Lib.hid hr; have HE5 := Lib.hid hE; obtain ⟨A5, n5, c5, rfl⟩ := hr.slice; clear hr hE hn)
      obtain ⟨wb5, hwb⟩ : ∃ W, W = w5.alloc (.cells #[.int .i64 0, nilS, nilS, .slice A5 n5 c5] 26) := ⟨_, rfl⟩
      have HF5 : Hid (Ext w5 wb5) := Lib.hid (by rw [hwb]; exact (Ext.refl _).alloc _)
      have HK5 : Hid (Blk wb5 w5.heap.size 26 #[.int .i64 0, nilS, nilS, .slice A5 n5 c5]) := Lib.hid (by rw [hwb]; exact Blk.new _ _ _)
      rw [← hwb]; clear hwb
      obtain ⟨B5, hB0⟩ : ∃ B, B = w5.heap.size := ⟨_, rfl⟩
      rw [← hB0] at HK5 ⊢; clear hB0
      obtain ⟨x0, x1, x2, x3⟩ := HS.out wb5 (by repeat (first | exact Ext.refl _ | refine Ext.drew ?_ | refine Ext.drewN ?_ _ | refine Ext.alloc ?_ _ | refine Ext.trans ?_ (Hid.out (by assumption))))
      have lx := World.block_lt_of_cell? _ _ x0
      go_upto_region 9 with (go_at_call 15; refine (rresolve13_any _ N x.nm.length x.ps.length x.es p _ (HV.out.ext (by repeat (first | exact Ext.refl _ | refine Ext.drew ?_ | refine Ext.drewN ?_ _ | refine Ext.alloc ?_ _ | refine Ext.trans ?_ (Hid.out (by assumption))))) HLE.out).mono ?_; rintro e w6 ⟨u6, l6, hn, rfl, hr, hE⟩; have HN6 := Lib.hid hn; have HR6 := Lib.hid hr; have HE6 := Lib.hid hE; obtain ⟨A6, n6, c6, rfl⟩ := hr.slice; clear hr hE hn)
      obtain ⟨wb6, hwb⟩ : ∃ W, W = w6.alloc (.cells #[.int .i64 0, nilS, nilS, .slice A6 n6 c6] 26) := ⟨_, rfl⟩
      have HF6 : Hid (Ext w6 wb6) := Lib.hid (by rw [hwb]; exact (Ext.refl _).alloc _)
      have HK6 : Hid (Blk wb6 w6.heap.size 26 #[.int .i64 0, nilS, nilS, .slice A6 n6 c6]) := Lib.hid (by rw [hwb]; exact Blk.new _ _ _)
      rw [← hwb]; clear hwb
      obtain ⟨B6, hB0⟩ : ∃ B, B = w6.heap.size := ⟨_, rfl⟩
      rw [← hB0] at HK6 ⊢; clear hB0
      obtain ⟨x0, x1, x2, x3⟩ := HS.out wb6 (by repeat (first | exact Ext.refl _ | refine Ext.drew ?_ | refine Ext.drewN ?_ _ | refine Ext.alloc ?_ _ | refine Ext.trans ?_ (Hid.out (by assumption))))
      have lx := World.block_lt_of_cell? _ _ x0
      have HNE : Hid (l6 = l5) := Lib.hid (namesOf_uniq HN6.out HN5.out)
      rw [HNE.out] at HR6 ⊢
      obtain ⟨eq, eq', hrr⟩ : ∃ er es', resolveR (isReg N x.nm.length x.ps.length x.es) x.es p l5 = (er, es') := ⟨_, _, rfl⟩
      rw [hrr] at HR5 HR6 ⊢
      have z1 : (er == er) = true := by simp
      have z2 : (eq == eq) = true := by simp
      have TK1 : True := trivial
      have HS2 : Hid (∀ W, Ext wb6 W → (W.cell? ⟨B3, 0, none⟩ = some (.int .i64 0) ∧ W.cell? ⟨B3, 1, none⟩ = some nilS ∧ W.cell? ⟨B3, 2, none⟩ = some nilS ∧ W.cell? ⟨B3, 3, none⟩ = some (.slice A3 n3 c3)) ∧ (W.cell? ⟨B4, 0, none⟩ = some (.int .i64 0) ∧ W.cell? ⟨B4, 1, none⟩ = some nilS ∧ W.cell? ⟨B4, 2, none⟩ = some nilS ∧ W.cell? ⟨B4, 3, none⟩ = some (.slice A4 n4 c4)) ∧ (W.cell? ⟨B5, 0, none⟩ = some (.int .i64 0) ∧ W.cell? ⟨B5, 1, none⟩ = some nilS ∧ W.cell? ⟨B5, 2, none⟩ = some nilS ∧ W.cell? ⟨B5, 3, none⟩ = some (.slice A5 n5 c5)) ∧ (W.cell? ⟨B6, 0, none⟩ = some (.int .i64 0) ∧ W.cell? ⟨B6, 1, none⟩ = some nilS ∧ W.cell? ⟨B6, 2, none⟩ = some nilS ∧ W.cell? ⟨B6, 3, none⟩ = some (.slice A6 n6 c6))) := Lib.hid (fun W hW => by
        have HW := Lib.hid hW
        obtain ⟨h3, h4, h5⟩ : Ext wb3 W ∧ Ext wb4 W ∧ Ext wb5 W := ⟨(by repeat (first | exact Ext.refl _ | refine Ext.drew ?_ | refine Ext.drewN ?_ _ | refine Ext.alloc ?_ _ | refine Ext.trans ?_ (Hid.out (by assumption)))), (by repeat (first | exact Ext.refl _ | refine Ext.drew ?_ | refine Ext.drewN ?_ _ | refine Ext.alloc ?_ _ | refine Ext.trans ?_ (Hid.out (by assumption)))), (by repeat (first | exact Ext.refl _ | refine Ext.drew ?_ | refine Ext.drewN ?_ _ | refine Ext.alloc ?_ _ | refine Ext.trans ?_ (Hid.out (by assumption))))⟩
        exact ⟨⟨h3.cell (HK3.out.cell 0), h3.cell (HK3.out.cell 1), h3.cell (HK3.out.cell 2), h3.cell (HK3.out.cell 3)⟩, ⟨h4.cell (HK4.out.cell 0), h4.cell (HK4.out.cell 1), h4.cell (HK4.out.cell 2), h4.cell (HK4.out.cell 3)⟩, ⟨h5.cell (HK5.out.cell 0), h5.cell (HK5.out.cell 1), h5.cell (HK5.out.cell 2), h5.cell (HK5.out.cell 3)⟩, ⟨hW.cell (HK6.out.cell 0), hW.cell (HK6.out.cell 1), hW.cell (HK6.out.cell 2), hW.cell (HK6.out.cell 3)⟩⟩)
      obtain ⟨⟨q30, q31, q32, q33⟩, ⟨q40, q41, q42, q43⟩, ⟨q50, q51, q52, q53⟩, ⟨q60, q61, q62, q63⟩⟩ := HS2.out _ (Ext.refl _)
      have m3 := World.block_lt_of_cell? _ _ q30
      have m4 := World.block_lt_of_cell? _ _ q40
      have m5 := World.block_lt_of_cell? _ _ q50
      have m6 := World.block_lt_of_cell? _ _ q60
      go_wp2_with (first
        | (go_at_call 16; clear TK1; refine (requalE_any _ _ es' es' _ (HR3.out.ext (by repeat (first | exact Ext.refl _ | refine Ext.drew ?_ | refine Ext.drewN ?_ _ | refine Ext.alloc ?_ _ | refine Ext.trans ?_ (Hid.out (by assumption))))) (HR4.out.ext (by repeat (first | exact Ext.refl _ | refine Ext.drew ?_ | refine Ext.drewN ?_ _ | refine Ext.alloc ?_ _ | refine Ext.trans ?_ (Hid.out (by assumption)))))).mono ?_; rintro e w7 ⟨rfl, hE7⟩; rw [decide_eq_true (rfl : es' = es')]; obtain ⟨⟨q30, q31, q32, q33⟩, ⟨q40, q41, q42, q43⟩, ⟨q50, q51, q52, q53⟩, ⟨q60, q61, q62, q63⟩⟩ := HS2.out _ hE7; have m5 := World.block_lt_of_cell? _ _ q50; have m6 := World.block_lt_of_cell? _ _ q60; have HE7 := Lib.hid hE7; clear hE7)
        | (go_at_call 16; refine (requalE_any _ _ eq' eq' _ (HR5.out.ext (by repeat (first | exact Ext.refl _ | refine Ext.drew ?_ | refine Ext.drewN ?_ _ | refine Ext.alloc ?_ _ | refine Ext.trans ?_ (Hid.out (by assumption))))) (HR6.out.ext (by repeat (first | exact Ext.refl _ | refine Ext.drew ?_ | refine Ext.drewN ?_ _ | refine Ext.alloc ?_ _ | refine Ext.trans ?_ (Hid.out (by assumption)))))).mono ?_; rintro e w8 ⟨rfl, hE8⟩; rw [decide_eq_true (rfl : eq' = eq')]; have HE8 := Lib.hid hE8; clear hE8))
      go_ret
      exact ⟨rfl, (by repeat (first | exact Ext.refl _ | refine Ext.drew ?_ | refine Ext.drewN ?_ _ | refine Ext.alloc ?_ _ | refine Ext.trans ?_ (Hid.out (by assumption))))⟩
end Go.Proofs.YthldgioggjpnpaaGreat
