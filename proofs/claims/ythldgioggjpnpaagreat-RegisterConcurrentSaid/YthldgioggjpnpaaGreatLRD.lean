/-
  The walk of the law RegisterAbove: it returns true, whatever comes in.
-/
import Derived.Test.YthldgioggjpnpaaGreatS22
import Derived.Test.YthldgioggjpnpaaGreatLRA
namespace Go.Proofs.YthldgioggjpnpaaGreat
open Go.RowKit

theorem clockR_ne {c : List Tk} (h : getT c 0 ≠ 0 ∨ ∃ q, getT c q ≠ 0) : c ≠ [] := fun e => by
  subst e
  rcases h with h | ⟨q, h⟩ <;> exact h rfl
/-- what a write makes -/
theorem write_above {es es' : List En} {p : Int} {nm : Nm} (ra : Reg es) (h : writeR true es p nm = (0, es')) :
    ∃ c, es' = [(c, nm)] ∧ Reg [(c, nm)] ∧ (∀ x ∈ es, ltE x (c, nm)) ∧ (∃ k : Nat, k ≤ 63 ∧ p = (k : Int) ∧ ∀ j : Nat, j < 64 → getT c (j : Int) = if j = k then getT (clockR es) (k : Int) + 1 else getT (clockR es) (j : Int)) := by
  unfold writeR at h
  rw [if_neg (by decide)] at h
  by_cases h1 : p < 0 ∨ 63 < p
  · rw [if_pos h1] at h; injection h with h _; exact absurd h (by decide)
  rw [if_neg h1] at h
  by_cases h2 : okName nm = false
  · rw [if_pos h2] at h; injection h with h _; exact absurd h (by decide)
  rw [if_neg h2] at h
  by_cases h3 : getT (clockR es) p = 1000000000000000
  · rw [if_pos h3] at h; injection h with h _; exact absurd h (by decide)
  rw [if_neg h3] at h
  injection h with _ h
  obtain ⟨k, rfl⟩ : ∃ k : Nat, p = (k : Int) := ⟨p.toNat, by omega⟩
  have hk : k ≤ 63 := by omega
  have hcv := clockV ra.valid
  obtain ⟨hv, hg⟩ := incT_facts hcv k hk h3
  have h0 := (goodF_get hcv (k : Int)).1
  have hgk := hg k (by omega)
  rw [if_pos rfl] at hgk
  have hne : walkT maxF (clockR es) [((k : Int), getT (clockR es) (k : Int) + 1)] ≠ [] := clockR_ne (.inr ⟨(k : Int), by rw [hgk]; omega⟩)
  refine ⟨_, h.symm, Reg.one hv hne (by simpa using h2), fun x hx => ?_, k, hk, rfl, hg⟩
  have hl := clockR_ge ra.valid x hx
  constructor
  · rw [leqT_iff]
    intro j hj
    have := (leqT_iff _ _).1 hl j hj
    simp only
    rw [hg j hj]
    split
    · next e => subst e; omega
    · exact this
  · rw [Bool.eq_false_iff]
    intro hc
    have e1 := (leqT_iff _ _).1 hc k (by omega)
    have e2 := (leqT_iff _ _).1 hl k (by omega)
    simp only at e1
    rw [hgk] at e1
    omega
theorem above_join {a : List En} {x : En} (h : ∀ y ∈ a, ltE y x) (z : En) : InJoin a [x] z ↔ z ∈ [x] := by
  unfold InJoin
  simp only [List.mem_singleton]
  constructor
  · rintro (⟨h1, h2⟩ | ⟨h1, -⟩)
    · exact absurd (Or.inl (h z h1)) (h2 x rfl)
    · exact h1
  · rintro rfl
    exact .inr ⟨rfl, fun y hy hl => ltE_irrefl _ (ltE_trans hl (h y hy))⟩
theorem above_covers {a : List En} {x : En} (ra : Reg a) (rx : Reg [x]) (h : ∀ y ∈ a, ltE y x) : coversB [x] a = true := (covers_iff rx.valid ra.valid).2 fun y hy => ⟨x, by simp, .inl (h y hy)⟩
theorem above_not {a : List En} {x : En} (ra : Reg a) (rx : Reg [x]) (h : ∀ y ∈ a, ltE y x) : coversB a [x] = false := by
  rw [Bool.eq_false_iff]
  intro hc
  obtain ⟨y, hy, hl⟩ := (covers_iff ra.valid rx.valid).1 hc x (by simp)
  exact ltE_irrefl _ (ltE_leE (h y hy) hl)
theorem namesOf_one (x : En) : NamesOf [x] [x.2] := ⟨List.pairwise_singleton _ _, fun y => by simp [eq_comm]⟩

set_option maxRecDepth 100000 in
set_option maxHeartbeats 8000000 in
theorem lawAbove_any (v : Value) (N : Int) (nn np : Nat) (es : List En) (p : Int) (nm : Nm) (w : World) (h : RdV w v N nn np es) (hnl : nm.length ≤ maxLen) :
    Calls Tryz.prog 8 #[v, .int .i64 p, encS nm] w fun e w' => e = .returned (.bool true) ∧ Ext w w' := by
  have H := Lib.hid h
  have HNL := Lib.hid hnl; clear hnl
  obtain ⟨An, cn, Ap, cp, ve, rfl, he⟩ := h
  obtain ⟨A, n, c, rfl⟩ := he.slice
  clear he
  go_enter Tryz.func8, Tryz.ntmps8
  go_upto_region 1 with (fail)
  obtain ⟨wa, hwa⟩ : ∃ wa, wa = w.alloc (.cells #[.int .i64 N, .slice An nn cn, .slice Ap np cp, .slice A n c] 26) := ⟨_, rfl⟩
  have HEA : Hid (Ext w wa) := Lib.hid (by rw [hwa]; exact (Ext.refl w).alloc _)
  have HBK : Hid (Blk wa w.heap.size 26 #[.int .i64 N, .slice An nn cn, .slice Ap np cp, .slice A n c]) := Lib.hid (by rw [hwa]; exact Blk.new _ _ _)
  rw [← hwa]
  clear hwa
  generalize w.heap.size = G at *
  have HS : Hid (∀ W, Ext wa W → W.cell? ⟨G, 0, none⟩ = some (.int .i64 N) ∧ W.cell? ⟨G, 1, none⟩ = some (.slice An nn cn) ∧ W.cell? ⟨G, 2, none⟩ = some (.slice Ap np cp) ∧ W.cell? ⟨G, 3, none⟩ = some (.slice A n c)) := Lib.hid (fun W hW => ⟨hW.cell (HBK.out.cell 0), hW.cell (HBK.out.cell 1), hW.cell (HBK.out.cell 2), hW.cell (HBK.out.cell 3)⟩)
  go_upto_region 3 with (go_at_call 10; refine (awake_any _).mono ?_; rintro e w1 ⟨rfl, hE1⟩; obtain ⟨x0, x1, x2, x3⟩ := HS.out _ hE1; have lx := World.block_lt_of_cell? _ _ x0; have HE1 := Lib.hid hE1; clear hE1)
  obtain ⟨s, hs⟩ : ∃ s, isB (es.length ≤ 12 ∧ IsReg N nn np es) = s := ⟨_, rfl⟩
  cases s with
  | false =>
    have HSM := Lib.hid hs; clear hs
    go_wp2_with (go_at_call 17; refine (small_any _ N nn np es _ (H.out.ext (by repeat (first | exact Ext.refl _ | refine Ext.drew ?_ | refine Ext.drewN ?_ _ | refine Ext.alloc ?_ _ | refine Ext.trans ?_ (Hid.out (by assumption)))))).mono ?_; rintro e w2 ⟨rfl, hE2⟩; rw [HSM.out]; have HE2 := Lib.hid hE2; clear hE2)
    go_ret
    exact ⟨rfl, (by repeat (first | exact Ext.refl _ | refine Ext.drew ?_ | refine Ext.drewN ?_ _ | refine Ext.alloc ?_ _ | refine Ext.trans ?_ (Hid.out (by assumption))))⟩
  | true =>
    obtain ⟨hle, hrg, -⟩ := isReg_facts hs
    have HLE : Hid (es.length ≤ 100000) := Lib.hid (by omega)
    have HRG := Lib.hid hrg
    have HRE := Lib.hid (Reg.of hrg)
    have HSM := Lib.hid hs; clear hs hle hrg
    go_upto_region 5 with (go_at_call 17; refine (small_any _ N nn np es _ (H.out.ext (by repeat (first | exact Ext.refl _ | refine Ext.drew ?_ | refine Ext.drewN ?_ _ | refine Ext.alloc ?_ _ | refine Ext.trans ?_ (Hid.out (by assumption)))))).mono ?_; rintro e w2 ⟨rfl, hE2⟩; rw [HSM.out]; obtain ⟨x0, x1, x2, x3⟩ := HS.out w2 (HE1.out.trans hE2); have lx := World.block_lt_of_cell? _ _ x0; have HE2 := Lib.hid hE2; clear hE2)
    obtain ⟨er, es', hwr⟩ : ∃ er es', writeR (isReg N nn np es) es p nm = (er, es') := ⟨_, _, rfl⟩
    have HWR := Lib.hid hwr; clear hwr
    go_upto_region 6 with (go_at_call 12; refine (write_any _ N nn np es p nm _ (H.out.ext (by repeat (first | exact Ext.refl _ | refine Ext.drew ?_ | refine Ext.drewN ?_ _ | refine Ext.alloc ?_ _ | refine Ext.trans ?_ (Hid.out (by assumption))))) HNL.out).mono ?_; rintro e w3 ⟨u3, rfl, hr, hE⟩; rw [HWR.out] at hr ⊢; have HR3 := Lib.hid hr; have HE3 := Lib.hid hE; obtain ⟨A3, n3, c3, rfl⟩ := hr.slice; clear hr hE)
    obtain ⟨wb3, hwb⟩ : ∃ W, W = w3.alloc (.cells #[.int .i64 0, nilS, nilS, .slice A3 n3 c3] 26) := ⟨_, rfl⟩
    have HF3 : Hid (Ext w3 wb3) := Lib.hid (by rw [hwb]; exact (Ext.refl _).alloc _)
    have HK3 : Hid (Blk wb3 w3.heap.size 26 #[.int .i64 0, nilS, nilS, .slice A3 n3 c3]) := Lib.hid (by rw [hwb]; exact Blk.new _ _ _)
    rw [← hwb]; clear hwb
    obtain ⟨B3, hB0⟩ : ∃ B, B = w3.heap.size := ⟨_, rfl⟩
    rw [← hB0] at HK3 ⊢; clear hB0
    by_cases her : er = 0
    · subst her
      obtain ⟨X, HX⟩ : ∃ X : En, Hid (es' = [X] ∧ X.2 = nm ∧ Reg [X] ∧ ∀ x ∈ es, ltE x X) := by
        have h := HWR.out
        rw [HRG.out] at h
        obtain ⟨c, h1, h2, h3, -⟩ := write_above HRE.out h
        exact ⟨(c, nm), Lib.hid ⟨h1, rfl, h2, h3⟩⟩
      have HRX : Hid (RdE w3 (.slice A3 n3 c3) [X]) := Lib.hid (by rw [← HX.out.1]; exact HR3.out)
      have HXR := Lib.hid HX.out.2.2.1.isReg_
      have HS2 : Hid (∀ W, Ext wb3 W → W.cell? ⟨G, 0, none⟩ = some (.int .i64 N) ∧ W.cell? ⟨G, 1, none⟩ = some (.slice An nn cn) ∧ W.cell? ⟨G, 2, none⟩ = some (.slice Ap np cp) ∧ W.cell? ⟨G, 3, none⟩ = some (.slice A n c) ∧ W.cell? ⟨B3, 0, none⟩ = some (.int .i64 0) ∧ W.cell? ⟨B3, 1, none⟩ = some (nilS) ∧ W.cell? ⟨B3, 2, none⟩ = some (nilS) ∧ W.cell? ⟨B3, 3, none⟩ = some (.slice A3 n3 c3)) := Lib.hid (fun W hW => by
        have HW := Lib.hid hW
        obtain ⟨x0, x1, x2, x3⟩ := HS.out W (by repeat (first | exact Ext.refl _ | refine Ext.drew ?_ | refine Ext.drewN ?_ _ | refine Ext.alloc ?_ _ | refine Ext.trans ?_ (Hid.out (by assumption))))
        exact ⟨x0, x1, x2, x3, hW.cell (HK3.out.cell 0), hW.cell (HK3.out.cell 1), hW.cell (HK3.out.cell 2), hW.cell (HK3.out.cell 3)⟩)
      obtain ⟨x0, x1, x2, x3, y0, y1, y2, y3⟩ := HS2.out wb3 (Ext.refl _)
      have lx := World.block_lt_of_cell? _ _ x0
      have ly := World.block_lt_of_cell? _ _ y0
      go_upto_region 8 with (fail)
      go_cut [9, 10] (fun v1 v2 wx => ∃ (Bj : Nat) (A : Option Addr) (n c : Nat) (esr : List En), v1 = .pointer (some ⟨Bj, 0, none⟩) ∧ v2 = .int .i64 0 ∧ JoinedTo [] [(N, nn, np, es), (0, 0, 0, [X])] esr ∧ Blk wx Bj 26 #[.int .i64 0, nilS, nilS, .slice A n c] ∧ RdE wx (.slice A n c) esr ∧ Ext wb3 wx)
      case first =>
        go_region_held3 (fun W => W.cell? ⟨G, 0, none⟩ = some (.int .i64 N) ∧ W.cell? ⟨G, 1, none⟩ = some (.slice An nn cn) ∧ W.cell? ⟨G, 2, none⟩ = some (.slice Ap np cp) ∧ W.cell? ⟨G, 3, none⟩ = some (.slice A n c) ∧ W.cell? ⟨B3, 0, none⟩ = some (.int .i64 0) ∧ W.cell? ⟨B3, 1, none⟩ = some (nilS) ∧ W.cell? ⟨B3, 2, none⟩ = some (nilS) ∧ W.cell? ⟨B3, 3, none⟩ = some (.slice A3 n3 c3)) (first | exact HS2.out _ (by repeat (first | exact Ext.refl _ | refine Ext.drew ?_ | refine Ext.drewN ?_ _ | refine Ext.alloc ?_ _ | refine Ext.setCell ?_ (by first | exact Nat.le_refl _ | exact Ext.size (by repeat (first | exact Ext.refl _ | refine Ext.drew ?_ | refine Ext.drewN ?_ _ | refine Ext.alloc ?_ _ | refine Ext.trans ?_ (Hid.out (by assumption))))) _ | refine Ext.trans ?_ (Hid.out (by assumption)))) | go_keep) (first
          | (go_at_call 28; refine (rkind_any _).mono ?_; rintro e wk ⟨rfl, hEk⟩; (first | (have HB7 : Hid (Blk wk wb3.heap.size 26 #[.int .i64 0, nilS, nilS, nilS]) := Lib.hid (Blk.ext (by first | exact Blk.new _ _ _ | exact (Blk.new _ _ _).drew) hEk)) | skip); have HEk := Lib.hid hEk; clear hEk)
          | (go_at_call 27; refine (joinV_any _ _ N 0 nn np 0 0 es [X] _ (H.out.ext (by repeat (first | exact Ext.refl _ | refine Ext.drew ?_ | refine Ext.drewN ?_ _ | refine Ext.alloc ?_ _ | refine Ext.trans ?_ (Hid.out (by assumption))))) (HRX.out.ext (by repeat (first | exact Ext.refl _ | refine Ext.drew ?_ | refine Ext.drewN ?_ _ | refine Ext.alloc ?_ _ | refine Ext.trans ?_ (Hid.out (by assumption))))).V HRG.out HXR.out HLE.out (by simp)).mono ?_; rintro e wj ⟨uj, esj, rfl, hjt, hj, hEj⟩; obtain ⟨Aj, nj, cj, rfl⟩ := hj.slice; have HJ := Lib.hid hj; have HJT := Lib.hid hjt; clear hj hjt; (first | (have r7 : Blk wj wb3.heap.size 26 #[.int .i64 0, nilS, nilS, nilS] := Blk.ext (by first | exact HB7.out | exact HB7.out.drew) hEj; have l7 := r7.lt; have f0 := r7.frozen 0; have f1 := r7.frozen 1; have f2 := r7.frozen 2; have f3 := r7.frozen 3; have d0 : wj.cell? ⟨wb3.heap.size, 0, none⟩ = some (.int .i64 0) := r7.cell 0; have d1 : wj.cell? ⟨wb3.heap.size, 1, none⟩ = some (nilS) := r7.cell 1; have d2 : wj.cell? ⟨wb3.heap.size, 2, none⟩ = some (nilS) := r7.cell 2; have d3 : wj.cell? ⟨wb3.heap.size, 3, none⟩ = some (nilS) := r7.cell 3; replace HB7 := Lib.hid r7; clear r7) | (have r7 : Blk wj wk.heap.size 26 #[.int .i64 0, nilS, nilS, nilS] := Blk.ext (by first | exact Blk.new _ _ _ | exact (Blk.new _ _ _).drew) hEj; have l7 := r7.lt; have f0 := r7.frozen 0; have f1 := r7.frozen 1; have f2 := r7.frozen 2; have f3 := r7.frozen 3; have d0 : wj.cell? ⟨wk.heap.size, 0, none⟩ = some (.int .i64 0) := r7.cell 0; have d1 : wj.cell? ⟨wk.heap.size, 1, none⟩ = some (nilS) := r7.cell 1; have d2 : wj.cell? ⟨wk.heap.size, 2, none⟩ = some (nilS) := r7.cell 2; have d3 : wj.cell? ⟨wk.heap.size, 3, none⟩ = some (nilS) := r7.cell 3; have HB7 := Lib.hid r7; clear r7) | skip); have HEj := Lib.hid hEj; clear hEj))
        all_goals
          go_wp2_with (fail)
          go_meet
          case rel =>
            first
              | exact ⟨_, _, _, _, _, rfl, rfl, HJT.out, (HB7.out).store4 _ _ _ _, RdE.store4 HJ.out ⟨_, _, _, _, _, _, _, _, _, _, _, HB7.out⟩ _ _ _ _, Ext.store4 (by repeat (first | exact Ext.refl _ | refine Ext.drew ?_ | refine Ext.drewN ?_ _ | refine Ext.alloc ?_ _ | refine Ext.trans ?_ (Hid.out (by assumption)))) (by first | exact Nat.le_refl _ | exact Ext.size (by repeat (first | exact Ext.refl _ | refine Ext.drew ?_ | refine Ext.drewN ?_ _ | refine Ext.alloc ?_ _ | refine Ext.trans ?_ (Hid.out (by assumption))))) _ _ _ _⟩
              | exact ⟨_, _, _, _, _, rfl, rfl, HJT.out, Blk.new _ _ _, HJ.out.ext ((Ext.refl _).alloc _), Ext.alloc (by repeat (first | exact Ext.refl _ | refine Ext.drew ?_ | refine Ext.drewN ?_ _ | refine Ext.alloc ?_ _ | refine Ext.trans ?_ (Hid.out (by assumption)))) _⟩
      case rest =>
        obtain ⟨w4, rfl⟩ : ∃ W : World, W = wc := ⟨_, rfl⟩
        obtain ⟨B4, A4, n4, c4, esj, rfl, rfl, hjt, hb4, hr4, hE⟩ := hcut
        have HE4 := Lib.hid hE
        have HR4 := Lib.hid hr4
        have HB4 := Lib.hid hb4
        have HJX : Hid (esj = [X]) := Lib.hid (by
          obtain ⟨h1, h2⟩ := joined_two HRE.out HX.out.2.2.1 hjt
          exact h1.ext_ HX.out.2.2.1 (fun z => (h2 z).trans (above_join HX.out.2.2.2 z)))
        clear hE hr4 hb4 hjt
        have y0 := (HS2.out w4 HE4.out).2.2.2.2.1
        have y1 := (HS2.out w4 HE4.out).2.2.2.2.2.1
        have y2 := (HS2.out w4 HE4.out).2.2.2.2.2.2.1
        have y3 := (HS2.out w4 HE4.out).2.2.2.2.2.2.2
        have ly := World.block_lt_of_cell? _ _ y0
        go_upto_region 10 with (go_at_call 18; refine (rnames_any _ 0 0 0 [X] _ (HRX.out.ext (by repeat (first | exact Ext.refl _ | refine Ext.drew ?_ | refine Ext.drewN ?_ _ | refine Ext.alloc ?_ _ | refine Ext.trans ?_ (Hid.out (by assumption))))).V (by simp)).mono ?_; rintro e w5 ⟨u5, l5, rfl, hn, hr, hE⟩; obtain rfl := namesOf_uniq (namesOf_one X) hn; rw [HX.out.2.1] at hr; obtain ⟨bn, on, cn5, rfl, hbn, hcn⟩ := Rd1.head hr 1 rfl; have HCN := Lib.hid hcn; have HE5 := Lib.hid hE; clear hn hr hE hbn hcn)
        have HS3 : Hid (∀ W, Ext w5 W → (W.cell? ⟨G, 0, none⟩ = some (.int .i64 N) ∧ W.cell? ⟨G, 1, none⟩ = some (.slice An nn cn) ∧ W.cell? ⟨G, 2, none⟩ = some (.slice Ap np cp) ∧ W.cell? ⟨G, 3, none⟩ = some (.slice A n c)) ∧ W.cell? ⟨B3, 0, none⟩ = some (.int .i64 0) ∧ W.cell? ⟨B3, 1, none⟩ = some (nilS) ∧ W.cell? ⟨B3, 2, none⟩ = some (nilS) ∧ W.cell? ⟨B3, 3, none⟩ = some (.slice A3 n3 c3) ∧ (W.cell? ⟨B4, 0, none⟩ = some (.int .i64 0) ∧ W.cell? ⟨B4, 1, none⟩ = some (nilS) ∧ W.cell? ⟨B4, 2, none⟩ = some (nilS) ∧ W.cell? ⟨B4, 3, none⟩ = some (.slice A4 n4 c4)) ∧ W.cell? ⟨bn, on, none⟩ = some (encS nm)) := Lib.hid (fun W hW => by
          have HW := Lib.hid hW
          obtain ⟨x0, x1, x2, x3, y0, y1, y2, y3⟩ := HS2.out W (by repeat (first | exact Ext.refl _ | refine Ext.drew ?_ | refine Ext.drewN ?_ _ | refine Ext.alloc ?_ _ | refine Ext.trans ?_ (Hid.out (by assumption))))
          obtain h4 : Ext w4 W := (by repeat (first | exact Ext.refl _ | refine Ext.drew ?_ | refine Ext.drewN ?_ _ | refine Ext.alloc ?_ _ | refine Ext.trans ?_ (Hid.out (by assumption))))
          exact ⟨⟨x0, x1, x2, x3⟩, y0, y1, y2, y3, ⟨h4.cell (HB4.out.cell 0), h4.cell (HB4.out.cell 1), h4.cell (HB4.out.cell 2), h4.cell (HB4.out.cell 3)⟩, hW.cell HCN.out⟩)
        obtain ⟨⟨x0, x1, x2, x3⟩, y0, y1, y2, y3, ⟨z0, z1, z2, z3⟩, hcn⟩ := HS3.out w5 (Ext.refl _)
        have lx := World.block_lt_of_cell? _ _ x0
        have ly := World.block_lt_of_cell? _ _ y0
        have lz := World.block_lt_of_cell? _ _ z0
        have lcn := World.block_lt_of_cell? _ _ hcn
        have e1 : (nm == nm) = true := by simp
        have e2 : (List.length nm : Nat) = List.length nm := rfl
        have HC1 : Hid (coversB [X] es = true) := Lib.hid (above_covers HRE.out HX.out.2.2.1 HX.out.2.2.2)
        have HC2 : Hid (coversB es [X] = false) := Lib.hid (above_not HRE.out HX.out.2.2.1 HX.out.2.2.2)
        have TK1 : True := trivial
        have TK2 : True := trivial
        clear e2
        go_region_held3 (fun W => (W.cell? ⟨G, 0, none⟩ = some (.int .i64 N) ∧ W.cell? ⟨G, 1, none⟩ = some (.slice An nn cn) ∧ W.cell? ⟨G, 2, none⟩ = some (.slice Ap np cp) ∧ W.cell? ⟨G, 3, none⟩ = some (.slice A n c)) ∧ W.cell? ⟨B3, 0, none⟩ = some (.int .i64 0) ∧ W.cell? ⟨B3, 1, none⟩ = some (nilS) ∧ W.cell? ⟨B3, 2, none⟩ = some (nilS) ∧ W.cell? ⟨B3, 3, none⟩ = some (.slice A3 n3 c3) ∧ (W.cell? ⟨B4, 0, none⟩ = some (.int .i64 0) ∧ W.cell? ⟨B4, 1, none⟩ = some (nilS) ∧ W.cell? ⟨B4, 2, none⟩ = some (nilS) ∧ W.cell? ⟨B4, 3, none⟩ = some (.slice A4 n4 c4)) ∧ W.cell? ⟨bn, on, none⟩ = some (encS nm)) (first | exact HS3.out _ (by repeat (first | exact Ext.refl _ | refine Ext.drew ?_ | refine Ext.drewN ?_ _ | refine Ext.alloc ?_ _ | refine Ext.trans ?_ (Hid.out (by assumption)))) | go_keep) (first
          | (go_at_call 16; refine (requalE_any _ _ esj [X] _ (HR4.out.ext (by repeat (first | exact Ext.refl _ | refine Ext.drew ?_ | refine Ext.drewN ?_ _ | refine Ext.alloc ?_ _ | refine Ext.trans ?_ (Hid.out (by assumption))))) (HRX.out.ext (by repeat (first | exact Ext.refl _ | refine Ext.drew ?_ | refine Ext.drewN ?_ _ | refine Ext.alloc ?_ _ | refine Ext.trans ?_ (Hid.out (by assumption)))))).mono ?_; rintro e w6 ⟨rfl, hE6⟩; rw [decide_eq_true HJX.out]; have HE6 := Lib.hid hE6; clear hE6)
          | (go_at_call 28; refine (rkind_any _).mono ?_; rintro e wk ⟨rfl, hEk⟩; have HEk := Lib.hid hEk; clear hEk)
          | (go_at_call 32; clear TK1; refine (jLeqR_any _ _ N 0 nn np 0 0 es [X] _ (H.out.ext (by repeat (first | exact Ext.refl _ | refine Ext.drew ?_ | refine Ext.drewN ?_ _ | refine Ext.alloc ?_ _ | refine Ext.trans ?_ (Hid.out (by assumption))))) (HRX.out.ext (by repeat (first | exact Ext.refl _ | refine Ext.drew ?_ | refine Ext.drewN ?_ _ | refine Ext.alloc ?_ _ | refine Ext.trans ?_ (Hid.out (by assumption))))).V HRG.out HXR.out).mono ?_; rintro e w7 ⟨rfl, hE7⟩; rw [HC1.out]; have HE7 := Lib.hid hE7; clear hE7)
          | (go_at_call 32; refine (jLeqR_any _ _ 0 N 0 0 nn np [X] es _ (HRX.out.ext (by repeat (first | exact Ext.refl _ | refine Ext.drew ?_ | refine Ext.drewN ?_ _ | refine Ext.alloc ?_ _ | refine Ext.trans ?_ (Hid.out (by assumption))))).V (H.out.ext (by repeat (first | exact Ext.refl _ | refine Ext.drew ?_ | refine Ext.drewN ?_ _ | refine Ext.alloc ?_ _ | refine Ext.trans ?_ (Hid.out (by assumption))))) HXR.out HRG.out).mono ?_; rintro e w8 ⟨rfl, hE8⟩; rw [HC2.out]; have HE8 := Lib.hid hE8; clear hE8)
          | (go_at_call 25; clear TK2; refine (covers_any _ _ 0 N 0 0 nn np [X] es _ (HRX.out.ext (by repeat (first | exact Ext.refl _ | refine Ext.drew ?_ | refine Ext.drewN ?_ _ | refine Ext.alloc ?_ _ | refine Ext.trans ?_ (Hid.out (by assumption))))).V (H.out.ext (by repeat (first | exact Ext.refl _ | refine Ext.drew ?_ | refine Ext.drewN ?_ _ | refine Ext.alloc ?_ _ | refine Ext.trans ?_ (Hid.out (by assumption))))) HX.out.2.2.1.valid HRE.out.valid).mono ?_; rintro e w9 ⟨rfl, hE9⟩; rw [HC1.out]; have HE9 := Lib.hid hE9; clear hE9)
          | (go_at_call 25; refine (covers_any _ _ N 0 nn np 0 0 es [X] _ (H.out.ext (by repeat (first | exact Ext.refl _ | refine Ext.drew ?_ | refine Ext.drewN ?_ _ | refine Ext.alloc ?_ _ | refine Ext.trans ?_ (Hid.out (by assumption))))) (HRX.out.ext (by repeat (first | exact Ext.refl _ | refine Ext.drew ?_ | refine Ext.drewN ?_ _ | refine Ext.alloc ?_ _ | refine Ext.trans ?_ (Hid.out (by assumption))))).V HRE.out.valid HX.out.2.2.1.valid).mono ?_; rintro e wA ⟨rfl, hEA⟩; rw [HC2.out]; have HEA' := Lib.hid hEA; clear hEA)
          | (go_at_call 22; refine (conflict_any _ 0 0 0 [X] _ (HRX.out.ext (by repeat (first | exact Ext.refl _ | refine Ext.drew ?_ | refine Ext.drewN ?_ _ | refine Ext.alloc ?_ _ | refine Ext.trans ?_ (Hid.out (by assumption))))).V (by simp)).mono ?_; rintro e wB ⟨lB, rfl, hnB, hEB⟩; obtain rfl := namesOf_uniq (namesOf_one X) hnB; rw [show decide (1 < ([X.2] : List Nm).length) = false from rfl]; have HEB := Lib.hid hEB; clear hEB hnB))
        all_goals
          go_wp2_with (fail)
          go_ret
          exact ⟨rfl, (by repeat (first | exact Ext.refl _ | refine Ext.drew ?_ | refine Ext.drewN ?_ _ | refine Ext.alloc ?_ _ | refine Ext.trans ?_ (Hid.out (by assumption))))⟩
    · have hz : (er != 0) = true := by simpa using her
      go_wp2_with (fail)
      go_ret
      exact ⟨rfl, (by repeat (first | exact Ext.refl _ | refine Ext.drew ?_ | refine Ext.drewN ?_ _ | refine Ext.alloc ?_ _ | refine Ext.trans ?_ (Hid.out (by assumption))))⟩
end Go.Proofs.YthldgioggjpnpaaGreat
