/-
  The walk of the law RegisterConcurrent: it returns true, whatever comes in.
-/
import Derived.Test.YthldgioggjpnpaaGreatLRD
namespace Go.Proofs.YthldgioggjpnpaaGreat
open Go.RowKit

theorem two_join {X Y : En} (h1 : ¬ leE X Y) (h2 : ¬ leE Y X) (z : En) : InJoin [X] [Y] z ↔ z ∈ [X, Y] := by
  unfold InJoin
  simp only [List.mem_cons, List.not_mem_nil, or_false]
  constructor
  · rintro (⟨rfl, -⟩ | ⟨rfl, -⟩)
    · exact .inl rfl
    · exact .inr rfl
  · rintro (rfl | rfl)
    · exact .inl ⟨rfl, fun y hy => by subst hy; exact h1⟩
    · exact .inr ⟨rfl, fun y hy hl => by subst hy; exact h2 (.inl hl)⟩
theorem conc_clocks {es e1 e2 : List En} {p q : Int} {a b : Nm} (ra : Reg es) (hpq : p ≠ q) (h1 : writeR true es p a = (0, e1)) (h2 : writeR true es q b = (0, e2)) :
    ∃ X Y : En, e1 = [X] ∧ e2 = [Y] ∧ X.2 = a ∧ Y.2 = b ∧ Reg [X] ∧ Reg [Y] ∧ ¬ leE X Y ∧ ¬ leE Y X := by
  obtain ⟨c, rfl, rc, -, k, hk, rfl, hg⟩ := write_above ra h1
  obtain ⟨d, rfl, rd, -, m, hm, rfl, hh⟩ := write_above ra h2
  have hkm : k ≠ m := fun h => hpq (by rw [h])
  have n1 : leqT c d = true → False := fun h => by
    have := (leqT_iff _ _).1 h k (by omega)
    rw [hg k (by omega), hh k (by omega), if_pos rfl, if_neg hkm] at this
    omega
  have n2 : leqT d c = true → False := fun h => by
    have := (leqT_iff _ _).1 h m (by omega)
    rw [hg m (by omega), hh m (by omega), if_pos rfl, if_neg (Ne.symm hkm)] at this
    omega
  refine ⟨(c, a), (d, b), rfl, rfl, rfl, rfl, rc, rd, ?_, ?_⟩
  · rintro (h | h)
    · exact n1 h.1
    · injection h with h _; subst h; exact n1 (leqT_refl _)
  · rintro (h | h)
    · exact n2 h.1
    · injection h with h _; subst h; exact n2 (leqT_refl _)
theorem two_len {X Y : En} {es : List En} (hr : Reg es) (hne : X ≠ Y) (h : ∀ z, z ∈ es ↔ z ∈ [X, Y]) : es.length = 2 := by
  have hp : es.Perm [X, Y] := (List.perm_ext_iff_of_nodup hr.nodup (by simp [hne])).2 h
  exact hp.length_eq
theorem two_names {X Y : En} {es : List En} {l : List Nm} (h : ∀ z, z ∈ es ↔ z ∈ [X, Y]) (hn : NamesOf es l) : decide (1 < l.length) = !(X.2 == Y.2) := by
  have hx : X.2 ∈ l := (hn.2 _).2 ⟨X, (h X).2 (by simp), rfl⟩
  have hy : Y.2 ∈ l := (hn.2 _).2 ⟨Y, (h Y).2 (by simp), rfl⟩
  by_cases e : X.2 = Y.2
  · have : NamesOf es [X.2] := ⟨List.pairwise_singleton _ _, fun z => by
      rw [List.mem_singleton]
      constructor
      · rintro rfl; exact ⟨X, (h X).2 (by simp), rfl⟩
      · rintro ⟨w, hw, rfl⟩
        have := (h w).1 hw
        simp only [List.mem_cons, List.not_mem_nil, or_false] at this
        rcases this with rfl | rfl
        · rfl
        · exact e.symm⟩
    rw [namesOf_uniq hn this, e]
    simp
  · have h1 : 1 < l.length := by
      match l, hx, hy with
      | [], hx, _ => simp at hx
      | [a], hx, hy =>
        rw [List.mem_singleton] at hx hy
        exact absurd (hx.trans hy.symm) e
      | a :: b :: r, _, _ => simp
    rw [decide_eq_true h1]
    symm
    simp [e]
theorem covers_mem {a b : List En} (ha : ∀ x ∈ a, validT x.1 = true) (hb : ∀ x ∈ b, validT x.1 = true) (h : ∀ x ∈ b, x ∈ a) : coversB a b = true := (covers_iff ha hb).2 fun x hx => ⟨x, h x hx, .inr rfl⟩
theorem covers_one {X Y : En} (hx : Reg [X]) (hy : Reg [Y]) (h : ¬ leE Y X) : coversB [X] [Y] = false := by
  rw [Bool.eq_false_iff]
  intro hc
  obtain ⟨z, hz, hl⟩ := (covers_iff hx.valid hy.valid).1 hc Y (by simp)
  rw [List.mem_singleton] at hz
  subst hz
  exact h hl

set_option maxRecDepth 100000 in
set_option maxHeartbeats 8000000 in
theorem lawConcurrent_any (v : Value) (N : Int) (nn np : Nat) (es : List En) (p q r : Int) (na nb nc : Nm) (w : World) (h : RdV w v N nn np es) (hla : na.length ≤ maxLen) (hlb : nb.length ≤ maxLen) (hlc : nc.length ≤ maxLen) :
    Calls Tryz.prog 6 #[v, .int .i64 p, .int .i64 q, .int .i64 r, encS na, encS nb, encS nc] w fun e w' => e = .returned (.bool true) ∧ Ext w w' := by
  have H := Lib.hid h
  have HLA := Lib.hid hla; have HLB := Lib.hid hlb; have HLC := Lib.hid hlc; clear hla hlb hlc
  obtain ⟨An, cn, Ap, cp, ve, rfl, he⟩ := h
  obtain ⟨A, n, c, rfl⟩ := he.slice
  clear he
  go_enter Tryz.func6, Tryz.ntmps6
  go_upto_region 1 with (fail)
  obtain ⟨wa, hwa⟩ : ∃ wa, wa = w.alloc (.cells #[.int .i64 N, .slice An nn cn, .slice Ap np cp, .slice A n c] 26) := ⟨_, rfl⟩
  have HEA : Hid (Ext w wa) := Lib.hid (by rw [hwa]; exact (Ext.refl w).alloc _)
  have HBK : Hid (Blk wa w.heap.size 26 #[.int .i64 N, .slice An nn cn, .slice Ap np cp, .slice A n c]) := Lib.hid (by rw [hwa]; exact Blk.new _ _ _)
  rw [← hwa]
  clear hwa
  generalize w.heap.size = G at *
  have HS : Hid (∀ W, Ext wa W → W.cell? ⟨G, 0, none⟩ = some (.int .i64 N) ∧ W.cell? ⟨G, 1, none⟩ = some (.slice An nn cn) ∧ W.cell? ⟨G, 2, none⟩ = some (.slice Ap np cp) ∧ W.cell? ⟨G, 3, none⟩ = some (.slice A n c)) := Lib.hid (fun W hW => ⟨hW.cell (HBK.out.cell 0), hW.cell (HBK.out.cell 1), hW.cell (HBK.out.cell 2), hW.cell (HBK.out.cell 3)⟩)
  go_upto_region 3 with (go_at_call 10; refine (awake_any _).mono ?_; rintro e w1 ⟨rfl, hE1⟩; obtain ⟨x0, x1, x2, x3⟩ := HS.out _ hE1; have lx := World.block_lt_of_cell? _ _ x0; have HE1 := Lib.hid hE1; clear hE1)
  obtain ⟨s, hs⟩ : ∃ s, isB (es.length ≤ 12 ∧ IsReg N nn np es) = s := ⟨_, rfl⟩
  cases s with
  | false =>
    have HSM := Lib.hid hs; clear hs
    go_wp2_with (go_at_call 17; refine (small_any _ N nn np es _ (H.out.ext (by with_reducible (repeat (first | exact Ext.refl _ | refine Ext.drew ?_ | refine Ext.drewN ?_ _ | refine Ext.alloc ?_ _ | refine Ext.trans ?_ (Hid.out (by assumption))))))).mono ?_; rintro e w2 ⟨rfl, hE2⟩; rw [HSM.out]; have HE2 := Lib.hid hE2; clear hE2)
    go_ret
    exact ⟨rfl, (by with_reducible (repeat (first | exact Ext.refl _ | refine Ext.drew ?_ | refine Ext.drewN ?_ _ | refine Ext.alloc ?_ _ | refine Ext.trans ?_ (Hid.out (by assumption)))))⟩
  | true =>
    obtain ⟨hle, hrg, -⟩ := isReg_facts hs
    have HRG := Lib.hid hrg
    have HRE := Lib.hid (Reg.of hrg)
    have HSM := Lib.hid hs; clear hs hle hrg
    by_cases hpq : p = q
    · subst hpq
      have e0 : (p == p) = true := by simp
      go_wp2_with (go_at_call 17; refine (small_any _ N nn np es _ (H.out.ext (by with_reducible (repeat (first | exact Ext.refl _ | refine Ext.drew ?_ | refine Ext.drewN ?_ _ | refine Ext.alloc ?_ _ | refine Ext.trans ?_ (Hid.out (by assumption))))))).mono ?_; rintro e w2 ⟨rfl, hE2⟩; rw [HSM.out]; have HE2 := Lib.hid hE2; clear hE2)
      go_ret
      exact ⟨rfl, (by with_reducible (repeat (first | exact Ext.refl _ | refine Ext.drew ?_ | refine Ext.drewN ?_ _ | refine Ext.alloc ?_ _ | refine Ext.trans ?_ (Hid.out (by assumption)))))⟩
    have e0 : (p == q) = false := by simpa using hpq
    have HPQ := Lib.hid hpq
    go_upto_region 5 with (go_at_call 17; refine (small_any _ N nn np es _ (H.out.ext (by with_reducible (repeat (first | exact Ext.refl _ | refine Ext.drew ?_ | refine Ext.drewN ?_ _ | refine Ext.alloc ?_ _ | refine Ext.trans ?_ (Hid.out (by assumption))))))).mono ?_; rintro e w2 ⟨rfl, hE2⟩; rw [HSM.out]; clear x0 x1 x2 x3 lx; obtain ⟨x0, x1, x2, x3⟩ := HS.out w2 (HE1.out.trans hE2); have lx := World.block_lt_of_cell? _ _ x0; have HE2 := Lib.hid hE2; clear hE2)
    obtain ⟨er, e1', hwr⟩ : ∃ er es', writeR (isReg N nn np es) es p na = (er, es') := ⟨_, _, rfl⟩
    have HW1 := Lib.hid hwr; clear hwr
    obtain ⟨es', e2', hwr⟩ : ∃ er es', writeR (isReg N nn np es) es q nb = (er, es') := ⟨_, _, rfl⟩
    have HW2 := Lib.hid hwr; clear hwr
    go_upto_region 6 with (go_at_call 12; refine (write_any _ N nn np es p na _ (H.out.ext (by with_reducible (repeat (first | exact Ext.refl _ | refine Ext.drew ?_ | refine Ext.drewN ?_ _ | refine Ext.alloc ?_ _ | refine Ext.trans ?_ (Hid.out (by assumption)))))) HLA.out).mono ?_; rintro e w3 ⟨u3, rfl, hr, hE⟩; rw [HW1.out] at hr ⊢; have HR3 := Lib.hid hr; have HE3 := Lib.hid hE; obtain ⟨A3, n3, c3, rfl⟩ := hr.slice; clear hr hE)
    obtain ⟨wb3, hwb⟩ : ∃ W, W = w3.alloc (.cells #[.int .i64 0, nilS, nilS, .slice A3 n3 c3] 26) := ⟨_, rfl⟩
    have HF3 : Hid (Ext w3 wb3) := Lib.hid (by rw [hwb]; exact (Ext.refl _).alloc _)
    have HK3 : Hid (Blk wb3 w3.heap.size 26 #[.int .i64 0, nilS, nilS, .slice A3 n3 c3]) := Lib.hid (by rw [hwb]; exact Blk.new _ _ _)
    rw [← hwb]; clear hwb
    obtain ⟨B3, hB0⟩ : ∃ B, B = w3.heap.size := ⟨_, rfl⟩
    rw [← hB0] at HK3 ⊢; clear hB0
    clear x0 x1 x2 x3 lx
    obtain ⟨x0, x1, x2, x3⟩ := HS.out wb3 (by with_reducible (repeat (first | exact Ext.refl _ | refine Ext.drew ?_ | refine Ext.drewN ?_ _ | refine Ext.alloc ?_ _ | refine Ext.trans ?_ (Hid.out (by assumption)))))
    have lx := World.block_lt_of_cell? _ _ x0
    go_upto_region 7 with (go_at_call 12; refine (write_any _ N nn np es q nb _ (H.out.ext (by with_reducible (repeat (first | exact Ext.refl _ | refine Ext.drew ?_ | refine Ext.drewN ?_ _ | refine Ext.alloc ?_ _ | refine Ext.trans ?_ (Hid.out (by assumption)))))) HLB.out).mono ?_; rintro e w4 ⟨u4, rfl, hr, hE⟩; rw [HW2.out] at hr ⊢; have HR4 := Lib.hid hr; have HE4 := Lib.hid hE; obtain ⟨A4, n4, c4, rfl⟩ := hr.slice; clear hr hE)
    obtain ⟨wb4, hwb⟩ : ∃ W, W = w4.alloc (.cells #[.int .i64 0, nilS, nilS, .slice A4 n4 c4] 26) := ⟨_, rfl⟩
    have HF4 : Hid (Ext w4 wb4) := Lib.hid (by rw [hwb]; exact (Ext.refl _).alloc _)
    have HK4 : Hid (Blk wb4 w4.heap.size 26 #[.int .i64 0, nilS, nilS, .slice A4 n4 c4]) := Lib.hid (by rw [hwb]; exact Blk.new _ _ _)
    rw [← hwb]; clear hwb
    obtain ⟨B4, hB0⟩ : ∃ B, B = w4.heap.size := ⟨_, rfl⟩
    rw [← hB0] at HK4 ⊢; clear hB0
    by_cases h1 : er = 0
    · by_cases h2 : es' = 0
      · subst h1
        subst h2
        obtain ⟨X, Y, HX⟩ : ∃ X Y : En, Hid (e1' = [X] ∧ e2' = [Y] ∧ X.2 = na ∧ Y.2 = nb ∧ Reg [X] ∧ Reg [Y] ∧ ¬ leE X Y ∧ ¬ leE Y X) := by
          have g1 := HW1.out
          have g2 := HW2.out
          rw [HRG.out] at g1 g2
          obtain ⟨X, Y, h⟩ := conc_clocks HRE.out HPQ.out g1 g2
          exact ⟨X, Y, Lib.hid h⟩
        have HRX : Hid (RdE w3 (.slice A3 n3 c3) [X]) := Lib.hid (by rw [← HX.out.1]; exact HR3.out)
        have HRY : Hid (RdE w4 (.slice A4 n4 c4) [Y]) := Lib.hid (by rw [← HX.out.2.1]; exact HR4.out)
        have HIX := Lib.hid HX.out.2.2.2.2.1.isReg_
        have HIY := Lib.hid HX.out.2.2.2.2.2.1.isReg_
        have HSX : Hid (∀ W, Ext wb4 W → (W.cell? ⟨B3, 0, none⟩ = some (.int .i64 0) ∧ W.cell? ⟨B3, 1, none⟩ = some (nilS) ∧ W.cell? ⟨B3, 2, none⟩ = some (nilS) ∧ W.cell? ⟨B3, 3, none⟩ = some (.slice A3 n3 c3)) ∧ (W.cell? ⟨B4, 0, none⟩ = some (.int .i64 0) ∧ W.cell? ⟨B4, 1, none⟩ = some (nilS) ∧ W.cell? ⟨B4, 2, none⟩ = some (nilS) ∧ W.cell? ⟨B4, 3, none⟩ = some (.slice A4 n4 c4))) := Lib.hid (fun W hW => by
          have HW := Lib.hid hW
          obtain h3 : Ext wb3 W := (by with_reducible (repeat (first | exact Ext.refl _ | refine Ext.drew ?_ | refine Ext.drewN ?_ _ | refine Ext.alloc ?_ _ | refine Ext.trans ?_ (Hid.out (by assumption)))))
          exact ⟨⟨h3.cell (HK3.out.cell 0), h3.cell (HK3.out.cell 1), h3.cell (HK3.out.cell 2), h3.cell (HK3.out.cell 3)⟩, ⟨hW.cell (HK4.out.cell 0), hW.cell (HK4.out.cell 1), hW.cell (HK4.out.cell 2), hW.cell (HK4.out.cell 3)⟩⟩)
        clear x0 x1 x2 x3 lx
        obtain ⟨⟨x0, x1, x2, x3⟩, ⟨y0, y1, y2, y3⟩⟩ := HSX.out wb4 (Ext.refl _)
        have lx := World.block_lt_of_cell? _ _ x0
        have ly := World.block_lt_of_cell? _ _ y0
        go_upto_region 9 with (fail)
        go_cut [19, 20] (fun v1 v2 wx => ∃ (Bj : Nat) (A : Option Addr) (n c : Nat) (esr : List En), v1 = .pointer (some ⟨Bj, 0, none⟩) ∧ v2 = .int .i64 0 ∧ JoinedTo [] [(0, 0, 0, [X]), (0, 0, 0, [Y])] esr ∧ Blk wx Bj 26 #[.int .i64 0, nilS, nilS, .slice A n c] ∧ RdE wx (.slice A n c) esr ∧ Ext wb4 wx)
        case first =>
          go_region_held3 (fun W => (W.cell? ⟨B3, 0, none⟩ = some (.int .i64 0) ∧ W.cell? ⟨B3, 1, none⟩ = some (nilS) ∧ W.cell? ⟨B3, 2, none⟩ = some (nilS) ∧ W.cell? ⟨B3, 3, none⟩ = some (.slice A3 n3 c3)) ∧ (W.cell? ⟨B4, 0, none⟩ = some (.int .i64 0) ∧ W.cell? ⟨B4, 1, none⟩ = some (nilS) ∧ W.cell? ⟨B4, 2, none⟩ = some (nilS) ∧ W.cell? ⟨B4, 3, none⟩ = some (.slice A4 n4 c4))) (first | exact HSX.out _ (by repeat (first | exact Ext.refl _ | refine Ext.drew ?_ | refine Ext.drewN ?_ _ | refine Ext.alloc ?_ _ | (refine Ext.setCell ?_ ?sc _; (case sc => first | exact Nat.le_refl _ | exact Ext.size (by repeat (first | exact Ext.refl _ | refine Ext.drew ?_ | refine Ext.drewN ?_ _ | refine Ext.alloc ?_ _ | refine Ext.trans ?_ (Hid.out (by assumption)))))) | refine Ext.trans ?_ (Hid.out (by assumption)))) | go_keep) (first
            | (go_at_call 28; refine (rkind_any _).mono ?_; rintro e wk ⟨rfl, hEk⟩; (first | (have HB7 : Hid (Blk wk wb4.heap.size 26 #[.int .i64 0, nilS, nilS, nilS]) := Lib.hid (Blk.ext (by first | exact Blk.new _ _ _ | exact (Blk.new _ _ _).drew) hEk)) | skip); have HEk := Lib.hid hEk; clear hEk)
            | (go_at_call 27; refine (joinV_any _ _ 0 0 0 0 0 0 [X] [Y] _ (HRX.out.ext (by with_reducible (repeat (first | exact Ext.refl _ | refine Ext.drew ?_ | refine Ext.drewN ?_ _ | refine Ext.alloc ?_ _ | refine Ext.trans ?_ (Hid.out (by assumption)))))).V (HRY.out.ext (by with_reducible (repeat (first | exact Ext.refl _ | refine Ext.drew ?_ | refine Ext.drewN ?_ _ | refine Ext.alloc ?_ _ | refine Ext.trans ?_ (Hid.out (by assumption)))))).V HIX.out HIY.out (by simp) (by simp)).mono ?_; rintro e wj ⟨uj, esj, rfl, hjt, hj, hEj⟩; obtain ⟨Aj, nj, cj, rfl⟩ := hj.slice; have HJ := Lib.hid hj; have HJT := Lib.hid hjt; clear hj hjt; (first | (have r7 : Blk wj wb4.heap.size 26 #[.int .i64 0, nilS, nilS, nilS] := Blk.ext (by first | exact HB7.out | exact HB7.out.drew) hEj; have l7 := r7.lt; have f0 := r7.frozen 0; have f1 := r7.frozen 1; have f2 := r7.frozen 2; have f3 := r7.frozen 3; have d0 : wj.cell? ⟨wb4.heap.size, 0, none⟩ = some (.int .i64 0) := r7.cell 0; have d1 : wj.cell? ⟨wb4.heap.size, 1, none⟩ = some (nilS) := r7.cell 1; have d2 : wj.cell? ⟨wb4.heap.size, 2, none⟩ = some (nilS) := r7.cell 2; have d3 : wj.cell? ⟨wb4.heap.size, 3, none⟩ = some (nilS) := r7.cell 3; replace HB7 := Lib.hid r7; clear r7) | (have r7 : Blk wj wk.heap.size 26 #[.int .i64 0, nilS, nilS, nilS] := Blk.ext (by first | exact Blk.new _ _ _ | exact (Blk.new _ _ _).drew) hEj; have l7 := r7.lt; have f0 := r7.frozen 0; have f1 := r7.frozen 1; have f2 := r7.frozen 2; have f3 := r7.frozen 3; have d0 : wj.cell? ⟨wk.heap.size, 0, none⟩ = some (.int .i64 0) := r7.cell 0; have d1 : wj.cell? ⟨wk.heap.size, 1, none⟩ = some (nilS) := r7.cell 1; have d2 : wj.cell? ⟨wk.heap.size, 2, none⟩ = some (nilS) := r7.cell 2; have d3 : wj.cell? ⟨wk.heap.size, 3, none⟩ = some (nilS) := r7.cell 3; have HB7 := Lib.hid r7; clear r7) | skip); have HEj := Lib.hid hEj; clear hEj))
          all_goals
            go_wp2_with (fail)
            go_meet
            case rel =>
              refine ⟨_, Aj, nj, cj, esj, rfl, rfl, HJT.out, ?_, ?_, ?_⟩
              · first | exact (HB7.out).store4 _ _ _ _ | exact Blk.new _ _ _
              · first | exact RdE.store4 HJ.out ⟨_, _, _, _, _, _, _, _, _, _, _, HB7.out⟩ _ _ _ _ | exact HJ.out.ext ((Ext.refl _).alloc _)
              · first
                  | (refine Ext.store4 ?_ ?_ _ _ _ _
                     · exact (by with_reducible (repeat (first | exact Ext.refl _ | refine Ext.drew ?_ | refine Ext.drewN ?_ _ | refine Ext.alloc ?_ _ | refine Ext.trans ?_ (Hid.out (by assumption)))))
                     · first | exact Nat.le_refl _ | exact Ext.size (by with_reducible (repeat (first | exact Ext.refl _ | refine Ext.drew ?_ | refine Ext.drewN ?_ _ | refine Ext.alloc ?_ _ | refine Ext.trans ?_ (Hid.out (by assumption))))))
                  | (refine Ext.alloc ?_ _
                     exact (by with_reducible (repeat (first | exact Ext.refl _ | refine Ext.drew ?_ | refine Ext.drewN ?_ _ | refine Ext.alloc ?_ _ | refine Ext.trans ?_ (Hid.out (by assumption))))))
        case rest =>
          obtain ⟨w5, rfl⟩ : ∃ W : World, W = wc := ⟨_, rfl⟩
          obtain ⟨B5, A5, n5, c5, ej, rfl, rfl, hjt, hb5, hr5, hE⟩ := hcut
          have HE5 := Lib.hid hE
          have HR5 := Lib.hid hr5
          have HB5 := Lib.hid hb5
          have HJR : Hid (Reg ej ∧ ∀ z, z ∈ ej ↔ z ∈ [X, Y]) := Lib.hid (by
            obtain ⟨h1, h2⟩ := joined_two HX.out.2.2.2.2.1 HX.out.2.2.2.2.2.1 hjt
            exact ⟨h1, fun z => (h2 z).trans (two_join HX.out.2.2.2.2.2.2.1 HX.out.2.2.2.2.2.2.2 z)⟩)
          have HLJ : Hid (ej.length = 2) := Lib.hid (two_len HJR.out.1 (fun e => HX.out.2.2.2.2.2.2.1 (.inr e)) HJR.out.2)
          have hn5 : n5 = 2 := by
            obtain ⟨_, _, _, hv, hl, -⟩ := hr5
            injection hv with q1 q2 q3
            rw [q2, ← hl]
            exact HLJ.out
          subst hn5
          have HSJ : Hid (∀ W, Ext w5 W → (W.cell? ⟨B5, 0, none⟩ = some (.int .i64 0) ∧ W.cell? ⟨B5, 1, none⟩ = some (nilS) ∧ W.cell? ⟨B5, 2, none⟩ = some (nilS) ∧ W.cell? ⟨B5, 3, none⟩ = some (.slice A5 2 c5)) ∧ (W.cell? ⟨B3, 0, none⟩ = some (.int .i64 0) ∧ W.cell? ⟨B3, 1, none⟩ = some (nilS) ∧ W.cell? ⟨B3, 2, none⟩ = some (nilS) ∧ W.cell? ⟨B3, 3, none⟩ = some (.slice A3 n3 c3)) ∧ (W.cell? ⟨B4, 0, none⟩ = some (.int .i64 0) ∧ W.cell? ⟨B4, 1, none⟩ = some (nilS) ∧ W.cell? ⟨B4, 2, none⟩ = some (nilS) ∧ W.cell? ⟨B4, 3, none⟩ = some (.slice A4 n4 c4))) := Lib.hid (fun W hW => ⟨⟨hW.cell (HB5.out.cell 0), hW.cell (HB5.out.cell 1), hW.cell (HB5.out.cell 2), hW.cell (HB5.out.cell 3)⟩, HSX.out W (HE5.out.trans hW)⟩)
          clear hE hr5 hb5 hjt
          clear x0 x1 x2 x3 y0 y1 y2 y3 lx ly
          obtain ⟨⟨j0, j1, j2, j3⟩, ⟨x0, x1, x2, x3⟩, ⟨y0, y1, y2, y3⟩⟩ := HSJ.out w5 (Ext.refl _)
          have lj := World.block_lt_of_cell? _ _ j0
          have lx := World.block_lt_of_cell? _ _ x0
          have ly := World.block_lt_of_cell? _ _ y0
          have HIJ := Lib.hid HJR.out.1.isReg_
          have HC1 : Hid (coversB ej [X] = true) := Lib.hid (covers_mem HJR.out.1.valid HX.out.2.2.2.2.1.valid (fun z hz => (HJR.out.2 z).2 (by simp only [List.mem_singleton] at hz; simp [hz])))
          have HC2 : Hid (coversB ej [Y] = true) := Lib.hid (covers_mem HJR.out.1.valid HX.out.2.2.2.2.2.1.valid (fun z hz => (HJR.out.2 z).2 (by simp only [List.mem_singleton] at hz; simp [hz])))
          have HC3 : Hid (coversB [X] [Y] = false) := Lib.hid (covers_one HX.out.2.2.2.2.1 HX.out.2.2.2.2.2.1 HX.out.2.2.2.2.2.2.2)
          have HC4 : Hid (coversB [Y] [X] = false) := Lib.hid (covers_one HX.out.2.2.2.2.2.1 HX.out.2.2.2.2.1 HX.out.2.2.2.2.2.2.1)
          obtain ⟨t, ht⟩ : ∃ t, (na == nb) = t := ⟨_, rfl⟩
          have HNM : Hid (∀ l, NamesOf ej l → decide (1 < l.length) = !t) := Lib.hid (fun l hl => by rw [two_names HJR.out.2 hl, HX.out.2.2.1, HX.out.2.2.2.1, ht])
          have ht2 : (na != nb) = !t := by rw [← ht]; rfl
          have et : ((!t) != (!t)) = false := by simp
          have et2 : (t != t) = false := by simp
          have TK1 : True := trivial
          have TK2 : True := trivial
          have TK3 : True := trivial
          have TK4 : True := trivial
          go_upto_region 12 with (first
            | (go_at_call 22; refine (conflict_any _ 0 0 0 ej _ (HR5.out.ext (by with_reducible (repeat (first | exact Ext.refl _ | refine Ext.drew ?_ | refine Ext.drewN ?_ _ | refine Ext.alloc ?_ _ | refine Ext.trans ?_ (Hid.out (by assumption)))))).V (by rw [HLJ.out]; omega)).mono ?_; rintro e wB ⟨lB, rfl, hnB, hEB⟩; rw [HNM.out lB hnB]; clear j0 j1 j2 j3 x0 x1 x2 x3 y0 y1 y2 y3 lj lx ly; obtain ⟨⟨j0, j1, j2, j3⟩, ⟨x0, x1, x2, x3⟩, ⟨y0, y1, y2, y3⟩⟩ := HSJ.out wB hEB; have lj := World.block_lt_of_cell? _ _ j0; have lx := World.block_lt_of_cell? _ _ x0; have ly := World.block_lt_of_cell? _ _ y0; have HEB := Lib.hid hEB; clear hEB hnB)
            | (go_at_call 25; clear TK1; refine (covers_any _ _ 0 0 0 0 0 0 ej [X] _ (HR5.out.ext (by with_reducible (repeat (first | exact Ext.refl _ | refine Ext.drew ?_ | refine Ext.drewN ?_ _ | refine Ext.alloc ?_ _ | refine Ext.trans ?_ (Hid.out (by assumption)))))).V (HRX.out.ext (by with_reducible (repeat (first | exact Ext.refl _ | refine Ext.drew ?_ | refine Ext.drewN ?_ _ | refine Ext.alloc ?_ _ | refine Ext.trans ?_ (Hid.out (by assumption)))))).V HJR.out.1.valid HX.out.2.2.2.2.1.valid).mono ?_; rintro e wC ⟨rfl, hEC⟩; rw [HC1.out]; clear j0 j1 j2 j3 x0 x1 x2 x3 y0 y1 y2 y3 lj lx ly; obtain ⟨⟨j0, j1, j2, j3⟩, ⟨x0, x1, x2, x3⟩, ⟨y0, y1, y2, y3⟩⟩ := HSJ.out wC (HEB.out.trans hEC); have lj := World.block_lt_of_cell? _ _ j0; have lx := World.block_lt_of_cell? _ _ x0; have ly := World.block_lt_of_cell? _ _ y0; have HEC := Lib.hid hEC; clear hEC)
            | (go_at_call 25; clear TK2; refine (covers_any _ _ 0 0 0 0 0 0 ej [Y] _ (HR5.out.ext (by with_reducible (repeat (first | exact Ext.refl _ | refine Ext.drew ?_ | refine Ext.drewN ?_ _ | refine Ext.alloc ?_ _ | refine Ext.trans ?_ (Hid.out (by assumption)))))).V (HRY.out.ext (by with_reducible (repeat (first | exact Ext.refl _ | refine Ext.drew ?_ | refine Ext.drewN ?_ _ | refine Ext.alloc ?_ _ | refine Ext.trans ?_ (Hid.out (by assumption)))))).V HJR.out.1.valid HX.out.2.2.2.2.2.1.valid).mono ?_; rintro e wD ⟨rfl, hED⟩; rw [HC2.out]; clear j0 j1 j2 j3 x0 x1 x2 x3 y0 y1 y2 y3 lj lx ly; obtain ⟨⟨j0, j1, j2, j3⟩, ⟨x0, x1, x2, x3⟩, ⟨y0, y1, y2, y3⟩⟩ := HSJ.out wD (HEB.out.trans (HEC.out.trans hED)); have lj := World.block_lt_of_cell? _ _ j0; have lx := World.block_lt_of_cell? _ _ x0; have ly := World.block_lt_of_cell? _ _ y0; have HED := Lib.hid hED; clear hED)
            | (go_at_call 25; clear TK3; refine (covers_any _ _ 0 0 0 0 0 0 [X] [Y] _ (HRX.out.ext (by with_reducible (repeat (first | exact Ext.refl _ | refine Ext.drew ?_ | refine Ext.drewN ?_ _ | refine Ext.alloc ?_ _ | refine Ext.trans ?_ (Hid.out (by assumption)))))).V (HRY.out.ext (by with_reducible (repeat (first | exact Ext.refl _ | refine Ext.drew ?_ | refine Ext.drewN ?_ _ | refine Ext.alloc ?_ _ | refine Ext.trans ?_ (Hid.out (by assumption)))))).V HX.out.2.2.2.2.1.valid HX.out.2.2.2.2.2.1.valid).mono ?_; rintro e wE ⟨rfl, hEE⟩; rw [HC3.out]; clear j0 j1 j2 j3 x0 x1 x2 x3 y0 y1 y2 y3 lj lx ly; obtain ⟨⟨j0, j1, j2, j3⟩, ⟨x0, x1, x2, x3⟩, ⟨y0, y1, y2, y3⟩⟩ := HSJ.out wE (HEB.out.trans (HEC.out.trans (HED.out.trans hEE))); have lj := World.block_lt_of_cell? _ _ j0; have lx := World.block_lt_of_cell? _ _ x0; have ly := World.block_lt_of_cell? _ _ y0; have HEE := Lib.hid hEE; clear hEE)
            | (go_at_call 25; refine (covers_any _ _ 0 0 0 0 0 0 [Y] [X] _ (HRY.out.ext (by with_reducible (repeat (first | exact Ext.refl _ | refine Ext.drew ?_ | refine Ext.drewN ?_ _ | refine Ext.alloc ?_ _ | refine Ext.trans ?_ (Hid.out (by assumption)))))).V (HRX.out.ext (by with_reducible (repeat (first | exact Ext.refl _ | refine Ext.drew ?_ | refine Ext.drewN ?_ _ | refine Ext.alloc ?_ _ | refine Ext.trans ?_ (Hid.out (by assumption)))))).V HX.out.2.2.2.2.2.1.valid HX.out.2.2.2.2.1.valid).mono ?_; rintro e wF ⟨rfl, hEF⟩; rw [HC4.out]; clear j0 j1 j2 j3 x0 x1 x2 x3 y0 y1 y2 y3 lj lx ly; obtain ⟨⟨j0, j1, j2, j3⟩, ⟨x0, x1, x2, x3⟩, ⟨y0, y1, y2, y3⟩⟩ := HSJ.out wF (HEB.out.trans (HEC.out.trans (HED.out.trans (HEE.out.trans hEF)))); have lj := World.block_lt_of_cell? _ _ j0; have lx := World.block_lt_of_cell? _ _ x0; have ly := World.block_lt_of_cell? _ _ y0; have HEF := Lib.hid hEF; clear hEF))
          obtain ⟨e3, e3', hwr⟩ : ∃ er es', writeR (isReg 0 0 0 ej) ej r nc = (er, es') := ⟨_, _, rfl⟩
          have HW3 := Lib.hid hwr; clear hwr
          go_upto_region 13 with (go_at_call 12; refine (write_any _ 0 0 0 ej r nc _ (HR5.out.ext (by with_reducible (repeat (first | exact Ext.refl _ | refine Ext.drew ?_ | refine Ext.drewN ?_ _ | refine Ext.alloc ?_ _ | refine Ext.trans ?_ (Hid.out (by assumption)))))).V HLC.out).mono ?_; rintro e w6 ⟨u6, rfl, hr, hE⟩; rw [HW3.out] at hr ⊢; have HR6 := Lib.hid hr; have HE6 := Lib.hid hE; obtain ⟨A6, n6, c6, rfl⟩ := hr.slice; clear hr hE)
          obtain ⟨wb6, hwb⟩ : ∃ W, W = w6.alloc (.cells #[.int .i64 0, nilS, nilS, .slice A6 n6 c6] 26) := ⟨_, rfl⟩
          have HF6 : Hid (Ext w6 wb6) := Lib.hid (by rw [hwb]; exact (Ext.refl _).alloc _)
          have HK6 : Hid (Blk wb6 w6.heap.size 26 #[.int .i64 0, nilS, nilS, .slice A6 n6 c6]) := Lib.hid (by rw [hwb]; exact Blk.new _ _ _)
          rw [← hwb]; clear hwb
          obtain ⟨B6, hB0⟩ : ∃ B, B = w6.heap.size := ⟨_, rfl⟩
          rw [← hB0] at HK6 ⊢; clear hB0
          by_cases h3 : e3 = 0
          · subst h3
            obtain ⟨Z, HZ⟩ : ∃ Z : En, Hid (e3' = [Z] ∧ Z.2 = nc ∧ Reg [Z] ∧ ∀ x ∈ ej, ltE x Z) := by
              have h := HW3.out
              rw [HIJ.out] at h
              obtain ⟨c, h1, h2, h3, -⟩ := write_above HJR.out.1 h
              exact ⟨(c, nc), Lib.hid ⟨h1, rfl, h2, h3⟩⟩
            have HRZ : Hid (RdE w6 (.slice A6 n6 c6) [Z]) := Lib.hid (by rw [← HZ.out.1]; exact HR6.out)
            have HIZ := Lib.hid HZ.out.2.2.1.isReg_
            have HSZ : Hid (∀ W, Ext wb6 W → (W.cell? ⟨B5, 0, none⟩ = some (.int .i64 0) ∧ W.cell? ⟨B5, 1, none⟩ = some (nilS) ∧ W.cell? ⟨B5, 2, none⟩ = some (nilS) ∧ W.cell? ⟨B5, 3, none⟩ = some (.slice A5 2 c5)) ∧ (W.cell? ⟨B6, 0, none⟩ = some (.int .i64 0) ∧ W.cell? ⟨B6, 1, none⟩ = some (nilS) ∧ W.cell? ⟨B6, 2, none⟩ = some (nilS) ∧ W.cell? ⟨B6, 3, none⟩ = some (.slice A6 n6 c6))) := Lib.hid (fun W hW => by
              have HW := Lib.hid hW
              obtain h5 : Ext w5 W := (by with_reducible (repeat (first | exact Ext.refl _ | refine Ext.drew ?_ | refine Ext.drewN ?_ _ | refine Ext.alloc ?_ _ | refine Ext.trans ?_ (Hid.out (by assumption)))))
              exact ⟨⟨h5.cell (HB5.out.cell 0), h5.cell (HB5.out.cell 1), h5.cell (HB5.out.cell 2), h5.cell (HB5.out.cell 3)⟩, ⟨hW.cell (HK6.out.cell 0), hW.cell (HK6.out.cell 1), hW.cell (HK6.out.cell 2), hW.cell (HK6.out.cell 3)⟩⟩)
            clear j0 j1 j2 j3 x0 x1 x2 x3 y0 y1 y2 y3 lj lx ly
            obtain ⟨⟨j0, j1, j2, j3⟩, ⟨z0, z1, z2, z3⟩⟩ := HSZ.out wb6 (Ext.refl _)
            have lj := World.block_lt_of_cell? _ _ j0
            have lz := World.block_lt_of_cell? _ _ z0
            go_upto_region 15 with (fail)
            go_cut [23, 24] (fun v1 v2 wx => ∃ (Bj : Nat) (A : Option Addr) (n c : Nat) (esr : List En), v1 = .pointer (some ⟨Bj, 0, none⟩) ∧ v2 = .int .i64 0 ∧ JoinedTo [] [(0, 0, 0, ej), (0, 0, 0, [Z])] esr ∧ Blk wx Bj 26 #[.int .i64 0, nilS, nilS, .slice A n c] ∧ RdE wx (.slice A n c) esr ∧ Ext wb6 wx)
            case first =>
              go_region_held3 (fun W => (W.cell? ⟨B5, 0, none⟩ = some (.int .i64 0) ∧ W.cell? ⟨B5, 1, none⟩ = some (nilS) ∧ W.cell? ⟨B5, 2, none⟩ = some (nilS) ∧ W.cell? ⟨B5, 3, none⟩ = some (.slice A5 2 c5)) ∧ (W.cell? ⟨B6, 0, none⟩ = some (.int .i64 0) ∧ W.cell? ⟨B6, 1, none⟩ = some (nilS) ∧ W.cell? ⟨B6, 2, none⟩ = some (nilS) ∧ W.cell? ⟨B6, 3, none⟩ = some (.slice A6 n6 c6))) (first | exact HSZ.out _ (by repeat (first | exact Ext.refl _ | refine Ext.drew ?_ | refine Ext.drewN ?_ _ | refine Ext.alloc ?_ _ | (refine Ext.setCell ?_ ?sc _; (case sc => first | exact Nat.le_refl _ | exact Ext.size (by repeat (first | exact Ext.refl _ | refine Ext.drew ?_ | refine Ext.drewN ?_ _ | refine Ext.alloc ?_ _ | refine Ext.trans ?_ (Hid.out (by assumption)))))) | refine Ext.trans ?_ (Hid.out (by assumption)))) | go_keep) (first
                | (go_at_call 28; refine (rkind_any _).mono ?_; rintro e wk ⟨rfl, hEk⟩; (first | (have HB7 : Hid (Blk wk wb6.heap.size 26 #[.int .i64 0, nilS, nilS, nilS]) := Lib.hid (Blk.ext (by first | exact Blk.new _ _ _ | exact (Blk.new _ _ _).drew) hEk)) | skip); have HEk := Lib.hid hEk; clear hEk)
                | (go_at_call 27; refine (joinV_any _ _ 0 0 0 0 0 0 ej [Z] _ (HR5.out.ext (by with_reducible (repeat (first | exact Ext.refl _ | refine Ext.drew ?_ | refine Ext.drewN ?_ _ | refine Ext.alloc ?_ _ | refine Ext.trans ?_ (Hid.out (by assumption)))))).V (HRZ.out.ext (by with_reducible (repeat (first | exact Ext.refl _ | refine Ext.drew ?_ | refine Ext.drewN ?_ _ | refine Ext.alloc ?_ _ | refine Ext.trans ?_ (Hid.out (by assumption)))))).V HIJ.out HIZ.out (by rw [HLJ.out]; omega) (by simp)).mono ?_; rintro e wj ⟨uj, esj, rfl, hjt, hj, hEj⟩; obtain ⟨Aj, nj, cj, rfl⟩ := hj.slice; have HJ := Lib.hid hj; have HJT := Lib.hid hjt; clear hj hjt; (first | (have r7 : Blk wj wb6.heap.size 26 #[.int .i64 0, nilS, nilS, nilS] := Blk.ext (by first | exact HB7.out | exact HB7.out.drew) hEj; have l7 := r7.lt; have f0 := r7.frozen 0; have f1 := r7.frozen 1; have f2 := r7.frozen 2; have f3 := r7.frozen 3; have d0 : wj.cell? ⟨wb6.heap.size, 0, none⟩ = some (.int .i64 0) := r7.cell 0; have d1 : wj.cell? ⟨wb6.heap.size, 1, none⟩ = some (nilS) := r7.cell 1; have d2 : wj.cell? ⟨wb6.heap.size, 2, none⟩ = some (nilS) := r7.cell 2; have d3 : wj.cell? ⟨wb6.heap.size, 3, none⟩ = some (nilS) := r7.cell 3; replace HB7 := Lib.hid r7; clear r7) | (have r7 : Blk wj wk.heap.size 26 #[.int .i64 0, nilS, nilS, nilS] := Blk.ext (by first | exact Blk.new _ _ _ | exact (Blk.new _ _ _).drew) hEj; have l7 := r7.lt; have f0 := r7.frozen 0; have f1 := r7.frozen 1; have f2 := r7.frozen 2; have f3 := r7.frozen 3; have d0 : wj.cell? ⟨wk.heap.size, 0, none⟩ = some (.int .i64 0) := r7.cell 0; have d1 : wj.cell? ⟨wk.heap.size, 1, none⟩ = some (nilS) := r7.cell 1; have d2 : wj.cell? ⟨wk.heap.size, 2, none⟩ = some (nilS) := r7.cell 2; have d3 : wj.cell? ⟨wk.heap.size, 3, none⟩ = some (nilS) := r7.cell 3; have HB7 := Lib.hid r7; clear r7) | skip); have HEj := Lib.hid hEj; clear hEj))
              all_goals
                go_wp2_with (fail)
                go_meet
                case rel =>
                  refine ⟨_, Aj, nj, cj, esj, rfl, rfl, HJT.out, ?_, ?_, ?_⟩
                  · first | exact (HB7.out).store4 _ _ _ _ | exact Blk.new _ _ _
                  · first | exact RdE.store4 HJ.out ⟨_, _, _, _, _, _, _, _, _, _, _, HB7.out⟩ _ _ _ _ | exact HJ.out.ext ((Ext.refl _).alloc _)
                  · first
                      | (refine Ext.store4 ?_ ?_ _ _ _ _
                         · exact (by with_reducible (repeat (first | exact Ext.refl _ | refine Ext.drew ?_ | refine Ext.drewN ?_ _ | refine Ext.alloc ?_ _ | refine Ext.trans ?_ (Hid.out (by assumption)))))
                         · first | exact Nat.le_refl _ | exact Ext.size (by with_reducible (repeat (first | exact Ext.refl _ | refine Ext.drew ?_ | refine Ext.drewN ?_ _ | refine Ext.alloc ?_ _ | refine Ext.trans ?_ (Hid.out (by assumption))))))
                      | (refine Ext.alloc ?_ _
                         exact (by with_reducible (repeat (first | exact Ext.refl _ | refine Ext.drew ?_ | refine Ext.drewN ?_ _ | refine Ext.alloc ?_ _ | refine Ext.trans ?_ (Hid.out (by assumption))))))
            case rest =>
              obtain ⟨w7, rfl⟩ : ∃ W : World, W = wc := ⟨_, rfl⟩
              obtain ⟨B7, A7, n7, c7, ek, rfl, rfl, hjt, hb7, hr7, hE⟩ := hcut
              have HE7 := Lib.hid hE
              have HKZ : Hid (ek = [Z]) := Lib.hid (by
                obtain ⟨h1, h2⟩ := joined_two HJR.out.1 HZ.out.2.2.1 hjt
                exact h1.ext_ HZ.out.2.2.1 (fun z => (h2 z).trans (above_join HZ.out.2.2.2 z)))
              have HR7 := Lib.hid hr7
              clear j0 j1 j2 j3 z0 z1 z2 z3 lj lz
              have k0 : w7.cell? ⟨B7, 0, none⟩ = some (.int .i64 0) := hb7.cell 0
              have k1 : w7.cell? ⟨B7, 1, none⟩ = some nilS := hb7.cell 1
              have k2 : w7.cell? ⟨B7, 2, none⟩ = some nilS := hb7.cell 2
              have k3 : w7.cell? ⟨B7, 3, none⟩ = some (.slice A7 n7 c7) := hb7.cell 3
              have lk := hb7.lt
              clear hE hr7 hb7 hjt
              have e1 : (nc == nc) = true := by simp
              go_wp2_with (go_at_call 18; refine (rnames_any _ 0 0 0 ek _ (HR7.out.ext (by with_reducible (repeat (first | exact Ext.refl _ | refine Ext.drew ?_ | refine Ext.drewN ?_ _ | refine Ext.alloc ?_ _ | refine Ext.trans ?_ (Hid.out (by assumption)))))).V (by rw [HKZ.out]; simp)).mono ?_; rintro e w8 ⟨u8, l8, rfl, hn, hr, hE⟩; rw [HKZ.out] at hn; obtain rfl := namesOf_uniq (namesOf_one Z) hn; rw [HZ.out.2.1] at hr; obtain ⟨bn, on, cn8, rfl, hbn, hcn⟩ := Rd1.head hr 1 rfl; have HE8 := Lib.hid hE; clear hn hr hE)
              go_ret
              exact ⟨rfl, (by with_reducible (repeat (first | exact Ext.refl _ | refine Ext.drew ?_ | refine Ext.drewN ?_ _ | refine Ext.alloc ?_ _ | refine Ext.trans ?_ (Hid.out (by assumption)))))⟩
          · have hz : (e3 != 0) = true := by simpa using h3
            go_wp2_with (fail)
            go_ret
            exact ⟨rfl, (by with_reducible (repeat (first | exact Ext.refl _ | refine Ext.drew ?_ | refine Ext.drewN ?_ _ | refine Ext.alloc ?_ _ | refine Ext.trans ?_ (Hid.out (by assumption)))))⟩
      · have z1 : (er != 0) = false := by simp [h1]
        have z2 : (es' != 0) = true := by simpa using h2
        go_wp2_with (fail)
        go_ret
        exact ⟨rfl, (by with_reducible (repeat (first | exact Ext.refl _ | refine Ext.drew ?_ | refine Ext.drewN ?_ _ | refine Ext.alloc ?_ _ | refine Ext.trans ?_ (Hid.out (by assumption)))))⟩
    · have z1 : (er != 0) = true := by simpa using h1
      go_wp2_with (fail)
      go_ret
      exact ⟨rfl, (by with_reducible (repeat (first | exact Ext.refl _ | refine Ext.drew ?_ | refine Ext.drewN ?_ _ | refine Ext.alloc ?_ _ | refine Ext.trans ?_ (Hid.out (by assumption)))))⟩
end Go.Proofs.YthldgioggjpnpaaGreat
