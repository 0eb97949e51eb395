/-
  Contracts: the reference's Compare and Equal at all values.
-/
import Derived.Test.YthldgioggjpnpaaGreatS12
import Derived.Test.YthldgioggjpnpaaGreatS9
namespace Go.Proofs.YthldgioggjpnpaaGreat
open Go.RowKit

mutual
/-- the order of values -/
def cmpVal : Val → Val → Int
  | .mk N nm ps es, y => if N ≠ y.N then signI (decide (N < y.N)) else if lexL Lib.compareBytes nm y.nm ≠ 0 then lexL Lib.compareBytes nm y.nm else if cmpVals ps y.ps ≠ 0 then cmpVals ps y.ps else cmpEs es y.es
def cmpVals : List Val → List Val → Int
  | [], [] => 0
  | [], _ :: _ => -1
  | _ :: _, [] => 1
  | a :: r, b :: s => if cmpVal a b = 0 then cmpVals r s else cmpVal a b
end
theorem cmpVals_lex : ∀ a b : List Val, cmpVals a b = lexL cmpVal a b
  | [], [] => by simp [cmpVals, lexL]
  | [], _ :: _ => by simp [cmpVals, lexL]
  | _ :: _, [] => by simp [cmpVals, lexL]
  | a :: r, b :: s => by simp only [cmpVals, lexL]; rw [cmpVals_lex r s]
theorem cmpEs_lex : ∀ a b : List En, cmpEs a b = lexL cmpEn a b
  | [], [] => rfl
  | [], _ :: _ => rfl
  | _ :: _, [] => rfl
  | a :: r, b :: s => by simp only [cmpEs, lexL]; rw [cmpEs_lex r s]
theorem cmpVal_eq (x y : Val) : cmpVal x y = if x.N ≠ y.N then signI (decide (x.N < y.N)) else if lexL Lib.compareBytes x.nm y.nm ≠ 0 then lexL Lib.compareBytes x.nm y.nm else if lexL cmpVal x.ps y.ps ≠ 0 then lexL cmpVal x.ps y.ps else lexL cmpEn x.es y.es := by
  cases x with
  | mk N nm ps es =>
    rw [cmpVal, cmpVals_lex, cmpEs_lex]
    rfl

theorem lexL_lens {α : Type} (c : α → α → Int) (a b : List α) (h : a = [] ∨ b = []) : lexL c a b = lensI a.length b.length := by
  cases a with
  | nil => cases b with
    | nil => rfl
    | cons u r => simp [lexL, lensI, signI]
  | cons t r => cases b with
    | nil => simp [lexL, lensI, signI]
    | cons u s => simp at h
theorem lexL_len_add {α : Type} (c : α → α → Int) (a b : List α) (k : Nat) (ha : k ≤ a.length) (hb : k ≤ b.length) (h : a.length = k ∨ b.length = k) (e : lexL c (a.drop k) (b.drop k) = lexL c a b) : lexL c a b = lensI a.length b.length := by
  have h' : a.drop k = [] ∨ b.drop k = [] := h.imp (fun h => List.drop_of_length_le (by omega)) (fun h => List.drop_of_length_le (by omega))
  rw [← e, lexL_lens c _ _ h', List.length_drop, List.length_drop]
  unfold lensI
  by_cases h1 : a.length = b.length
  · rw [if_pos h1, if_pos (by omega)]
  · rw [if_neg h1, if_neg (by omega)]
    congr 1
    rw [Bool.eq_iff_iff]
    simp
    omega
theorem lexL_step {α : Type} {c : α → α → Int} {a b : List α} {k : Nat} {x y : α} (hx : a[k]? = some x) (hy : b[k]? = some y) (e : lexL c (a.drop k) (b.drop k) = lexL c a b) :
    (if c x y = 0 then lexL c (a.drop (k + 1)) (b.drop (k + 1)) else c x y) = lexL c a b := by
  obtain ⟨h1, rfl⟩ := List.getElem?_eq_some_iff.1 hx
  obtain ⟨h2, rfl⟩ := List.getElem?_eq_some_iff.1 hy
  rw [← e, List.drop_eq_getElem_cons h1, List.drop_eq_getElem_cons h2, lexL]
theorem lensI_zero (a b : Nat) : lensI a b = 0 ↔ a = b := by
  unfold lensI
  by_cases h : a = b
  · simp [h]
  · rw [if_neg h]; exact ⟨fun h' => absurd h' (signI_ne _), fun h' => absurd h' h⟩

set_option maxRecDepth 100000 in
set_option maxHeartbeats 8000000 in
theorem rcompare_any : ∀ (d : Nat) (cs ds : List Value) (x y : Val) (w : World), RdVal d w cs x → RdVal d w ds y →
    Calls Tryz.prog 42 #[.agg cs.toArray, .agg ds.toArray] w fun e w' => e = .returned (.int .i64 (cmpVal x y)) ∧ Ext w w' := by
  intro d
  induction d with
  | zero => intro cs ds x y w hx; exact hx.elim
  | succ d ih =>
    intro cs ds x y w hx hy
    have IH := Lib.hid ih; clear ih
    obtain ⟨An, nn, cn, Ap, np, cp, ve, rfl, hS, -, hE, hpl, hp1, hp2, hp3⟩ := hx
    obtain ⟨Bn, mn, dn, Bp, mp, dp, vf, rfl, hT, -, hF, hql, hq1, hq2, hq3⟩ := hy
    obtain ⟨Ae, ne, ce, rfl⟩ := hE.slice
    obtain ⟨Af, nf, cf, rfl⟩ := hF.slice
    have HS := Lib.hid hS
    have HT := Lib.hid hT
    have HEn := Lib.hid hE
    have HFn := Lib.hid hF
    have HP := Lib.hid hp3
    have HQ := Lib.hid hq3
    have HPL := Lib.hid hpl
    have HQL := Lib.hid hql
    obtain ⟨hsl, hs1, hs2⟩ := Rd1.facts hS
    obtain ⟨htl, ht1, ht2⟩ := Rd1.facts hT
    have HSL := Lib.hid hsl
    have HTL := Lib.hid htl
    unfold maxLen at hs2 ht2 hp2 hq2
    obtain ⟨_, _, _, hv, hel, he1, he2, -⟩ := hE
    injection hv with q1 q2 q3
    subst q1 q2 q3
    obtain ⟨_, _, _, hv, hfl, hf1, hf2, -⟩ := hF
    injection hv with q1 q2 q3
    subst q1 q2 q3
    unfold maxLen at he2 hf2
    have HEL := Lib.hid hel
    have HFL := Lib.hid hfl
    clear hS hT hp3 hq3 hpl hql hsl htl hel hfl
    have HC := Lib.hid (cmpVal_eq x y)
    go_enter Tryz.func42, Tryz.ntmps42
    go_upto_region 1 with (fail)
    obtain ⟨wa, hwa⟩ : ∃ wa, wa = (w.alloc (.cells #[.int .i64 x.N, .slice An nn cn, .slice Ap np cp, .slice Ae ne ce] 26)).alloc (.cells #[.int .i64 y.N, .slice Bn mn dn, .slice Bp mp dp, .slice Af nf cf] 26) := ⟨_, rfl⟩
    have HEA : Hid (Ext w wa) := Lib.hid (by rw [hwa]; exact ((Ext.refl w).alloc _).alloc _)
    have HB1 : Hid (Blk wa w.heap.size 26 #[.int .i64 x.N, .slice An nn cn, .slice Ap np cp, .slice Ae ne ce]) := Lib.hid (by rw [hwa]; exact (Blk.new _ _ _).alloc _)
    have HB2 : Hid (Blk wa (w.heap.size + 1) 26 #[.int .i64 y.N, .slice Bn mn dn, .slice Bp mp dp, .slice Af nf cf]) := Lib.hid (by rw [hwa]; exact Blk.new' _ _ _ _ (by simp))
    rw [← hwa]
    clear hwa
    generalize w.heap.size = G at *
    have HX : Hid (∀ W, Ext wa W → (W.cell? ⟨G, 0, none⟩ = some (.int .i64 x.N) ∧ W.cell? ⟨G, 1, none⟩ = some (.slice An nn cn) ∧ W.cell? ⟨G, 2, none⟩ = some (.slice Ap np cp) ∧ W.cell? ⟨G, 3, none⟩ = some (.slice Ae ne ce)) ∧ (W.cell? ⟨G + 1, 0, none⟩ = some (.int .i64 y.N) ∧ W.cell? ⟨G + 1, 1, none⟩ = some (.slice Bn mn dn) ∧ W.cell? ⟨G + 1, 2, none⟩ = some (.slice Bp mp dp) ∧ W.cell? ⟨G + 1, 3, none⟩ = some (.slice Af nf cf)) ∧ G + 1 < W.heap.size) := Lib.hid (fun W hW => ⟨⟨hW.cell (HB1.out.cell 0), hW.cell (HB1.out.cell 1), hW.cell (HB1.out.cell 2), hW.cell (HB1.out.cell 3)⟩, ⟨hW.cell (HB2.out.cell 0), hW.cell (HB2.out.cell 1), hW.cell (HB2.out.cell 2), hW.cell (HB2.out.cell 3)⟩, Nat.lt_of_lt_of_le HB2.out.lt hW.size⟩)
    obtain ⟨⟨a0, a1, a2, a3⟩, ⟨b0, b1, b2, b3⟩, lG⟩ := HX.out wa (Ext.refl _)
    by_cases hN : x.N = y.N
    · have HN := Lib.hid hN
      rw [hN] at a0 HX ⊢
      clear hN
      have e0 : (y.N != y.N) = false := by simp
      -- LOOPS
      go_wp2_with (fail)
      go_loopw [5] (fun i wr => ∃ k : Nat, k ≤ nn ∧ k ≤ mn ∧ i = .int .i64 k ∧ lexL Lib.compareBytes (x.nm.drop k) (y.nm.drop k) = lexL Lib.compareBytes x.nm y.nm ∧ Ext wa wr) (fun i _ => nn - (intOf i).toNat)
      case atStart => exact ⟨0, Nat.zero_le _, Nat.zero_le _, rfl, rfl, Ext.refl _⟩
      case round =>
        obtain ⟨k, hkn, hkm, rfl, hg, hE⟩ := hrel
        have HG := Lib.hid hg; clear hg
        obtain ⟨⟨a0, a1, a2, a3⟩, ⟨b0, b1, b2, b3⟩, lG⟩ := HX.out wr hE
        have HEr := Lib.hid hE; clear hE
        by_cases hlt : k < nn ∧ k < mn
        · obtain ⟨hlt, hlm⟩ := hlt
          obtain ⟨p1, o1, s1, rfl, hp1', hs1', c0⟩ := Rd1.at_ (HS.out.ext (by repeat (first | exact Ext.refl _ | refine Ext.drew ?_ | refine Ext.drewN ?_ _ | refine Ext.alloc ?_ _ | refine Ext.trans ?_ (Hid.out (by assumption)))) : RdS wr _ _) hlt
          obtain ⟨p2, o2, s2, rfl, hp2', hs2', c1⟩ := Rd1.at_ (HT.out.ext (by repeat (first | exact Ext.refl _ | refine Ext.drew ?_ | refine Ext.drewN ?_ _ | refine Ext.alloc ?_ _ | refine Ext.trans ?_ (Hid.out (by assumption)))) : RdS wr _ _) hlm
          have HST := Lib.hid (lexL_step hs1' hs2' HG.out)
          clear hs1' hs2'
          by_cases hs : s1 = s2
          · subst hs
            have e1 : (s1 != s1) = false := by simp
            have e1' : (s1 == s1) = true := by simp
            have HNX : Hid (lexL Lib.compareBytes (x.nm.drop (k + 1)) (y.nm.drop (k + 1)) = lexL Lib.compareBytes x.nm y.nm) := Lib.hid (by rw [← HST.out, if_pos (compareBytes_ok.refl _)])
            go_wp2_with (fail)
            go_quiet (fail)
            go_wp2_with (fail)
            go_roundw
            case rel => exact ⟨k + 1, by omega, by omega, by go_num, HNX.out, by first | exact HEr.out | exact HEr.out.drewN _⟩
            case measure => simp [intOf]; omega
          · have e1 : (s1 != s2) = true := by simpa using hs
            have e1' : (s1 == s2) = false := by simpa using hs
            obtain ⟨r, hr⟩ : ∃ r, Op.bytesLess s1 s2 = r := ⟨_, rfl⟩
            have HRT : Hid (cmpVal x y = signI r) := Lib.hid (by
              have h1 : lexL Lib.compareBytes x.nm y.nm = signI r := by
                rw [← HST.out, compareBytes_sign, if_neg hs, if_neg (signI_ne _), hr]
              rw [HC.out, if_neg (fun h => h HN.out), h1, if_pos (signI_ne _)])
            have HSG := Lib.hid (fun W => sign_any r W)
            clear hs
            go_wp2_with (fail)
            go_quiet (fail)
            go_wp2_with (fail)
            refine wp_world (fun W => Ext wr W) (by first | exact (Ext.refl _).drewN _ | exact Ext.refl _) ?_
            intro wz hEz
            have k0 := cell_regrown (hEz.cell c0)
            have k1 := cell_regrown (hEz.cell c1)
            have k2 := cell_regrown (hEz.cell a1)
            have k3 := cell_regrown (hEz.cell b1)
            clear c0 c1 a0 a1 a2 a3 b0 b1 b2 b3
            refine wp_region_ext (by kernel_rfl) (by kernel_rfl) ?_
            repeat (go_big_quiet_step (first | (go_at_call 61; exact Calls.same_of HSG.out _ _)))
            refine wpQuiet_nil ?_
            intro w3 hE3
            go_wp2_with (fail)
            go_ret
            exact ⟨by rw [HRT.out]; rfl, HEA.out.trans (HEr.out.trans (hEz.trans hE3))⟩
        · have HLE : Hid (lexL Lib.compareBytes x.nm y.nm = lensI nn mn) := Lib.hid (by have h := lexL_len_add Lib.compareBytes x.nm y.nm k (by have := HSL.out; omega) (by have := HTL.out; omega) (by have := HSL.out; have := HTL.out; omega) HG.out; rw [HSL.out, HTL.out] at h; exact h)
          rcases (by omega : (k = nn ∧ nn = mn) ∨ (k = nn ∧ nn < mn) ∨ (k < nn ∧ k = mn)) with ⟨hkk, hnm⟩ | ⟨hkk, hnm⟩ | ⟨hkk, hnm⟩
          · have HL1 : Hid (lexL Lib.compareBytes x.nm y.nm = 0) := Lib.hid (by rw [HLE.out, lensI_zero]; exact hnm)
            have e9 : ((nn : Int) != (mn : Int)) = false := by simp; omega
            clear hlt HLE
            go_wp2_with (fail)
            go_loopw [6] (fun i wr => ∃ k : Nat, k ≤ np ∧ k ≤ mp ∧ i = .int .i64 k ∧ lexL cmpVal (x.ps.drop k) (y.ps.drop k) = lexL cmpVal x.ps y.ps ∧ Ext wa wr) (fun i _ => np - (intOf i).toNat)
            case atStart => exact ⟨0, Nat.zero_le _, Nat.zero_le _, rfl, rfl, HEr.out⟩
            case round =>
              clear a0 a1 a2 a3 b0 b1 b2 b3 lG HEr HG hkk hnm hkn hkm
              obtain ⟨k, hkn, hkm, rfl, hg, hE⟩ := hrel
              have HG := Lib.hid hg; clear hg
              obtain ⟨⟨a0, a1, a2, a3⟩, ⟨b0, b1, b2, b3⟩, lG⟩ := HX.out wr hE
              have HEr := Lib.hid hE; clear hE
              by_cases hlt : k < np ∧ k < mp
              · obtain ⟨hlt, hlm⟩ := hlt
                obtain ⟨p1, o1, rfl, hp1', hc1⟩ := HP.out (by omega)
                obtain ⟨p2, o2, rfl, hp2', hc2⟩ := HQ.out (by omega)
                have hx1 := List.getElem?_eq_getElem (show k < x.ps.length by have := HPL.out; omega)
                have hx2 := List.getElem?_eq_getElem (show k < y.ps.length by have := HQL.out; omega)
                obtain ⟨ds1, hd1, hu1, hr1⟩ := hc1 k _ hx1
                obtain ⟨ds2, hd2, hu2, hr2⟩ := hc2 k _ hx2
                have HST := Lib.hid (lexL_step hx1 hx2 HG.out)
                clear hx1 hx2 hc1 hc2
                generalize x.ps[k]'(by have := HPL.out; omega) = z1 at *
                generalize y.ps[k]'(by have := HQL.out; omega) = z2 at *
                obtain ⟨u0, u1, u2, u3, rfl⟩ : ∃ a b c d, ds1 = [a, b, c, d] := by
                  match ds1, hd1 with
                  | [a, b, c, d], _ => exact ⟨a, b, c, d, rfl⟩
                obtain ⟨v0, v1, v2, v3, rfl⟩ : ∃ a b c d, ds2 = [a, b, c, d] := by
                  match ds2, hd2 with
                  | [a, b, c, d], _ => exact ⟨a, b, c, d, rfl⟩
                have HEw : Hid (Ext w wr) := Lib.hid (by repeat (first | exact Ext.refl _ | refine Ext.drew ?_ | refine Ext.drewN ?_ _ | refine Ext.alloc ?_ _ | refine Ext.trans ?_ (Hid.out (by assumption))))
                have k0 := cell_regrown (show wr.cell? ⟨p1, o1 + k * 4, none⟩ = some u0 from HEw.out.cell (by simpa using hu1 0 _ rfl))
                have k1 := cell_regrown (show wr.cell? ⟨p1, o1 + k * 4 + 1, none⟩ = some u1 from HEw.out.cell (by simpa using hu1 1 _ rfl))
                have k2 := cell_regrown (show wr.cell? ⟨p1, o1 + k * 4 + 2, none⟩ = some u2 from HEw.out.cell (by simpa using hu1 2 _ rfl))
                have k3 := cell_regrown (show wr.cell? ⟨p1, o1 + k * 4 + 3, none⟩ = some u3 from HEw.out.cell (by simpa using hu1 3 _ rfl))
                have k4 := cell_regrown (show wr.cell? ⟨p2, o2 + k * 4, none⟩ = some v0 from HEw.out.cell (by simpa using hu2 0 _ rfl))
                have k5 := cell_regrown (show wr.cell? ⟨p2, o2 + k * 4 + 1, none⟩ = some v1 from HEw.out.cell (by simpa using hu2 1 _ rfl))
                have k6 := cell_regrown (show wr.cell? ⟨p2, o2 + k * 4 + 2, none⟩ = some v2 from HEw.out.cell (by simpa using hu2 2 _ rfl))
                have k7 := cell_regrown (show wr.cell? ⟨p2, o2 + k * 4 + 3, none⟩ = some v3 from HEw.out.cell (by simpa using hu2 3 _ rfl))
                have k8 := cell_regrown a2
                have k9 := cell_regrown b2
                obtain ⟨r, hr⟩ : ∃ r, cmpVal z1 z2 = r := ⟨_, rfl⟩
                have CE : Hid (∀ W, Ext wr W → Calls Tryz.prog 42 #[.agg #[u0, u1, u2, u3], .agg #[v0, v1, v2, v3]] W fun e w' => e = .returned (.int .i64 r) ∧ Ext W w') := Lib.hid (fun W hW => by
                  have := IH.out _ _ z1 z2 W (hr1.ext (HEw.out.trans hW)) (hr2.ext (HEw.out.trans hW))
                  rw [hr] at this
                  exact this)
                have HR := Lib.hid hr
                clear hr hr1 hr2 hd1 hd2 hu1 hu2
                have A2 := Lib.hid a2; have B2 := Lib.hid b2
                by_cases hz : r = 0
                · have HNX : Hid (lexL cmpVal (x.ps.drop (k + 1)) (y.ps.drop (k + 1)) = lexL cmpVal x.ps y.ps) := Lib.hid (by rw [← HST.out, HR.out, if_pos hz])
                  have ez : (r != 0) = false := by simp [hz]
                  clear hz
                  clear a0 a1 a3 b0 b1 b3
                  go_wp2_with (fail)
                  refine wp_region_ext (by kernel_rfl) (by kernel_rfl) ?_
                  repeat (go_big_quiet_step (first | (go_at_call 42; exact Calls.ext_of CE.out _ _)))
                  refine wpQuiet_nil ?_
                  intro w3 hE3
                  go_wp2_with (fail)
                  go_roundw
                  case rel => exact ⟨k + 1, by omega, by omega, by go_num, HNX.out, HEr.out.trans hE3⟩
                  case measure => simp [intOf]; omega
                · have HRT : Hid (cmpVal x y = r) := Lib.hid (by
                    have h1 : lexL cmpVal x.ps y.ps = r := by rw [← HST.out, HR.out, if_neg hz]
                    rw [HC.out, if_neg (fun h => h HN.out), if_neg (fun h => h HL1.out), h1, if_pos hz])
                  have ez : (r != 0) = true := by simpa using hz
                  clear hz
                  clear a0 a1 a3 b0 b1 b3
                  go_wp2_with (fail)
                  refine wp_region_ext (by kernel_rfl) (by kernel_rfl) ?_
                  repeat (go_big_quiet_step (first | (go_at_call 42; exact Calls.ext_of CE.out _ _)))
                  refine wpQuiet_nil ?_
                  intro w3 hE3
                  go_wp2_with (fail)
                  go_ret
                  exact ⟨by rw [HRT.out]; rfl, HEA.out.trans (HEr.out.trans hE3)⟩
              · have HLE : Hid (lexL cmpVal x.ps y.ps = lensI np mp) := Lib.hid (by have h := lexL_len_add cmpVal x.ps y.ps k (by have := HPL.out; omega) (by have := HQL.out; omega) (by have := HPL.out; have := HQL.out; omega) HG.out; rw [HPL.out, HQL.out] at h; exact h)
                rcases (by omega : (k = np ∧ np = mp) ∨ (k = np ∧ np < mp) ∨ (k < np ∧ k = mp)) with ⟨hkk, hnm⟩ | ⟨hkk, hnm⟩ | ⟨hkk, hnm⟩
                · have HL2 : Hid (lexL cmpVal x.ps y.ps = 0) := Lib.hid (by rw [HLE.out, lensI_zero]; exact hnm)
                  have e9 : ((np : Int) != (mp : Int)) = false := by simp; omega
                  clear hlt HLE
                  go_wp2_with (fail)
                  go_loopw [8] (fun i wr => ∃ k : Nat, k ≤ ne ∧ k ≤ nf ∧ i = .int .i64 k ∧ lexL cmpEn (x.es.drop k) (y.es.drop k) = lexL cmpEn x.es y.es ∧ Ext wa wr) (fun i _ => ne - (intOf i).toNat)
                  case atStart => exact ⟨0, Nat.zero_le _, Nat.zero_le _, rfl, rfl, HEr.out⟩
                  case round =>
                    clear a0 a1 a2 a3 b0 b1 b2 b3 lG HEr HG hkk hnm hkn hkm
                    obtain ⟨k, hkn, hkm, rfl, hg, hE⟩ := hrel
                    have HG := Lib.hid hg; clear hg
                    obtain ⟨⟨a0, a1, a2, a3⟩, ⟨b0, b1, b2, b3⟩, lG⟩ := HX.out wr hE
                    have HEr := Lib.hid hE; clear hE
                    by_cases hlt : k < ne ∧ k < nf
                    · obtain ⟨hlt, hlm⟩ := hlt
                      obtain ⟨p1, o1, z1, q1, rfl, hp1', hz1, c0, c1, hq1', hn1'⟩ := RdE.at_ (HEn.out.ext (by repeat (first | exact Ext.refl _ | refine Ext.drew ?_ | refine Ext.drewN ?_ _ | refine Ext.alloc ?_ _ | refine Ext.trans ?_ (Hid.out (by assumption)))) : RdE wr _ _) hlt
                      obtain ⟨p2, o2, z2, q2, rfl, hp2', hz2, c2, c3, hq2', hn2'⟩ := RdE.at_ (HFn.out.ext (by repeat (first | exact Ext.refl _ | refine Ext.drew ?_ | refine Ext.drewN ?_ _ | refine Ext.alloc ?_ _ | refine Ext.trans ?_ (Hid.out (by assumption)))) : RdE wr _ _) hlm
                      have HST := Lib.hid (lexL_step hz1 hz2 HG.out)
                      clear hz1 hz2 hn1' hn2'
                      have HQ1 := Lib.hid hq1'
                      have HQ2 := Lib.hid hq2'
                      obtain ⟨Aq1, cq1, rfl⟩ := hq1'.lenv
                      obtain ⟨Aq2, cq2, rfl⟩ := hq2'.lenv
                      clear hq1' hq2'
                      have k0 := cell_regrown c0
                      have k1 := cell_regrown c1
                      have k2 := cell_regrown c2
                      have k3 := cell_regrown c3
                      have k8 := cell_regrown a3
                      have k9 := cell_regrown b3
                      obtain ⟨r, hr⟩ : ∃ r, cmpEn z1 z2 = r := ⟨_, rfl⟩
                      have CE : Hid (∀ W, Ext wr W → Calls Tryz.prog 63 #[.agg #[.slice Aq1 z1.1.length cq1, encS z1.2], .agg #[.slice Aq2 z2.1.length cq2, encS z2.2]] W fun e w' => e = .returned (.int .i64 r) ∧ Ext W w') := Lib.hid (fun W hW => by
                        have := rcmpEntry_any _ _ z1 z2 W (HQ1.out.ext hW) (HQ2.out.ext hW)
                        rw [hr] at this
                        exact this)
                      have HR := Lib.hid hr
                      clear hr c0 c1 c2 c3
                      by_cases hz : r = 0
                      · have HNX : Hid (lexL cmpEn (x.es.drop (k + 1)) (y.es.drop (k + 1)) = lexL cmpEn x.es y.es) := Lib.hid (by rw [← HST.out, HR.out, if_pos hz])
                        have ez : (r != 0) = false := by simp [hz]
                        clear hz
                        clear a0 a1 a2 b0 b1 b2
                        go_wp2_with (fail)
                        refine wp_region_ext (by kernel_rfl) (by kernel_rfl) ?_
                        repeat (go_big_quiet_step (first | (go_at_call 63; exact Calls.ext_of CE.out _ _)))
                        refine wpQuiet_nil ?_
                        intro w3 hE3
                        go_wp2_with (fail)
                        go_roundw
                        case rel => exact ⟨k + 1, by omega, by omega, by go_num, HNX.out, HEr.out.trans hE3⟩
                        case measure => simp [intOf]; omega
                      · have HRT : Hid (cmpVal x y = r) := Lib.hid (by
                          have h1 : lexL cmpEn x.es y.es = r := by rw [← HST.out, HR.out, if_neg hz]
                          rw [HC.out, if_neg (fun h => h HN.out), if_neg (fun h => h HL1.out), if_neg (fun h => h HL2.out), h1])
                        have ez : (r != 0) = true := by simpa using hz
                        clear hz
                        clear a0 a1 a2 b0 b1 b2
                        go_wp2_with (fail)
                        refine wp_region_ext (by kernel_rfl) (by kernel_rfl) ?_
                        repeat (go_big_quiet_step (first | (go_at_call 63; exact Calls.ext_of CE.out _ _)))
                        refine wpQuiet_nil ?_
                        intro w3 hE3
                        go_wp2_with (fail)
                        go_ret
                        exact ⟨by rw [HRT.out]; rfl, HEA.out.trans (HEr.out.trans hE3)⟩
                    · have HLE : Hid (lexL cmpEn x.es y.es = lensI ne nf) := Lib.hid (by have h := lexL_len_add cmpEn x.es y.es k (by have := HEL.out; omega) (by have := HFL.out; omega) (by have := HEL.out; have := HFL.out; omega) HG.out; rw [HEL.out, HFL.out] at h; exact h)
                      rcases (by omega : k = ne ∨ (k < ne ∧ k = nf)) with hkk | ⟨hkk, hnm⟩
                      · have HRT : Hid (cmpVal x y = lensI ne nf) := Lib.hid (by
                          rw [HC.out, if_neg (fun h => h HN.out), if_neg (fun h => h HL1.out), if_neg (fun h => h HL2.out), HLE.out])
                        clear hlt
                        go_wp2_with (go_at_call 62; refine (lengths_any ne nf _).mono ?_; rintro e w1 ⟨rfl, rfl⟩)
                        go_ret
                        exact ⟨by rw [HRT.out]; rfl, HEA.out.trans HEr.out⟩
                      · have HRT : Hid (cmpVal x y = lensI ne nf) := Lib.hid (by
                          rw [HC.out, if_neg (fun h => h HN.out), if_neg (fun h => h HL1.out), if_neg (fun h => h HL2.out), HLE.out])
                        clear hlt
                        go_wp2_with (go_at_call 62; refine (lengths_any ne nf _).mono ?_; rintro e w1 ⟨rfl, rfl⟩)
                        go_ret
                        exact ⟨by rw [HRT.out]; rfl, HEA.out.trans HEr.out⟩
                · have HRT : Hid (cmpVal x y = lensI np mp) := Lib.hid (by
                    have h2 : lensI np mp ≠ 0 := fun h => by have := (lensI_zero _ _).1 h; omega
                    rw [← HLE.out] at h2
                    rw [HC.out, if_neg (fun h => h HN.out), if_neg (fun h => h HL1.out), if_pos h2, HLE.out]
                    )
                  clear hlt
                  have e2 : ((np : Int) != (mp : Int)) = true := by simp; omega
                  go_wp2_with (go_at_call 62; refine (lengths_any np mp _).mono ?_; rintro e w1 ⟨rfl, rfl⟩)
                  go_ret
                  exact ⟨by rw [HRT.out]; rfl, HEA.out.trans HEr.out⟩
                · have HRT : Hid (cmpVal x y = lensI np mp) := Lib.hid (by
                    have h2 : lensI np mp ≠ 0 := fun h => by have := (lensI_zero _ _).1 h; omega
                    rw [← HLE.out] at h2
                    rw [HC.out, if_neg (fun h => h HN.out), if_neg (fun h => h HL1.out), if_pos h2, HLE.out]
                    )
                  clear hlt
                  have e2 : ((np : Int) != (mp : Int)) = true := by simp; omega
                  go_wp2_with (go_at_call 62; refine (lengths_any np mp _).mono ?_; rintro e w1 ⟨rfl, rfl⟩)
                  go_ret
                  exact ⟨by rw [HRT.out]; rfl, HEA.out.trans HEr.out⟩
          · have HRT : Hid (cmpVal x y = lensI nn mn) := Lib.hid (by
              have h2 : lensI nn mn ≠ 0 := fun h => by have := (lensI_zero _ _).1 h; omega
              rw [← HLE.out] at h2
              rw [HC.out, if_neg (fun h => h HN.out), if_pos h2, HLE.out]
              )
            clear hlt
            have e2 : ((nn : Int) != (mn : Int)) = true := by simp; omega
            go_wp2_with (go_at_call 62; refine (lengths_any nn mn _).mono ?_; rintro e w1 ⟨rfl, rfl⟩)
            go_ret
            exact ⟨by rw [HRT.out]; rfl, HEA.out.trans HEr.out⟩
          · have HRT : Hid (cmpVal x y = lensI nn mn) := Lib.hid (by
              have h2 : lensI nn mn ≠ 0 := fun h => by have := (lensI_zero _ _).1 h; omega
              rw [← HLE.out] at h2
              rw [HC.out, if_neg (fun h => h HN.out), if_pos h2, HLE.out]
              )
            clear hlt
            have e2 : ((nn : Int) != (mn : Int)) = true := by simp; omega
            go_wp2_with (go_at_call 62; refine (lengths_any nn mn _).mono ?_; rintro e w1 ⟨rfl, rfl⟩)
            go_ret
            exact ⟨by rw [HRT.out]; rfl, HEA.out.trans HEr.out⟩
    · have e0 : (x.N != y.N) = true := by simpa using hN
      have HT : Hid (cmpVal x y = signI (decide (x.N < y.N))) := Lib.hid (by rw [HC.out, if_pos hN])
      clear hN
      go_wp2_with (go_at_call 61; refine (sign_any (decide (x.N < y.N)) _).mono ?_; rintro e w1 ⟨rfl, rfl⟩)
      go_ret
      exact ⟨by rw [HT.out]; rfl, HEA.out⟩
end Go.Proofs.YthldgioggjpnpaaGreat
