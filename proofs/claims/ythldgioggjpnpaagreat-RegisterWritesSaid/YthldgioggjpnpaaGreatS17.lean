/-
  Contracts: the reference's Inc of clocks and Write of registers.
-/
import Derived.Test.YthldgioggjpnpaaGreatS16
namespace Go.Proofs.YthldgioggjpnpaaGreat
open Go.RowKit

theorem tabT_all (c : List Tk) (k : Nat) (m : Int) (hm : getT c (k : Int) = m) (h0 : ∀ j : Nat, 0 ≤ getT c (j : Int)) : ∀ (n lo : Nat), tabT maxF c [((k : Int), m + 1)] lo n = (List.range n).map (fun j => if lo + j = k then m + 1 else getT c ((lo + j : Nat) : Int))
  | 0, _ => rfl
  | n + 1, lo => by
    rw [tabT_succ, tabT_all c k m hm h0 n (lo + 1), List.range_succ_eq_map, List.map_cons, List.map_map]
    congr 1
    · simp only [Nat.add_zero, getT]
      by_cases h : lo = k
      · subst h
        rw [if_pos rfl, if_pos rfl, hm]
        unfold maxF; omega
      · rw [if_neg (by omega), if_neg h]
        have := h0 lo
        unfold maxF
        omega
    · refine List.map_congr_left fun j _ => ?_
      simp only [Function.comp]
      rw [show lo + 1 + j = lo + (j + 1) by omega]
theorem inc_eq {c : List Tk} (hc : validT c = true) (k : Nat) (hk : k ≤ 63) (m : Int) (hm : getT c (k : Int) = m) (hmx : m ≠ 1000000000000000) :
    ofT 0 ((allT c 64).set k (m + 1)) = walkT maxF c [((k : Int), m + 1)] := by
  have h0 : ∀ j : Nat, 0 ≤ getT c (j : Int) := fun j => (goodF_get hc _).1
  have hm0 : 0 ≤ m := by rw [← hm]; exact h0 k
  have hm1 : m ≤ 1000000000000000 := by rw [← hm]; exact (goodF_get hc _).2
  have hb : goodF (-1) [((k : Int), m + 1)] = true := by
    simp only [okTk, goodF, Bool.and_true, Bool.and_eq_true, decide_eq_true_eq]
    omega
  rw [walkT_tab maxF (by unfold maxF; omega) 64 0 c [((k : Int), m + 1)] rfl hc hb, tabT_all c k m hm h0]
  congr 1
  apply List.ext_getElem?
  intro i
  by_cases hi : i < 64
  · rw [List.getElem?_map, List.getElem?_range hi, Option.map_some, List.getElem?_set]
    by_cases hik : k = i
    · subst hik
      rw [if_pos rfl, if_pos (by rw [allT_len]; exact hi), if_pos (by omega)]
    · rw [if_neg hik, allT_at c i hi, if_neg (by omega), Nat.zero_add]
  · rw [List.getElem?_eq_none (by rw [List.length_set, allT_len]; omega), List.getElem?_eq_none (by simp; omega)]

/-- what the reference's Inc returns -/
def incW (c : List Tk) (p : Int) : Int × List Tk := if getT c p = 1000000000000000 then (6, []) else (0, walkT maxF c [(p, getT c p + 1)])

set_option maxRecDepth 100000 in
set_option maxHeartbeats 2000000 in
theorem rinc_any (v : Value) (c : List Tk) (k : Nat) (w : World) (h : RdT w v c) (hc : validT c = true) (hk : k ≤ 63) :
    Calls Tryz.prog 41 #[v, .int .i64 (k : Int)] w fun e w' => ∃ u, e = .returned (.tuple #[u, .int .i64 (incW c (k : Int)).1]) ∧ RdT w' u (incW c (k : Int)).2 ∧ Ext w w' := by
  have H := Lib.hid h
  have HC := Lib.hid hc; clear hc
  obtain ⟨A, n, cc, rfl, -⟩ := h
  have hk0 : ¬ ((k : Int) < 0) := by omega
  have hk1 : ¬ ((63 : Int) < (k : Int)) := by omega
  have hd1 : decide ((63 : Int) < (k : Int)) = false := decide_eq_false hk1
  obtain ⟨m, hm⟩ : ∃ m, getT c (k : Int) = m := ⟨_, rfl⟩
  have HM := Lib.hid hm; clear hm
  have HB := Lib.hid (goodF_get HC.out (k : Int))
  rw [HM.out] at HB
  go_enter Tryz.func41, Tryz.ntmps41
  go_upto_region 4 with (first
    | (go_at_call 58; refine (rvalid_any _ c _ H.out).mono ?_; rintro e w1 ⟨rfl, hE1⟩; rw [HC.out]; have HE1 := Lib.hid hE1; clear hE1)
    | (go_at_call 59; refine (rall2_any _ c _ (H.out.ext (by repeat (first | exact Ext.refl _ | refine Ext.drew ?_ | refine Ext.drewN ?_ _ | refine Ext.alloc ?_ _ | refine Ext.trans ?_ (Hid.out (by assumption))))) HC.out).mono ?_; rintro e w2 ⟨g, cap, rfl, hg, hgl, ⟨hc1, hc2⟩, hO, hE2⟩; have HO := Lib.hid hO; clear hO; have HE2 := Lib.hid hE2; clear hE2))
  have HG : Hid (w.heap.size ≤ g) := Lib.hid (Nat.le_trans HE1.out.size hg)
  clear hg
  unfold maxLen at hc2
  have c0 : w2.cell? ⟨g, k, none⟩ = some (.int .i64 m) := HO.out.at_ (allT_len c 64).symm (by rw [allT_at c k (by omega), HM.out])
  have f0 := HO.out.thaw (allT_len c 64).symm k
  by_cases hmx : m = 1000000000000000
  · subst hmx
    go_wp2_with (fail)
    go_ret2
    have e : incW c (k : Int) = (6, []) := by unfold incW; rw [if_pos HM.out]
    rw [e]
    exact ⟨_, rfl, RdN.none_ rfl (by unfold maxLen; omega), (by repeat (first | exact Ext.refl _ | refine Ext.drew ?_ | refine Ext.drewN ?_ _ | refine Ext.alloc ?_ _ | refine Ext.trans ?_ (Hid.out (by assumption))))⟩
  · have e0 : (m == 1000000000000000) = false := by simpa using hmx
    have hmb := HB.out
    have hw1 : IntKind.i64.wrap (m + 1) = m + 1 := IntWalk.i64_in _ (by omega)
    have HO2 : Hid (Own (w2.setCell ⟨g, k, none⟩ (.int .i64 (m + 1))) w1.heap.size 2 encN (.slice (some ⟨g, 0, none⟩) 64 cap) ((allT c 64).set k (m + 1))) := Lib.hid (HO.out.set_ (allT_len c 64).symm k (m + 1))
    have HE3 : Hid (Ext w (w2.setCell ⟨g, k, none⟩ (.int .i64 (m + 1)))) := Lib.hid ((HE1.out.trans HE2.out).setCell (p := ⟨g, k, none⟩) HG.out _)
    have HMX := Lib.hid hmx; clear hmx hmb
    go_wp2_with (go_at_call 60; refine (rof_any _ _ _ HO2.out.rd (by rw [List.length_set, allT_len]; omega)).mono ?_; rintro e w4 ⟨u4, rfl, hO4, hE4⟩; have HO4 := Lib.hid hO4; have HE4 := Lib.hid hE4; clear hO4 hE4)
    go_ret2
    have e : incW c (k : Int) = (0, ofT 0 ((allT c 64).set k (m + 1))) := by unfold incW; rw [HM.out, if_neg HMX.out, inc_eq HC.out k hk m HM.out HMX.out]
    rw [e]
    exact ⟨_, rfl, HO4.out.rdN (fun _ => rfl), HE3.out.trans HE4.out⟩
end Go.Proofs.YthldgioggjpnpaaGreat
