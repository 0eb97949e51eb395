/-
  Contract: closure.Entails.
-/
import Derived.Test.YthgplaledmccgaaW10
import Derived.StillTailTactics
namespace Go.Proofs.Ythgplaledmccgaa
open Go.RowKit

set_option maxRecDepth 100000 in
set_option maxHeartbeats 400000 in
theorem entails1_any (i N : Nat) (bn : Nat) (w : World) (hb : w.cell? ⟨bn, 0, none⟩ = some (.int .i64 (N : Int))) :
    Calls Try.prog 51 #[.int .i64 (i : Int), .pointer (some ⟨bn, 0, none⟩)] w fun e w' => e = .returned (.bool (decide (i < N))) ∧ w = w' := by
  go_enter Try.func51, Try.ntmps51
  go_wp2_with (fail)
  go_ret
  exact ⟨ret_bool (by simp), rfl⟩
theorem entails1_use (N m bn : Nat) (w : World) (hb : w.cell? ⟨bn, 0, none⟩ = some (.int .i64 (N : Int))) :
    UseAt Try.prog (.func (.func 51) #[] #[.pointer (some ⟨bn, 0, none⟩)]) m (fun i => decide (i < N)) w :=
  ⟨_, _, rfl, fun _ _ => by kernel_rfl, fun W i hE _ => entails1_any i N bn W (hE.cell hb)⟩

def entE (u : List Nm) (rs : List RuleN) (r : RuleN) : Int := if checkE u rs = 0 then ruleE u r else checkE u rs
def entB (u : List Nm) (rs : List RuleN) (r : RuleN) : Bool :=
  (chainB (rs.map (toHorn u) ++ [toHorn u r]) (fun i => decide (i < rs.length)) (setOf u.length (toHorn u r).1)).1.getD (toHorn u r).2 false
theorem rulesE_one (u : List Nm) (r : RuleN) : rulesE u [r] = ruleE u r := by
  unfold rulesE
  by_cases h : ruleE u r = 0
  · rw [if_pos h, h]; rfl
  · rw [if_neg h]

set_option maxRecDepth 100000 in
set_option maxHeartbeats 1000000 in
theorem entails_ok (vu vs vf : Value) (u : List Nm) (rs : List RuleN) (r : RuleN) (w : World) (hu : InU w vu u) (hr : InR w vs rs) (hl : RdS w vf r.1) (h0 : entE u rs r = 0) (hsz : rs.length ≤ 1000000) (hsf : r.1.length ≤ 1048576) :
    Calls Try.prog 22 #[vu, vs, .agg #[vf, encS r.2]] w fun e w' => e = .returned (.tuple #[.bool (entB u rs r), .int .i64 0]) ∧ Ext w w' := by
  have hc0 : checkE u rs = 0 := by
    unfold entE at h0
    by_cases h : checkE u rs = 0
    · exact h
    · rw [if_neg h] at h0; exact absurd h0 h
  have hs0 : ruleE u r = 0 := by unfold entE at h0; rwa [if_pos hc0] at h0
  have HU := Lib.hid hu; clear hu
  have HR := Lib.hid hr; clear hr
  have HL := Lib.hid hl
  have hok := ruleE_ok.1 hs0
  have HOK := Lib.hid hok; clear hok
  have HC0 := Lib.hid hc0; clear hc0
  have HS0 := Lib.hid hs0; clear hs0 h0
  obtain ⟨Af, nf, cf, rfl, -⟩ := hl
  go_enter Try.func22, Try.ntmps22
  go_wp2_with (fail)
  refine (parse_ok _ _ u rs _ (HU.out.ext ((Ext.refl _).alloc _)) (HR.out.ext ((Ext.refl _).alloc _)) HC0.out).mono ?_
  rintro e w1 ⟨b, vu', vr, rfl, hS⟩
  have hb5 : w1.cell? ⟨w.heap.size, 0, none⟩ = some (.slice Af nf cf) := hS.ext.cell ((Blk.new _ _ _).cell 0)
  have hb6 : w1.cell? ⟨w.heap.size, 1, none⟩ = some (encS r.2) := hS.ext.cell ((Blk.new _ _ _).cell 1)
  have hbl5 := World.block_lt_of_cell? _ _ hb5
  simp only at hbl5
  have hb1 : b < w1.heap.size := hS.blk.lt
  have hcr := hS.read.cr
  have hrh := hS.read.rh
  obtain ⟨Ar, nr, cr, rfl, hln, -⟩ := hrh
  have hE1 : Ext w w1 := ((Ext.refl w).alloc _).trans hS.ext
  have HE1 := Lib.hid hE1; clear hE1
  have HS := Lib.hid hS; clear hS
  have HLN := Lib.hid hln; clear hln
  go_wp2_with (fail)
  refine Calls.mono (add_any _ b vu' _ _ u (rs.map (toHorn u)) [r] _ (HS.out.later (((Ext.refl _).alloc _).alloc _)) [(w1.heap.size, 3, #[.int .i64 (nr : Int)]), (w1.heap.size + 1, 35, #[.slice Af nf cf, encS r.2])] ?_ ?_ ?_ ?_ ?_) ?_
  · intro p hp
    simp only [List.mem_cons, List.not_mem_nil, or_false] at hp
    rcases hp with rfl | rfl <;> simp
  · intro p hp
    simp only [List.mem_cons, List.not_mem_nil, or_false] at hp
    rcases hp with rfl | rfl
    · exact (Blk.new _ _ _).alloc _
    · exact Blk.new' _ _ _ _ (by simp)
  · intro W hE hX
    have hB := hX _ (List.mem_cons_of_mem _ (List.mem_cons_self ..))
    refine ⟨_, _, _, rfl, rfl, Nat.le_refl _, by decide, fun _ => ⟨_, 0, rfl, hB.lt, fun j x hj => ?_⟩⟩
    have hj0 : j = 0 := by
      have := (List.getElem?_eq_some_iff.1 hj).1
      simp at this; exact this
    subst hj0
    simp only [List.getElem?_cons_zero, Option.some.injEq] at hj
    subst hj
    exact ⟨_, hB.cell 0, hB.cell 1, HL.out.ext (((Ext.refl w).alloc _).trans hE)⟩
  · simp; omega
  · intro x hx; rw [List.mem_singleton] at hx; rw [hx]; exact hsf
  rintro e w2 ⟨rfl, hE2, hS2⟩
  rw [rulesE_one] at hS2 ⊢
  rw [HS0.out]
  obtain ⟨vr2, hS2, hX2⟩ := hS2 HS0.out
  have hn2 := (hX2 _ (List.mem_cons_self ..)).cell 0
  simp only [List.getElem?_toArray, List.getElem?_cons_zero] at hn2
  have hnl2 : w1.heap.size < w2.heap.size := World.block_lt_of_cell? _ _ hn2
  have hR2 := hS2.read
  have HE2 := Lib.hid hE2; clear hE2
  clear hX2 hb1 hcr hb5 hb6 hbl5
  have HS2 := Lib.hid hS2; clear hS2
  have hcr2 := hR2.cr
  have hbl2 : b < w2.heap.size := World.block_lt_of_cell? _ _ hcr2
  have hrh2 := hR2.rh
  have HR2 := Lib.hid hR2; clear hR2
  obtain ⟨A2, m2, c2, rfl, hlm, hmc, hcm2, hcell2⟩ := hrh2
  have hnr : nr < m2 := by
    have := HLN.out
    simp at this hlm
    omega
  obtain ⟨b2, off2, rfl, hbb2, hcc⟩ := hcell2 (by omega)
  have hget : (rs.map (toHorn u) ++ [toHorn u r])[nr]? = some (toHorn u r) := by
    have := HLN.out
    rw [List.getElem?_append_right (by omega)]
    simp at this
    simp [← this]
  obtain ⟨q, hq1, hq2, hq3⟩ := hcc nr _ (by simpa using hget)
  clear hcell2 hcc hlm hget
  have HQ3 := Lib.hid hq3
  obtain ⟨Aq, nq, cq, rfl, -⟩ := hq3
  unfold maxLen at hcm2
  go_wp2_with (fail)
  go_still_tail 18, (by kernel_rfl)
  go_wp2_with (fail)
  have hnr' : nr = rs.length := by have := HLN.out; simpa using this.symm
  have hok2 := okH_of HR2.out.asc (rs := [r]) (by intro x hx; rw [List.mem_singleton] at hx; rw [hx]; exact HOK.out)
  have hokr := hok2 (toHorn u r) (by simp)
  refine (entailed_any b vu' _ _ _ u (rs.map (toHorn u) ++ [toHorn u r]) (toHorn u r).1 (toHorn u r).2 (fun i => decide (i < rs.length)) _ (HR2.out.ext (Ext.refl _).drew) (HQ3.out.ext (Ext.refl _).drew) hokr.2 hokr.1 (entails1_use rs.length _ _ _ (by rw [← hnr']; exact hn2))).mono ?_
  rintro e w3 ⟨rfl, hE3⟩
  have HE3 := Lib.hid hE3; clear hE3 hok2 hokr
  have hfin : entB u rs r = (chainB (rs.map (toHorn u) ++ [toHorn u r]) (fun i => decide (i < rs.length)) (setOf u.length (toHorn u r).1)).1.getD (toHorn u r).2 false := rfl
  rw [← hfin]
  clear hfin
  go_wp2_with (fail)
  go_ret2
  exact ⟨rfl, (((Ext.refl w).alloc _).trans HE2.out).drew.trans HE3.out⟩

set_option maxRecDepth 100000 in
set_option maxHeartbeats 1000000 in
theorem entails_err (vu vs vf : Value) (u : List Nm) (rs : List RuleN) (r : RuleN) (w : World) (hu : InU w vu u) (hr : InR w vs rs) (hl : RdS w vf r.1) (h0 : entE u rs r ≠ 0) (hsz : rs.length ≤ 1000000) (hsf : r.1.length ≤ 1048576) :
    Calls Try.prog 22 #[vu, vs, .agg #[vf, encS r.2]] w fun e w' => e = .returned (.tuple #[.bool false, .int .i64 (entE u rs r)]) ∧ Ext w w' := by
  have HU := Lib.hid hu; clear hu
  have HR := Lib.hid hr; clear hr
  have HL := Lib.hid hl
  obtain ⟨Af, nf, cf, rfl, -⟩ := hl
  by_cases hc0 : checkE u rs = 0
  · have he : entE u rs r = ruleE u r := by unfold entE; rw [if_pos hc0]
    rw [he] at h0 ⊢
    have HC0 := Lib.hid hc0; clear hc0 he
    have hzb : (ruleE u r != 0) = true := by simpa using h0
    have H0 := Lib.hid h0; clear h0
    go_enter Try.func22, Try.ntmps22
    go_wp2_with (fail)
    refine (parse_ok _ _ u rs _ (HU.out.ext ((Ext.refl _).alloc _)) (HR.out.ext ((Ext.refl _).alloc _)) HC0.out).mono ?_
    rintro e w1 ⟨b, vu', vr, rfl, hS⟩
    have hb5 : w1.cell? ⟨w.heap.size, 0, none⟩ = some (.slice Af nf cf) := hS.ext.cell ((Blk.new _ _ _).cell 0)
    have hb6 : w1.cell? ⟨w.heap.size, 1, none⟩ = some (encS r.2) := hS.ext.cell ((Blk.new _ _ _).cell 1)
    have hbl5 := World.block_lt_of_cell? _ _ hb5
    simp only at hbl5
    have hb1 : b < w1.heap.size := hS.blk.lt
    have hcr := hS.read.cr
    have hrh := hS.read.rh
    obtain ⟨Ar, nr, cr, rfl, hln, -⟩ := hrh
    have HS := Lib.hid hS; clear hS hln
    go_wp2_with (fail)
    refine Calls.mono (add_any _ b vu' _ _ u (rs.map (toHorn u)) [r] _ (HS.out.later (((Ext.refl _).alloc _).alloc _)) [(w1.heap.size + 1, 35, #[.slice Af nf cf, encS r.2])] ?_ ?_ ?_ ?_ ?_) ?_
    · intro p hp
      simp only [List.mem_cons, List.not_mem_nil, or_false] at hp
      rcases hp with rfl
      simp
    · intro p hp
      simp only [List.mem_cons, List.not_mem_nil, or_false] at hp
      rcases hp with rfl
      exact Blk.new' _ _ _ _ (by simp)
    · intro W hE hX
      have hB := hX _ (List.mem_cons_self ..)
      refine ⟨_, _, _, rfl, rfl, Nat.le_refl _, by decide, fun _ => ⟨_, 0, rfl, hB.lt, fun j x hj => ?_⟩⟩
      have hj0 : j = 0 := by
        have := (List.getElem?_eq_some_iff.1 hj).1
        simp at this; exact this
      subst hj0
      simp only [List.getElem?_cons_zero, Option.some.injEq] at hj
      subst hj
      exact ⟨_, hB.cell 0, hB.cell 1, HL.out.ext (((Ext.refl w).alloc _).trans hE)⟩
    · simp; omega
    · intro x hx; rw [List.mem_singleton] at hx; rw [hx]; exact hsf
    rintro e w2 ⟨rfl, hE2, -⟩
    rw [rulesE_one]
    have HE2 := Lib.hid hE2; clear hE2
    clear hb1 hcr hb5 hb6 hbl5
    go_wp2_with (fail)
    go_ret2
    exact ⟨rfl, ((Ext.refl w).alloc _).trans HE2.out⟩
  · have he : entE u rs r = checkE u rs := by unfold entE; rw [if_neg hc0]
    rw [he] at h0 ⊢
    clear he hc0
    have hzb : (checkE u rs != 0) = true := by simpa using h0
    have H0 := Lib.hid h0; clear h0
    go_enter Try.func22, Try.ntmps22
    go_wp2_with (fail)
    refine (parse_err _ _ u rs _ (HU.out.ext ((Ext.refl _).alloc _)) (HR.out.ext ((Ext.refl _).alloc _)) H0.out).mono ?_
    rintro e w1 ⟨rfl, hE⟩
    have HE := Lib.hid hE; clear hE
    go_wp2_with (fail)
    go_ret2
    exact ⟨rfl, ((Ext.refl w).alloc _).trans HE.out⟩
end Go.Proofs.Ythgplaledmccgaa
