/-
  Contracts: the comparison of lists of entries; value.Compare at values with entries alone; the sort of entries.
-/
import Derived.Test.YthldgioggjpnpaaGreatR9
namespace Go.Proofs.YthldgioggjpnpaaGreat
open Go.RowKit

def cmpEs : List En → List En → Int
  | [], [] => 0
  | [], _ :: _ => -1
  | _ :: _, [] => 1
  | t :: a, u :: b => if cmpEn t u = 0 then cmpEs a b else cmpEn t u

theorem eg_cmpEntry : ∀ args w, (callFunc 122 args).run Tryz.prog w = .ok (.enter 122 args) w := fun _ _ => by kernel_rfl

set_option maxRecDepth 100000 in
set_option maxHeartbeats 1000000 in
theorem cmpEntries_any (va vb : Value) (a b : List En) (w : World) (ha : RdE w va a) (hb : RdE w vb b) :
    Calls Tryz.prog 148 #[va, vb, .func (.func 122) #[] #[]] w fun e w' => e = .returned (.int .i64 (cmpEs a b)) ∧ Ext w w' := by
  have HA := Lib.hid ha
  have HB := Lib.hid hb
  obtain ⟨A, na, ca, rfl, hla, hnca, hcma, -⟩ := ha
  obtain ⟨B, nb, cb, rfl, hlb, hncb, hcmb, -⟩ := hb
  unfold maxLen at hcma hcmb
  have HLA := Lib.hid hla; clear hla
  have HLB := Lib.hid hlb; clear hlb
  have hen := eg_cmpEntry
  go_enter Tryz.func148, Tryz.ntmps148
  go_wp2_with (fail)
  go_loopw [13] (fun i wr => ∃ k : Nat, k ≤ na ∧ k ≤ nb ∧ i = .int .i64 k ∧ cmpEs (a.drop k) (b.drop k) = cmpEs a b ∧ Ext w wr) (fun i _ => na - (intOf i).toNat)
  case atStart => exact ⟨0, Nat.zero_le _, Nat.zero_le _, rfl, rfl, Ext.refl _⟩
  case round =>
    obtain ⟨k, hka, hkb, rfl, hg, hE⟩ := hrel
    have HG := Lib.hid hg; clear hg
    have HE := Lib.hid hE; clear hE
    by_cases hlt : k < na
    · obtain ⟨b1, o1, t, q1, rfl, hb1, ht, c0, c1, hq1, -⟩ := RdE.at_ (HA.out.ext HE.out) hlt
      have hda : a.drop k = t :: a.drop (k + 1) := by
        obtain ⟨hk', rfl⟩ := List.getElem?_eq_some_iff.1 ht
        exact List.drop_eq_getElem_cons hk'
      have HDA := Lib.hid hda; clear hda ht
      by_cases hlb : k < nb
      · obtain ⟨b2, o2, u, q2, rfl, hb2, hu, d0, d1, hq2, -⟩ := RdE.at_ (HB.out.ext HE.out) hlb
        have hdb : b.drop k = u :: b.drop (k + 1) := by
          obtain ⟨hk', rfl⟩ := List.getElem?_eq_some_iff.1 hu
          exact List.drop_eq_getElem_cons hk'
        have HDB := Lib.hid hdb; clear hdb hu
        have HQ1 := Lib.hid hq1
        have HQ2 := Lib.hid hq2
        obtain ⟨A1, n1, k1, rfl⟩ := hq1.slice
        obtain ⟨A2, n2, k2, rfl⟩ := hq2.slice
        clear hq1 hq2
        have HC : Hid (∀ W, Ext wr W → Calls Tryz.prog 122 #[.agg #[.slice A1 n1 k1, encS t.2], .agg #[.slice A2 n2 k2, encS u.2]] W fun e w' => e = .returned (.int .i64 (cmpEn t u)) ∧ Ext W w') := Lib.hid (fun W hW => cmpEntry_any _ _ t u W (HQ1.out.ext hW) (HQ2.out.ext hW))
        obtain ⟨r, hr⟩ : ∃ r, cmpEn t u = r := ⟨_, rfl⟩
        rw [hr] at HC
        have HR := Lib.hid hr; clear hr
        have hw1 : b1 < (wr.alloc (.cells #[.slice none 0 0, .string ⟨#[]⟩] 64)).heap.size := by simp; omega
        have hw2 : b2 < (wr.alloc (.cells #[.slice A1 n1 k1, encS t.2] 64)).heap.size := by simp; omega
        have hw3 : b2 < ((wr.alloc (.cells #[.slice A1 n1 k1, encS t.2] 64)).alloc (.cells #[.slice none 0 0, .string ⟨#[]⟩] 64)).heap.size := by simp; omega
        by_cases hr0 : r = 0
        · have HR0 := Lib.hid hr0
          have e0 : (r != 0) = false := by simpa using hr0
          go_wp2_with (fail)
          refine (HC.out _ (((Ext.refl _).alloc _).alloc _)).mono ?_
          rintro e w2 ⟨rfl, hE2⟩
          have HE2 := Lib.hid (((HE.out.alloc _).alloc _).trans hE2); clear hE2
          go_wp2_with (fail)
          go_roundw
          case rel => exact ⟨k + 1, by omega, by omega, by go_num, by rw [← HG.out, HDA.out, HDB.out, cmpEs, HR.out, if_pos HR0.out], HE2.out⟩
          case measure => simp [intOf]; omega
        · have HR0 := Lib.hid hr0
          have e0 : (r != 0) = true := by simpa using hr0
          go_wp2_with (fail)
          refine (HC.out _ (((Ext.refl _).alloc _).alloc _)).mono ?_
          rintro e w2 ⟨rfl, hE2⟩
          have HE2 := Lib.hid (((HE.out.alloc _).alloc _).trans hE2); clear hE2
          go_wp2_with (fail)
          go_ret
          refine ⟨?_, HE2.out⟩
          rw [← HG.out, HDA.out, HDB.out, cmpEs, HR.out, if_neg HR0.out]
          rfl
      · have hdb : b.drop k = [] := List.drop_of_length_le (by have := HLB.out; omega)
        have HDB := Lib.hid hdb; clear hdb
        obtain ⟨A1, n1, k1, rfl⟩ := hq1.slice
        clear hq1
        have hw1 : b1 < (wr.alloc (.cells #[.slice none 0 0, .string ⟨#[]⟩] 64)).heap.size := by simp; omega
        go_wp2_with (fail)
        go_ret
        refine ⟨?_, HE.out.alloc _⟩
        rw [← HG.out, HDA.out, HDB.out]
        rfl
    · have hda : a.drop k = [] := List.drop_of_length_le (by have := HLA.out; omega)
      have HDA := Lib.hid hda; clear hda
      by_cases hlb : na < nb
      · have HDB : Hid (∃ u r, b.drop k = u :: r) := Lib.hid (by
          have : k < b.length := by have := HLB.out; omega
          exact ⟨_, _, List.drop_eq_getElem_cons this⟩)
        go_wp2_with (fail)
        go_ret
        refine ⟨?_, HE.out⟩
        obtain ⟨u, r, h⟩ := HDB.out
        rw [← HG.out, HDA.out, h]
        rfl
      · have hdb : b.drop k = [] := List.drop_of_length_le (by have := HLB.out; omega)
        have HDB := Lib.hid hdb; clear hdb
        go_wp2_with (fail)
        go_ret
        refine ⟨?_, HE.out⟩
        rw [← HG.out, HDA.out, HDB.out]
        rfl


set_option maxRecDepth 100000 in
set_option maxHeartbeats 1000000 in
theorem cmpNamesNil (w : World) : Calls Tryz.prog 146 #[nilS, nilS] w fun e w' => e = .returned (.int .i64 0) ∧ w = w' := by
  go_enter Tryz.func146, Tryz.ntmps146
  go_wp2
  go_loop [11] (fun i => i = .int .i64 0) (fun _ => 0)
  case atStart => exact rfl
  case round =>
    obtain rfl := hrel
    go_wp2
    go_ret
    exact ⟨rfl, rfl⟩
set_option maxRecDepth 100000 in
set_option maxHeartbeats 1000000 in
theorem cmpPartsNil (w : World) : Calls Tryz.prog 147 #[nilS, nilS, .func (.func 112) #[] #[]] w fun e w' => e = .returned (.int .i64 0) ∧ w = w' := by
  go_enter Tryz.func147, Tryz.ntmps147
  go_wp2
  go_loopw [13] (fun i wr => i = .int .i64 0 ∧ wr = w) (fun _ _ => 0)
  case atStart => exact ⟨rfl, rfl⟩
  case round =>
    obtain ⟨rfl, rfl⟩ := hrel
    go_wp2
    go_ret
    exact ⟨rfl, rfl⟩

set_option maxRecDepth 100000 in
set_option maxHeartbeats 1000000 in
/-- value.Compare at two values of which nothing but the entries is set -/
theorem vcompareE (va vb : Value) (a b : List En) (w : World) (ha : RdE w va a) (hb : RdE w vb b) :
    Calls Tryz.prog 112 #[.agg #[.int .i64 0, nilS, nilS, va], .agg #[.int .i64 0, nilS, nilS, vb]] w fun e w' => e = .returned (.int .i64 (cmpEs a b)) ∧ Ext w w' := by
  have HC := Lib.hid (fun W (hW : Ext w W) => cmpEntries_any va vb a b W (ha.ext hW) (hb.ext hW))
  obtain ⟨A, na, ca, rfl, -⟩ := ha
  obtain ⟨B, nb, cb, rfl, -⟩ := hb
  generalize cmpEs a b = r at *
  have hci : Lib.compareInt 0 0 = 0 := by decide
  go_enter Tryz.func112, Tryz.ntmps112
  go_upto_region 1 with (fail)
  obtain ⟨w2, hw2⟩ : ∃ w2, w2 = (w.alloc (.cells #[.int .i64 0, nilS, nilS, .slice A na ca] 26)).alloc (.cells #[.int .i64 0, nilS, nilS, .slice B nb cb] 26) := ⟨_, rfl⟩
  have hE2 : Ext w w2 := by rw [hw2]; exact ((Ext.refl w).alloc _).alloc _
  have hB1 : Blk w2 w.heap.size 26 #[.int .i64 0, nilS, nilS, .slice A na ca] := by rw [hw2]; exact (Blk.new w _ _).alloc _
  have hB2 : Blk w2 (w.heap.size + 1) 26 #[.int .i64 0, nilS, nilS, .slice B nb cb] := by rw [hw2]; exact Blk.new' _ _ _ _ (by simp)
  have l1 := hB1.lt
  have l2 := hB2.lt
  have a0 := hB1.cell 0
  have a1 := hB1.cell 1
  have a2 := hB1.cell 2
  have a3 := hB1.cell 3
  have b0 := hB2.cell 0
  have b1 := hB2.cell 1
  have b2 := hB2.cell 2
  have b3 := hB2.cell 3
  simp at a0 a1 a2 a3 b0 b1 b2 b3
  rw [← hw2]
  clear hw2 hB1 hB2
  generalize w.heap.size = G at *
  have HE2 := Lib.hid hE2; clear hE2
  have HRD : Hid (Rd1 (w2.alloc (.cells #[.int .i64 0, .int .i64 0] 3)).drew encZ (.slice (some ⟨w2.heap.size, 0, none⟩) 2 2) [0, 0]) := Lib.hid ((Rd1.new2 w2 _ _ _).drew)
  go_region_held3 (fun w' => w'.cell? ⟨G, 0, none⟩ = some (.int .i64 0) ∧ w'.cell? ⟨G, 1, none⟩ = some nilS ∧ w'.cell? ⟨G + 1, 0, none⟩ = some (.int .i64 0) ∧ w'.cell? ⟨G + 1, 1, none⟩ = some nilS) (first | exact ⟨a0, a1, b0, b1⟩ | go_keep) (first
    | (go_at_call 145; refine (cmp64_any 0 0 _).mono ?_; rintro e w1 ⟨rfl, rfl⟩; rw [hci])
    | (go_at_call 146; refine (cmpNamesNil _).mono ?_; rintro e w1 ⟨rfl, rfl⟩)
    | (go_at_call 144; refine (orInt_any _ [0, 0] _ HRD.out).mono ?_; rintro e w1 ⟨rfl, rfl⟩; rw [show orI [0, 0] = 0 from by decide]))
  all_goals
    have HE3 := Lib.hid ((HE2.out.alloc (.cells #[.int .i64 0, .int .i64 0] 3)).drew)
    obtain ⟨w3, hw3⟩ : ∃ w3, w3 = (w2.alloc (.cells #[.int .i64 0, .int .i64 0] 3)).drew := ⟨_, rfl⟩
    have hE23 : Ext w2 w3 := by rw [hw3]; exact ((Ext.refl w2).alloc _).drew
    rw [← hw3] at HE3 ⊢
    have a2' := hE23.cell a2
    have a3' := hE23.cell a3
    have b2' := hE23.cell b2
    have b3' := hE23.cell b3
    have l1' := Nat.lt_of_lt_of_le l1 hE23.size
    have l2' := Nat.lt_of_lt_of_le l2 hE23.size
    clear hw3 hE23
    go_wp2_with (first
      | (go_at_call 147; refine (cmpPartsNil _).mono ?_; rintro e w' ⟨rfl, rfl⟩)
      | (go_at_call 148; refine (HC.out _ HE3.out).mono ?_; rintro e w5 ⟨rfl, hE5⟩; have HE5 := Lib.hid (HE3.out.trans hE5); clear hE5))
    go_ret
    exact ⟨rfl, HE5.out⟩
end Go.Proofs.YthldgioggjpnpaaGreat
