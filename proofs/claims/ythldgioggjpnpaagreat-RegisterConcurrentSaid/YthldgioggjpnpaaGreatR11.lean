/-
  The comparison chain with the count of draws known not to fall; slices.SortFunc at entries by the shelf.
-/
import Derived.Test.YthldgioggjpnpaaGreatRSpec2
namespace Go.Proofs.YthldgioggjpnpaaGreat
open Go.RowKit

/-- all that lay in w lies in w' unturned, and no draw is taken back -/
structure ExtD (w w' : World) : Prop where
  ext : Ext w w'
  dr : w.drawn ≤ w'.drawn
theorem ExtD.refl (w : World) : ExtD w w := ⟨Ext.refl w, Nat.le_refl _⟩
theorem ExtD.trans {a b c : World} (h : ExtD a b) (k : ExtD b c) : ExtD a c := ⟨h.ext.trans k.ext, Nat.le_trans h.dr k.dr⟩
theorem ExtD.drew {a w : World} (h : ExtD a w) : ExtD a w.drew := ⟨h.ext.drew, Nat.le_succ_of_le h.dr⟩
theorem ExtD.drewN {a w : World} (h : ExtD a w) (n : Nat) : ExtD a (w.drewN n) := ⟨h.ext.drewN n, Nat.le_trans h.dr (by simp [World.drewN])⟩
theorem ExtD.alloc {a w : World} (h : ExtD a w) (o : Obj) : ExtD a (w.alloc o) := ⟨h.ext.alloc o, h.dr⟩
theorem ExtD.size {a w : World} (h : ExtD a w) : a.heap.size ≤ w.heap.size := h.ext.size
theorem ExtD.cell {w w' : World} (h : ExtD w w') {p : Addr} {u : Value} (hc : w.cell? p = some u) : w'.cell? p = some u := h.ext.cell hc
theorem RdN.extD {α : Type} {w w' : World} {k : Nat} {enc : α → List Value} {v : Value} {l : List α} (h : RdN w k enc v l) (he : ExtD w w') : RdN w' k enc v l := h.ext he.ext
theorem RdE.extD {w w' : World} {v : Value} {l : List En} (h : RdE w v l) (he : ExtD w w') : RdE w' v l := h.ext he.ext

set_option maxRecDepth 100000 in
set_option maxHeartbeats 1000000 in
theorem cmpTick_any_d (t u : Tk) (w : World) : Calls Tryz.prog 153 #[.agg (encT t).toArray, .agg (encT u).toArray] w fun e w' => e = .returned (.int .i64 (cmpTk t u)) ∧ ExtD w w' := by
  obtain ⟨p, m⟩ := t
  obtain ⟨q, n⟩ := u
  show Calls Tryz.prog 153 #[.agg #[.int .i64 p, .int .i64 m], .agg #[.int .i64 q, .int .i64 n]] w _
  have HC : Hid (cmpTk (p, m) (q, n) = orI [Lib.compareInt p q, Lib.compareInt m n]) := Lib.hid rfl
  generalize cmpTk (p, m) (q, n) = r at *
  go_enter Tryz.func153, Tryz.ntmps153
  go_wp2_with (fail)
  obtain ⟨w2, hw2⟩ : ∃ w2, w2 = (w.alloc (.cells #[.int .i64 p, .int .i64 m] 40)).alloc (.cells #[.int .i64 q, .int .i64 n] 40) := ⟨_, rfl⟩
  have hE2 : ExtD w w2 := by rw [hw2]; exact ((ExtD.refl w).alloc _).alloc _
  have hs2 : w.heap.size + 1 < w2.heap.size := by rw [hw2]; simp
  have hs1 : w.heap.size < w2.heap.size := by omega
  have hB1 : Blk w2 w.heap.size 40 #[.int .i64 p, .int .i64 m] := by rw [hw2]; exact (Blk.new w _ _).alloc _
  have hB2 : Blk w2 (w.heap.size + 1) 40 #[.int .i64 q, .int .i64 n] := by rw [hw2]; exact Blk.new' _ _ _ _ (by simp)
  have a0 := hB1.cell 0
  have a1 := hB1.cell 1
  have a2 := hB2.cell 0
  have a3 := hB2.cell 1
  simp at a0 a1 a2 a3
  rw [← hw2]
  clear hw2 hB1 hB2
  generalize w.heap.size = B at *
  have HE2 := Lib.hid hE2; clear hE2
  have HRD : Hid (Rd1 (w2.alloc (.cells #[.int .i64 (Lib.compareInt p q), .int .i64 (Lib.compareInt m n)] 3)).drew encZ (.slice (some ⟨w2.heap.size, 0, none⟩) 2 2) [Lib.compareInt p q, Lib.compareInt m n]) := Lib.hid ((Rd1.new2 w2 _ _ _).drew)
  go_region_held3 (fun w' => w'.cell? ⟨B, 0, none⟩ = some (.int .i64 p) ∧ w'.cell? ⟨B, 1, none⟩ = some (.int .i64 m) ∧ w'.cell? ⟨B + 1, 0, none⟩ = some (.int .i64 q) ∧ w'.cell? ⟨B + 1, 1, none⟩ = some (.int .i64 n)) (first | exact ⟨a0, a1, a2, a3⟩ | go_keep) (first
    | (go_at_call 169; refine (shl_cmp_Compare_int p q _).mono ?_; rintro e w1 ⟨rfl, rfl⟩)
    | (go_at_call 145; refine (cmp64_any m n _).mono ?_; rintro e w1 ⟨rfl, rfl⟩)
    | (go_at_call 144; refine (orInt_any _ [Lib.compareInt p q, Lib.compareInt m n] _ HRD.out).mono ?_; rintro e w1 ⟨rfl, rfl⟩; rw [← HC.out]))
  all_goals (go_wp2_with (fail); go_ret; exact ⟨rfl, (HE2.out.alloc _).drew⟩)


set_option maxRecDepth 100000 in
set_option maxHeartbeats 1000000 in
theorem cmpTicks_any_d (va vb : Value) (a b : List Tk) (w : World) (ha : RdT w va a) (hb : RdT w vb b) :
    Calls Tryz.prog 152 #[va, vb, .func (.func 153) #[] #[]] w fun e w' => e = .returned (.int .i64 (cmpTs a b)) ∧ ExtD w w' := by
  have HA := Lib.hid ha
  have HB := Lib.hid hb
  obtain ⟨A, na, ca, rfl, hla, hnca, hcma, -⟩ := ha
  obtain ⟨B, nb, cb, rfl, hlb, hncb, hcmb, -⟩ := hb
  unfold maxLen at hcma hcmb
  have HLA := Lib.hid hla; clear hla
  have HLB := Lib.hid hlb; clear hlb
  have hen := eg_cmpTick
  go_enter Tryz.func152, Tryz.ntmps152
  go_wp2_with (fail)
  go_loopw [13] (fun i wr => ∃ k : Nat, k ≤ na ∧ k ≤ nb ∧ i = .int .i64 k ∧ cmpTs (a.drop k) (b.drop k) = cmpTs a b ∧ ExtD w wr) (fun i _ => na - (intOf i).toNat)
  case atStart => exact ⟨0, Nat.zero_le _, Nat.zero_le _, rfl, rfl, ExtD.refl _⟩
  case round =>
    obtain ⟨k, hka, hkb, rfl, hg, hE⟩ := hrel
    have HG := Lib.hid hg; clear hg
    have HE := Lib.hid hE; clear hE
    by_cases hlt : k < na
    · obtain ⟨b1, o1, t, rfl, hb1, ht, c0, c1⟩ := RdT.tick (HA.out.extD HE.out) hlt
      have hda : a.drop k = t :: a.drop (k + 1) := by
        obtain ⟨hk', rfl⟩ := List.getElem?_eq_some_iff.1 ht
        exact List.drop_eq_getElem_cons hk'
      have HDA := Lib.hid hda; clear hda ht
      by_cases hlb : k < nb
      · obtain ⟨b2, o2, u, rfl, hb2, hu, d0, d1⟩ := RdT.tick (HB.out.extD HE.out) hlb
        have hdb : b.drop k = u :: b.drop (k + 1) := by
          obtain ⟨hk', rfl⟩ := List.getElem?_eq_some_iff.1 hu
          exact List.drop_eq_getElem_cons hk'
        have HDB := Lib.hid hdb; clear hdb hu
        obtain ⟨p, m⟩ := t
        obtain ⟨q, n⟩ := u
        dsimp only at c0 c1 d0 d1
        have HC : Hid (∀ W, Calls Tryz.prog 153 #[.agg #[.int .i64 p, .int .i64 m], .agg #[.int .i64 q, .int .i64 n]] W fun e w' => e = .returned (.int .i64 (cmpTk (p, m) (q, n))) ∧ ExtD W w') := Lib.hid (fun W => cmpTick_any_d (p, m) (q, n) W)
        obtain ⟨r, hr⟩ : ∃ r, cmpTk (p, m) (q, n) = r := ⟨_, rfl⟩
        rw [hr] at HC
        have HR := Lib.hid hr; clear hr
        have hw1 : b1 < (wr.alloc (.cells #[.int .i64 0, .int .i64 0] 40)).heap.size := by simp; omega
        have hw2 : b2 < (wr.alloc (.cells #[.int .i64 p, .int .i64 m] 40)).heap.size := by simp; omega
        by_cases hr0 : r = 0
        · have HR0 := Lib.hid hr0
          have e0 : (r != 0) = false := by simpa using hr0
          go_wp2_with (fail)
          refine (HC.out _).mono ?_
          rintro e w2 ⟨rfl, hE2⟩
          have HE2 := Lib.hid (((HE.out.alloc _).alloc _).trans hE2); clear hE2
          go_wp2_with (fail)
          go_roundw
          case rel => exact ⟨k + 1, by omega, by omega, by go_num, by rw [← HG.out, HDA.out, HDB.out, cmpTs, HR.out, if_pos HR0.out], HE2.out⟩
          case measure => simp [intOf]; omega
        · have HR0 := Lib.hid hr0
          have e0 : (r != 0) = true := by simpa using hr0
          go_wp2_with (fail)
          refine (HC.out _).mono ?_
          rintro e w2 ⟨rfl, hE2⟩
          have HE2 := Lib.hid (((HE.out.alloc _).alloc _).trans hE2); clear hE2
          go_wp2_with (fail)
          go_ret
          refine ⟨?_, HE2.out⟩
          rw [← HG.out, HDA.out, HDB.out, cmpTs, HR.out, if_neg HR0.out]
          rfl
      · have hdb : b.drop k = [] := List.drop_of_length_le (by have := HLB.out; omega)
        have HDB := Lib.hid hdb; clear hdb
        obtain ⟨p, m⟩ := t
        dsimp only at c0 c1
        have hw1 : b1 < (wr.alloc (.cells #[.int .i64 0, .int .i64 0] 40)).heap.size := by simp; omega
        go_wp2_with (fail)
        go_ret
        refine ⟨?_, HE.out.alloc _⟩
        rw [← HG.out, HDA.out, HDB.out]
        rfl
    · have hda : a.drop k = [] := List.drop_of_length_le (by have := HLA.out; omega)
      have HDA := Lib.hid hda; clear hda
      by_cases hlb : na < nb
      · have HDB : Hid (∃ u r, b.drop k = u :: r) := Lib.hid (by
          have : k < b.length := by have := HLB.out; omega
          exact ⟨_, _, List.drop_eq_getElem_cons this⟩)
        go_wp2_with (fail)
        go_ret
        refine ⟨?_, HE.out⟩
        obtain ⟨u, r, h⟩ := HDB.out
        rw [← HG.out, HDA.out, h]
        rfl
      · have hdb : b.drop k = [] := List.drop_of_length_le (by have := HLB.out; omega)
        have HDB := Lib.hid hdb; clear hdb
        go_wp2_with (fail)
        go_ret
        refine ⟨?_, HE.out⟩
        rw [← HG.out, HDA.out, HDB.out]
        rfl

set_option maxRecDepth 100000 in
set_option maxHeartbeats 1000000 in
theorem cmpEntry_any_d (va vb : Value) (a b : En) (w : World) (ha : RdT w va a.1) (hb : RdT w vb b.1) :
    Calls Tryz.prog 122 #[.agg #[va, encS a.2], .agg #[vb, encS b.2]] w fun e w' => e = .returned (.int .i64 (cmpEn a b)) ∧ ExtD w w' := by
  have HA := Lib.hid ha
  have HB := Lib.hid hb
  obtain ⟨A, na, ca, rfl, -⟩ := ha
  obtain ⟨C, nb, cb, rfl, -⟩ := hb
  obtain ⟨ta, xa⟩ := a
  obtain ⟨tb, xb⟩ := b
  dsimp only at HA HB ⊢
  have HC : Hid (cmpEn (ta, xa) (tb, xb) = orI [Lib.compareBytes xa xb, cmpTs ta tb]) := Lib.hid rfl
  have HSC := Lib.hid (sCompare_any xa xb)
  generalize cmpEn (ta, xa) (tb, xb) = r at *
  generalize Lib.compareBytes xa xb = r1 at *
  obtain ⟨r2, hr2⟩ : ∃ r2, cmpTs ta tb = r2 := ⟨_, rfl⟩
  rw [hr2] at HC
  have HR2 := Lib.hid hr2; clear hr2
  go_enter Tryz.func122, Tryz.ntmps122
  go_wp2_with (fail)
  obtain ⟨w2, hw2⟩ : ∃ w2, w2 = (w.alloc (.cells #[.slice A na ca, encS xa] 64)).alloc (.cells #[.slice C nb cb, encS xb] 64) := ⟨_, rfl⟩
  have hE2 : ExtD w w2 := by rw [hw2]; exact ((ExtD.refl w).alloc _).alloc _
  have hs2 : w.heap.size + 1 < w2.heap.size := by rw [hw2]; simp
  have hs1 : w.heap.size < w2.heap.size := by omega
  have hB1 : Blk w2 w.heap.size 64 #[.slice A na ca, encS xa] := by rw [hw2]; exact (Blk.new w _ _).alloc _
  have hB2 : Blk w2 (w.heap.size + 1) 64 #[.slice C nb cb, encS xb] := by rw [hw2]; exact Blk.new' _ _ _ _ (by simp)
  have a0 := hB1.cell 0
  have a1 := hB1.cell 1
  have a2 := hB2.cell 0
  have a3 := hB2.cell 1
  simp at a0 a1 a2 a3
  rw [← hw2]
  clear hw2 hB1 hB2
  generalize w.heap.size = B at *
  have HE2 := Lib.hid hE2; clear hE2
  go_region_held3 (fun w' => w'.cell? ⟨B, 0, none⟩ = some (.slice A na ca) ∧ w'.cell? ⟨B, 1, none⟩ = some (encS xa) ∧ w'.cell? ⟨B + 1, 0, none⟩ = some (.slice C nb cb) ∧ w'.cell? ⟨B + 1, 1, none⟩ = some (encS xb)) (first | exact ⟨a0, a1, a2, a3⟩ | exact ⟨HE3.out.cell a0, HE3.out.cell a1, HE3.out.cell a2, HE3.out.cell a3⟩ | go_keep) (first
    | (go_at_call 151; refine (HSC.out _).mono ?_; rintro e w1 ⟨rfl, rfl⟩)
    | (go_at_call 152; refine (cmpTicks_any_d _ _ ta tb _ (HA.out.extD HE2.out.drew) (HB.out.extD HE2.out.drew)).mono ?_; rintro e w3 ⟨rfl, hE3⟩; rw [HR2.out]; have HE3 : Hid (ExtD w2 w3) := Lib.hid ((ExtD.refl w2).drew.trans hE3); clear hE3; have HRD : Hid (Rd1 (w3.alloc (.cells #[.int .i64 r1, .int .i64 r2] 3)) encZ (.slice (some ⟨w3.heap.size, 0, none⟩) 2 2) [r1, r2]) := Lib.hid (Rd1.new2 w3 _ _ _))
    | (go_at_call 144; refine (orInt_any _ [r1, r2] _ HRD.out).mono ?_; rintro e w1 ⟨rfl, rfl⟩; rw [← HC.out]))
  all_goals (go_wp2_with (fail); go_ret; exact ⟨rfl, (HE2.out.trans HE3.out).alloc _⟩)

set_option maxRecDepth 100000 in
set_option maxHeartbeats 1000000 in
theorem cmpEntries_any_d (va vb : Value) (a b : List En) (w : World) (ha : RdE w va a) (hb : RdE w vb b) :
    Calls Tryz.prog 148 #[va, vb, .func (.func 122) #[] #[]] w fun e w' => e = .returned (.int .i64 (cmpEs a b)) ∧ ExtD w w' := by
  have HA := Lib.hid ha
  have HB := Lib.hid hb
  obtain ⟨A, na, ca, rfl, hla, hnca, hcma, -⟩ := ha
  obtain ⟨B, nb, cb, rfl, hlb, hncb, hcmb, -⟩ := hb
  unfold maxLen at hcma hcmb
  have HLA := Lib.hid hla; clear hla
  have HLB := Lib.hid hlb; clear hlb
  have hen := eg_cmpEntry
  go_enter Tryz.func148, Tryz.ntmps148
  go_wp2_with (fail)
  go_loopw [13] (fun i wr => ∃ k : Nat, k ≤ na ∧ k ≤ nb ∧ i = .int .i64 k ∧ cmpEs (a.drop k) (b.drop k) = cmpEs a b ∧ ExtD w wr) (fun i _ => na - (intOf i).toNat)
  case atStart => exact ⟨0, Nat.zero_le _, Nat.zero_le _, rfl, rfl, ExtD.refl _⟩
  case round =>
    obtain ⟨k, hka, hkb, rfl, hg, hE⟩ := hrel
    have HG := Lib.hid hg; clear hg
    have HE := Lib.hid hE; clear hE
    by_cases hlt : k < na
    · obtain ⟨b1, o1, t, q1, rfl, hb1, ht, c0, c1, hq1, -⟩ := RdE.at_ (HA.out.extD HE.out) hlt
      have hda : a.drop k = t :: a.drop (k + 1) := by
        obtain ⟨hk', rfl⟩ := List.getElem?_eq_some_iff.1 ht
        exact List.drop_eq_getElem_cons hk'
      have HDA := Lib.hid hda; clear hda ht
      by_cases hlb : k < nb
      · obtain ⟨b2, o2, u, q2, rfl, hb2, hu, d0, d1, hq2, -⟩ := RdE.at_ (HB.out.extD HE.out) hlb
        have hdb : b.drop k = u :: b.drop (k + 1) := by
          obtain ⟨hk', rfl⟩ := List.getElem?_eq_some_iff.1 hu
          exact List.drop_eq_getElem_cons hk'
        have HDB := Lib.hid hdb; clear hdb hu
        have HQ1 := Lib.hid hq1
        have HQ2 := Lib.hid hq2
        obtain ⟨A1, n1, k1, rfl⟩ := hq1.slice
        obtain ⟨A2, n2, k2, rfl⟩ := hq2.slice
        clear hq1 hq2
        have HC : Hid (∀ W, ExtD wr W → Calls Tryz.prog 122 #[.agg #[.slice A1 n1 k1, encS t.2], .agg #[.slice A2 n2 k2, encS u.2]] W fun e w' => e = .returned (.int .i64 (cmpEn t u)) ∧ ExtD W w') := Lib.hid (fun W hW => cmpEntry_any_d _ _ t u W (HQ1.out.extD hW) (HQ2.out.extD hW))
        obtain ⟨r, hr⟩ : ∃ r, cmpEn t u = r := ⟨_, rfl⟩
        rw [hr] at HC
        have HR := Lib.hid hr; clear hr
        have hw1 : b1 < (wr.alloc (.cells #[.slice none 0 0, .string ⟨#[]⟩] 64)).heap.size := by simp; omega
        have hw2 : b2 < (wr.alloc (.cells #[.slice A1 n1 k1, encS t.2] 64)).heap.size := by simp; omega
        have hw3 : b2 < ((wr.alloc (.cells #[.slice A1 n1 k1, encS t.2] 64)).alloc (.cells #[.slice none 0 0, .string ⟨#[]⟩] 64)).heap.size := by simp; omega
        by_cases hr0 : r = 0
        · have HR0 := Lib.hid hr0
          have e0 : (r != 0) = false := by simpa using hr0
          go_wp2_with (fail)
          refine (HC.out _ (((ExtD.refl _).alloc _).alloc _)).mono ?_
          rintro e w2 ⟨rfl, hE2⟩
          have HE2 := Lib.hid (((HE.out.alloc _).alloc _).trans hE2); clear hE2
          go_wp2_with (fail)
          go_roundw
          case rel => exact ⟨k + 1, by omega, by omega, by go_num, by rw [← HG.out, HDA.out, HDB.out, cmpEs, HR.out, if_pos HR0.out], HE2.out⟩
          case measure => simp [intOf]; omega
        · have HR0 := Lib.hid hr0
          have e0 : (r != 0) = true := by simpa using hr0
          go_wp2_with (fail)
          refine (HC.out _ (((ExtD.refl _).alloc _).alloc _)).mono ?_
          rintro e w2 ⟨rfl, hE2⟩
          have HE2 := Lib.hid (((HE.out.alloc _).alloc _).trans hE2); clear hE2
          go_wp2_with (fail)
          go_ret
          refine ⟨?_, HE2.out⟩
          rw [← HG.out, HDA.out, HDB.out, cmpEs, HR.out, if_neg HR0.out]
          rfl
      · have hdb : b.drop k = [] := List.drop_of_length_le (by have := HLB.out; omega)
        have HDB := Lib.hid hdb; clear hdb
        obtain ⟨A1, n1, k1, rfl⟩ := hq1.slice
        clear hq1
        have hw1 : b1 < (wr.alloc (.cells #[.slice none 0 0, .string ⟨#[]⟩] 64)).heap.size := by simp; omega
        go_wp2_with (fail)
        go_ret
        refine ⟨?_, HE.out.alloc _⟩
        rw [← HG.out, HDA.out, HDB.out]
        rfl
    · have hda : a.drop k = [] := List.drop_of_length_le (by have := HLA.out; omega)
      have HDA := Lib.hid hda; clear hda
      by_cases hlb : na < nb
      · have HDB : Hid (∃ u r, b.drop k = u :: r) := Lib.hid (by
          have : k < b.length := by have := HLB.out; omega
          exact ⟨_, _, List.drop_eq_getElem_cons this⟩)
        go_wp2_with (fail)
        go_ret
        refine ⟨?_, HE.out⟩
        obtain ⟨u, r, h⟩ := HDB.out
        rw [← HG.out, HDA.out, h]
        rfl
      · have hdb : b.drop k = [] := List.drop_of_length_le (by have := HLB.out; omega)
        have HDB := Lib.hid hdb; clear hdb
        go_wp2_with (fail)
        go_ret
        refine ⟨?_, HE.out⟩
        rw [← HG.out, HDA.out, HDB.out]
        rfl


set_option maxRecDepth 100000 in
set_option maxHeartbeats 1000000 in
theorem vcompareE_d (va vb : Value) (a b : List En) (w : World) (ha : RdE w va a) (hb : RdE w vb b) :
    Calls Tryz.prog 112 #[.agg #[.int .i64 0, nilS, nilS, va], .agg #[.int .i64 0, nilS, nilS, vb]] w fun e w' => e = .returned (.int .i64 (cmpEs a b)) ∧ ExtD w w' := by
  have HC := Lib.hid (fun W (hW : ExtD w W) => cmpEntries_any_d va vb a b W (ha.extD hW) (hb.extD hW))
  obtain ⟨A, na, ca, rfl, -⟩ := ha
  obtain ⟨B, nb, cb, rfl, -⟩ := hb
  generalize cmpEs a b = r at *
  have hci : Lib.compareInt 0 0 = 0 := by decide
  go_enter Tryz.func112, Tryz.ntmps112
  go_upto_region 1 with (fail)
  obtain ⟨w2, hw2⟩ : ∃ w2, w2 = (w.alloc (.cells #[.int .i64 0, nilS, nilS, .slice A na ca] 26)).alloc (.cells #[.int .i64 0, nilS, nilS, .slice B nb cb] 26) := ⟨_, rfl⟩
  have hE2 : ExtD w w2 := by rw [hw2]; exact ((ExtD.refl w).alloc _).alloc _
  have hB1 : Blk w2 w.heap.size 26 #[.int .i64 0, nilS, nilS, .slice A na ca] := by rw [hw2]; exact (Blk.new w _ _).alloc _
  have hB2 : Blk w2 (w.heap.size + 1) 26 #[.int .i64 0, nilS, nilS, .slice B nb cb] := by rw [hw2]; exact Blk.new' _ _ _ _ (by simp)
  have l1 := hB1.lt
  have l2 := hB2.lt
  have a0 := hB1.cell 0
  have a1 := hB1.cell 1
  have a2 := hB1.cell 2
  have a3 := hB1.cell 3
  have b0 := hB2.cell 0
  have b1 := hB2.cell 1
  have b2 := hB2.cell 2
  have b3 := hB2.cell 3
  simp at a0 a1 a2 a3 b0 b1 b2 b3
  rw [← hw2]
  clear hw2 hB1 hB2
  generalize w.heap.size = G at *
  have HE2 := Lib.hid hE2; clear hE2
  have HRD : Hid (Rd1 (w2.alloc (.cells #[.int .i64 0, .int .i64 0] 3)).drew encZ (.slice (some ⟨w2.heap.size, 0, none⟩) 2 2) [0, 0]) := Lib.hid ((Rd1.new2 w2 _ _ _).drew)
  go_region_held3 (fun w' => w'.cell? ⟨G, 0, none⟩ = some (.int .i64 0) ∧ w'.cell? ⟨G, 1, none⟩ = some nilS ∧ w'.cell? ⟨G + 1, 0, none⟩ = some (.int .i64 0) ∧ w'.cell? ⟨G + 1, 1, none⟩ = some nilS) (first | exact ⟨a0, a1, b0, b1⟩ | go_keep) (first
    | (go_at_call 145; refine (cmp64_any 0 0 _).mono ?_; rintro e w1 ⟨rfl, rfl⟩; rw [hci])
    | (go_at_call 146; refine (cmpNamesNil _).mono ?_; rintro e w1 ⟨rfl, rfl⟩)
    | (go_at_call 144; refine (orInt_any _ [0, 0] _ HRD.out).mono ?_; rintro e w1 ⟨rfl, rfl⟩; rw [show orI [0, 0] = 0 from by decide]))
  all_goals
    have HE3 := Lib.hid ((HE2.out.alloc (.cells #[.int .i64 0, .int .i64 0] 3)).drew)
    obtain ⟨w3, hw3⟩ : ∃ w3, w3 = (w2.alloc (.cells #[.int .i64 0, .int .i64 0] 3)).drew := ⟨_, rfl⟩
    have hE23 : ExtD w2 w3 := by rw [hw3]; exact ((ExtD.refl w2).alloc _).drew
    rw [← hw3] at HE3 ⊢
    have a2' := hE23.cell a2
    have a3' := hE23.cell a3
    have b2' := hE23.cell b2
    have b3' := hE23.cell b3
    have l1' := Nat.lt_of_lt_of_le l1 hE23.size
    have l2' := Nat.lt_of_lt_of_le l2 hE23.size
    clear hw3 hE23
    go_wp2_with (first
      | (go_at_call 147; refine (cmpPartsNil _).mono ?_; rintro e w' ⟨rfl, rfl⟩)
      | (go_at_call 148; refine (HC.out _ HE3.out).mono ?_; rintro e w5 ⟨rfl, hE5⟩; have HE5 := Lib.hid (HE3.out.trans hE5); clear hE5))
    go_ret
    exact ⟨rfl, HE5.out⟩

end Go.Proofs.YthldgioggjpnpaaGreat
