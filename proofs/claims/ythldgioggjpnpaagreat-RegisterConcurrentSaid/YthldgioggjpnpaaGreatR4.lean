/-
  Contracts: cmp.Or at ints and errors, cmp.Compare at int64, the comparisons of ticks and entries.
-/
import Derived.Test.YthldgioggjpnpaaGreatR3
import Derived.Test.YthldgioggjpnpaaGreatRShelf
import Derived.Deep.RegionHeld3
namespace Go.Proofs.YthldgioggjpnpaaGreat
open Go.RowKit

def orI : List Int → Int
  | [] => 0
  | x :: r => if x = 0 then orI r else x
abbrev encZ (x : Int) : Value := .int .i64 x

set_option maxRecDepth 100000 in
set_option maxHeartbeats 1000000 in
theorem orInt_any (v : Value) (l : List Int) (w : World) (h : Rd1 w encZ v l) :
    Calls Tryz.prog 144 #[v] w fun e w' => e = .returned (.int .i64 (orI l)) ∧ w = w' := by
  obtain ⟨A, n, c, rfl, hl, hnc, hcm, hcell⟩ := h
  unfold maxLen at hcm
  have HL := Lib.hid hl; clear hl
  have HC := Lib.hid hcell; clear hcell
  go_enter Tryz.func144, Tryz.ntmps144
  go_wp2_with (fail)
  go_loop [8] (fun i => ∃ k : Nat, k ≤ n ∧ i = .int .i64 k ∧ orI (l.drop k) = orI l) (fun i => n - (intOf i).toNat)
  case atStart => exact ⟨0, Nat.zero_le _, rfl, rfl⟩
  case round =>
    obtain ⟨k, hk, rfl, hg⟩ := hrel
    have HG := Lib.hid hg; clear hg
    by_cases hlt : k < n
    · obtain ⟨b, off, rfl, hb, hcc⟩ := HC.out (by omega)
      have hkl : k < l.length := by rw [HL.out]; exact hlt
      have hc1 := hcc k _ (List.getElem?_eq_getElem hkl)
      have HD := Lib.hid (List.drop_eq_getElem_cons hkl)
      clear hcc
      generalize l[k] = x at *
      by_cases hx : x = 0
      · subst hx
        have e0 : ((0 : Int) != 0) = false := by decide
        go_wp2_with (fail)
        go_round
        case rel => exact ⟨k + 1, by omega, by go_num, by rw [← HG.out, HD.out, orI, if_pos rfl]⟩
        case measure => simp [intOf]; omega
      · have e0 : (x != 0) = true := by simpa using hx
        go_wp2_with (fail)
        go_ret
        refine ⟨?_, rfl⟩
        rw [← HG.out, HD.out, orI, if_neg hx]
        rfl
    · go_wp2_with (fail)
      go_ret
      refine ⟨?_, rfl⟩
      rw [← HG.out, List.drop_of_length_le (by have := HL.out; omega)]
      rfl
theorem nan64_any (x : Int) (w : World) : Calls Tryz.prog 166 #[.int .i64 x] w fun e w' => e = .returned (.bool false) ∧ w = w' := by
  have e0 : (x != x) = false := by simp
  go_enter Tryz.func166, Tryz.ntmps166
  go_wp2
  go_ret
  exact ⟨rfl, rfl⟩
set_option maxHeartbeats 1000000 in
theorem cmp64_any (x y : Int) (w : World) : Calls Tryz.prog 145 #[.int .i64 x, .int .i64 y] w fun e w' => e = .returned (.int .i64 (Lib.compareInt x y)) ∧ w = w' := by
  have TK1 : True := trivial
  go_enter Tryz.func145, Tryz.ntmps145
  go_wp2_with (first | (go_at_call 166; clear TK1; refine (nan64_any x _).mono ?_; rintro e w' ⟨rfl, rfl⟩) | (go_at_call 166; refine (nan64_any y _).mono ?_; rintro e w' ⟨rfl, rfl⟩))
  all_goals go_ret
  all_goals refine ⟨?_, rfl⟩
  all_goals (unfold Lib.compareInt; by_cases h1 : x < y <;> by_cases h2 : x > y <;> first | (simp only [h1, h2, if_true, if_false]; rfl) | (exfalso; omega))

def cmpTk (t u : Tk) : Int := orI [Lib.compareInt t.1 u.1, Lib.compareInt t.2 u.2]

theorem Rd1.new2 (w : World) (x y : Int) (t : TypeId) : Rd1 (w.alloc (.cells #[.int .i64 x, .int .i64 y] t)) encZ (.slice (some ⟨w.heap.size, 0, none⟩) 2 2) [x, y] :=
  ⟨_, _, _, rfl, rfl, Nat.le_refl _, by unfold maxLen; omega, fun _ => ⟨w.heap.size, 0, rfl, by simp, fun j y' hj => by
    rw [Nat.zero_add]
    have := cells_new w [.int .i64 x, .int .i64 y] t w.heap.size rfl j (encZ y') (by
      match j, hj with
      | 0, hj => simp at hj; simp [hj]
      | 1, hj => simp at hj; simp [hj]
      | j + 2, hj => simp at hj)
    exact this⟩⟩

theorem Rd1.drew {α : Type} {w : World} {enc : α → Value} {v : Value} {l : List α} (h : Rd1 w enc v l) : Rd1 w.drew enc v l := h
theorem Rd1.two {W : World} {b : Nat} {x y : Int} (hb : b < W.heap.size) (h0 : W.cell? ⟨b, 0, none⟩ = some (encZ x)) (h1 : W.cell? ⟨b, 1, none⟩ = some (encZ y)) : Rd1 W encZ (.slice (some ⟨b, 0, none⟩) 2 2) [x, y] :=
  ⟨_, _, _, rfl, rfl, Nat.le_refl _, by unfold maxLen; omega, fun _ => ⟨b, 0, rfl, hb, fun j y' hj => by
    rw [Nat.zero_add]
    match j, hj with
    | 0, hj => simp at hj; subst hj; exact h0
    | 1, hj => simp at hj; subst hj; exact h1
    | j + 2, hj => simp at hj⟩⟩

set_option maxRecDepth 100000 in
set_option maxHeartbeats 1000000 in
theorem cmpTick_any (t u : Tk) (w : World) : Calls Tryz.prog 153 #[.agg (encT t).toArray, .agg (encT u).toArray] w fun e w' => e = .returned (.int .i64 (cmpTk t u)) ∧ Ext w w' := by
  obtain ⟨p, m⟩ := t
  obtain ⟨q, n⟩ := u
  show Calls Tryz.prog 153 #[.agg #[.int .i64 p, .int .i64 m], .agg #[.int .i64 q, .int .i64 n]] w _
  have HC : Hid (cmpTk (p, m) (q, n) = orI [Lib.compareInt p q, Lib.compareInt m n]) := Lib.hid rfl
  generalize cmpTk (p, m) (q, n) = r at *
  go_enter Tryz.func153, Tryz.ntmps153
  go_wp2_with (fail)
  obtain ⟨w2, hw2⟩ : ∃ w2, w2 = (w.alloc (.cells #[.int .i64 p, .int .i64 m] 40)).alloc (.cells #[.int .i64 q, .int .i64 n] 40) := ⟨_, rfl⟩
  have hE2 : Ext w w2 := by rw [hw2]; exact ((Ext.refl w).alloc _).alloc _
  have hs2 : w.heap.size + 1 < w2.heap.size := by rw [hw2]; simp
  have hs1 : w.heap.size < w2.heap.size := by omega
  have hB1 : Blk w2 w.heap.size 40 #[.int .i64 p, .int .i64 m] := by rw [hw2]; exact (Blk.new w _ _).alloc _
  have hB2 : Blk w2 (w.heap.size + 1) 40 #[.int .i64 q, .int .i64 n] := by rw [hw2]; exact Blk.new' _ _ _ _ (by simp)
  have a0 := hB1.cell 0
  have a1 := hB1.cell 1
  have a2 := hB2.cell 0
  have a3 := hB2.cell 1
  simp at a0 a1 a2 a3
  rw [← hw2]
  clear hw2 hB1 hB2
  generalize w.heap.size = B at *
  have HE2 := Lib.hid hE2; clear hE2
  have HRD : Hid (Rd1 (w2.alloc (.cells #[.int .i64 (Lib.compareInt p q), .int .i64 (Lib.compareInt m n)] 3)).drew encZ (.slice (some ⟨w2.heap.size, 0, none⟩) 2 2) [Lib.compareInt p q, Lib.compareInt m n]) := Lib.hid ((Rd1.new2 w2 _ _ _).drew)
  go_region_held3 (fun w' => w'.cell? ⟨B, 0, none⟩ = some (.int .i64 p) ∧ w'.cell? ⟨B, 1, none⟩ = some (.int .i64 m) ∧ w'.cell? ⟨B + 1, 0, none⟩ = some (.int .i64 q) ∧ w'.cell? ⟨B + 1, 1, none⟩ = some (.int .i64 n)) (first | exact ⟨a0, a1, a2, a3⟩ | go_keep) (first
    | (go_at_call 169; refine (shl_cmp_Compare_int p q _).mono ?_; rintro e w1 ⟨rfl, rfl⟩)
    | (go_at_call 145; refine (cmp64_any m n _).mono ?_; rintro e w1 ⟨rfl, rfl⟩)
    | (go_at_call 144; refine (orInt_any _ [Lib.compareInt p q, Lib.compareInt m n] _ HRD.out).mono ?_; rintro e w1 ⟨rfl, rfl⟩; rw [← HC.out]))
  all_goals (go_wp2_with (fail); go_ret; exact ⟨rfl, (HE2.out.alloc _).drew⟩)

def cmpTs : List Tk → List Tk → Int
  | [], [] => 0
  | [], _ :: _ => -1
  | _ :: _, [] => 1
  | t :: a, u :: b => if cmpTk t u = 0 then cmpTs a b else cmpTk t u

theorem eg_cmpTick : ∀ args w, (callFunc 153 args).run Tryz.prog w = .ok (.enter 153 args) w := fun _ _ => by kernel_rfl

set_option maxRecDepth 100000 in
set_option maxHeartbeats 1000000 in
theorem cmpTicks_any (va vb : Value) (a b : List Tk) (w : World) (ha : RdT w va a) (hb : RdT w vb b) :
    Calls Tryz.prog 152 #[va, vb, .func (.func 153) #[] #[]] w fun e w' => e = .returned (.int .i64 (cmpTs a b)) ∧ Ext w w' := by
  have HA := Lib.hid ha
  have HB := Lib.hid hb
  obtain ⟨A, na, ca, rfl, hla, hnca, hcma, -⟩ := ha
  obtain ⟨B, nb, cb, rfl, hlb, hncb, hcmb, -⟩ := hb
  unfold maxLen at hcma hcmb
  have HLA := Lib.hid hla; clear hla
  have HLB := Lib.hid hlb; clear hlb
  have hen := eg_cmpTick
  go_enter Tryz.func152, Tryz.ntmps152
  go_wp2_with (fail)
  go_loopw [13] (fun i wr => ∃ k : Nat, k ≤ na ∧ k ≤ nb ∧ i = .int .i64 k ∧ cmpTs (a.drop k) (b.drop k) = cmpTs a b ∧ Ext w wr) (fun i _ => na - (intOf i).toNat)
  case atStart => exact ⟨0, Nat.zero_le _, Nat.zero_le _, rfl, rfl, Ext.refl _⟩
  case round =>
    obtain ⟨k, hka, hkb, rfl, hg, hE⟩ := hrel
    have HG := Lib.hid hg; clear hg
    have HE := Lib.hid hE; clear hE
    by_cases hlt : k < na
    · obtain ⟨b1, o1, t, rfl, hb1, ht, c0, c1⟩ := RdT.tick (HA.out.ext HE.out) hlt
      have hda : a.drop k = t :: a.drop (k + 1) := by
        obtain ⟨hk', rfl⟩ := List.getElem?_eq_some_iff.1 ht
        exact List.drop_eq_getElem_cons hk'
      have HDA := Lib.hid hda; clear hda ht
      by_cases hlb : k < nb
      · obtain ⟨b2, o2, u, rfl, hb2, hu, d0, d1⟩ := RdT.tick (HB.out.ext HE.out) hlb
        have hdb : b.drop k = u :: b.drop (k + 1) := by
          obtain ⟨hk', rfl⟩ := List.getElem?_eq_some_iff.1 hu
          exact List.drop_eq_getElem_cons hk'
        have HDB := Lib.hid hdb; clear hdb hu
        obtain ⟨p, m⟩ := t
        obtain ⟨q, n⟩ := u
        dsimp only at c0 c1 d0 d1
        have HC : Hid (∀ W, Calls Tryz.prog 153 #[.agg #[.int .i64 p, .int .i64 m], .agg #[.int .i64 q, .int .i64 n]] W fun e w' => e = .returned (.int .i64 (cmpTk (p, m) (q, n))) ∧ Ext W w') := Lib.hid (fun W => cmpTick_any (p, m) (q, n) W)
        obtain ⟨r, hr⟩ : ∃ r, cmpTk (p, m) (q, n) = r := ⟨_, rfl⟩
        rw [hr] at HC
        have HR := Lib.hid hr; clear hr
        have hw1 : b1 < (wr.alloc (.cells #[.int .i64 0, .int .i64 0] 40)).heap.size := by simp; omega
        have hw2 : b2 < (wr.alloc (.cells #[.int .i64 p, .int .i64 m] 40)).heap.size := by simp; omega
        by_cases hr0 : r = 0
        · have HR0 := Lib.hid hr0
          have e0 : (r != 0) = false := by simpa using hr0
          go_wp2_with (fail)
          refine (HC.out _).mono ?_
          rintro e w2 ⟨rfl, hE2⟩
          have HE2 := Lib.hid (((HE.out.alloc _).alloc _).trans hE2); clear hE2
          go_wp2_with (fail)
          go_roundw
          case rel => exact ⟨k + 1, by omega, by omega, by go_num, by rw [← HG.out, HDA.out, HDB.out, cmpTs, HR.out, if_pos HR0.out], HE2.out⟩
          case measure => simp [intOf]; omega
        · have HR0 := Lib.hid hr0
          have e0 : (r != 0) = true := by simpa using hr0
          go_wp2_with (fail)
          refine (HC.out _).mono ?_
          rintro e w2 ⟨rfl, hE2⟩
          have HE2 := Lib.hid (((HE.out.alloc _).alloc _).trans hE2); clear hE2
          go_wp2_with (fail)
          go_ret
          refine ⟨?_, HE2.out⟩
          rw [← HG.out, HDA.out, HDB.out, cmpTs, HR.out, if_neg HR0.out]
          rfl
      · have hdb : b.drop k = [] := List.drop_of_length_le (by have := HLB.out; omega)
        have HDB := Lib.hid hdb; clear hdb
        obtain ⟨p, m⟩ := t
        dsimp only at c0 c1
        have hw1 : b1 < (wr.alloc (.cells #[.int .i64 0, .int .i64 0] 40)).heap.size := by simp; omega
        go_wp2_with (fail)
        go_ret
        refine ⟨?_, HE.out.alloc _⟩
        rw [← HG.out, HDA.out, HDB.out]
        rfl
    · have hda : a.drop k = [] := List.drop_of_length_le (by have := HLA.out; omega)
      have HDA := Lib.hid hda; clear hda
      by_cases hlb : na < nb
      · have HDB : Hid (∃ u r, b.drop k = u :: r) := Lib.hid (by
          have : k < b.length := by have := HLB.out; omega
          exact ⟨_, _, List.drop_eq_getElem_cons this⟩)
        go_wp2_with (fail)
        go_ret
        refine ⟨?_, HE.out⟩
        obtain ⟨u, r, h⟩ := HDB.out
        rw [← HG.out, HDA.out, h]
        rfl
      · have hdb : b.drop k = [] := List.drop_of_length_le (by have := HLB.out; omega)
        have HDB := Lib.hid hdb; clear hdb
        go_wp2_with (fail)
        go_ret
        refine ⟨?_, HE.out⟩
        rw [← HG.out, HDA.out, HDB.out]
        rfl

theorem sCompare_any (x y : Nm) (w : World) : Calls Tryz.prog 151 #[encS x, encS y] w fun e w' => e = .returned (.int .i64 (Lib.compareBytes x y)) ∧ w' = w := by
  have := shl_strings_Compare ⟨x.toArray⟩ ⟨y.toArray⟩ w
  simpa using this

abbrev En := List Tk × Nm
def cmpEn (p q : En) : Int := orI [Lib.compareBytes p.2 q.2, cmpTs p.1 q.1]

set_option maxRecDepth 100000 in
set_option maxHeartbeats 1000000 in
theorem cmpEntry_any (va vb : Value) (a b : En) (w : World) (ha : RdT w va a.1) (hb : RdT w vb b.1) :
    Calls Tryz.prog 122 #[.agg #[va, encS a.2], .agg #[vb, encS b.2]] w fun e w' => e = .returned (.int .i64 (cmpEn a b)) ∧ Ext w w' := by
  have HA := Lib.hid ha
  have HB := Lib.hid hb
  obtain ⟨A, na, ca, rfl, -⟩ := ha
  obtain ⟨C, nb, cb, rfl, -⟩ := hb
  obtain ⟨ta, xa⟩ := a
  obtain ⟨tb, xb⟩ := b
  dsimp only at HA HB ⊢
  have HC : Hid (cmpEn (ta, xa) (tb, xb) = orI [Lib.compareBytes xa xb, cmpTs ta tb]) := Lib.hid rfl
  have HSC := Lib.hid (sCompare_any xa xb)
  generalize cmpEn (ta, xa) (tb, xb) = r at *
  generalize Lib.compareBytes xa xb = r1 at *
  obtain ⟨r2, hr2⟩ : ∃ r2, cmpTs ta tb = r2 := ⟨_, rfl⟩
  rw [hr2] at HC
  have HR2 := Lib.hid hr2; clear hr2
  go_enter Tryz.func122, Tryz.ntmps122
  go_wp2_with (fail)
  obtain ⟨w2, hw2⟩ : ∃ w2, w2 = (w.alloc (.cells #[.slice A na ca, encS xa] 64)).alloc (.cells #[.slice C nb cb, encS xb] 64) := ⟨_, rfl⟩
  have hE2 : Ext w w2 := by rw [hw2]; exact ((Ext.refl w).alloc _).alloc _
  have hs2 : w.heap.size + 1 < w2.heap.size := by rw [hw2]; simp
  have hs1 : w.heap.size < w2.heap.size := by omega
  have hB1 : Blk w2 w.heap.size 64 #[.slice A na ca, encS xa] := by rw [hw2]; exact (Blk.new w _ _).alloc _
  have hB2 : Blk w2 (w.heap.size + 1) 64 #[.slice C nb cb, encS xb] := by rw [hw2]; exact Blk.new' _ _ _ _ (by simp)
  have a0 := hB1.cell 0
  have a1 := hB1.cell 1
  have a2 := hB2.cell 0
  have a3 := hB2.cell 1
  simp at a0 a1 a2 a3
  rw [← hw2]
  clear hw2 hB1 hB2
  generalize w.heap.size = B at *
  have HE2 := Lib.hid hE2; clear hE2
  go_region_held3 (fun w' => w'.cell? ⟨B, 0, none⟩ = some (.slice A na ca) ∧ w'.cell? ⟨B, 1, none⟩ = some (encS xa) ∧ w'.cell? ⟨B + 1, 0, none⟩ = some (.slice C nb cb) ∧ w'.cell? ⟨B + 1, 1, none⟩ = some (encS xb)) (first | exact ⟨a0, a1, a2, a3⟩ | exact ⟨HE3.out.cell a0, HE3.out.cell a1, HE3.out.cell a2, HE3.out.cell a3⟩ | go_keep) (first
    | (go_at_call 151; refine (HSC.out _).mono ?_; rintro e w1 ⟨rfl, rfl⟩)
    | (go_at_call 152; refine (cmpTicks_any _ _ ta tb _ (HA.out.ext HE2.out.drew) (HB.out.ext HE2.out.drew)).mono ?_; rintro e w3 ⟨rfl, hE3⟩; rw [HR2.out]; have HE3 : Hid (Ext w2 w3) := Lib.hid ((Ext.refl w2).drew.trans hE3); clear hE3; have HRD : Hid (Rd1 (w3.alloc (.cells #[.int .i64 r1, .int .i64 r2] 3)) encZ (.slice (some ⟨w3.heap.size, 0, none⟩) 2 2) [r1, r2]) := Lib.hid (Rd1.new2 w3 _ _ _))
    | (go_at_call 144; refine (orInt_any _ [r1, r2] _ HRD.out).mono ?_; rintro e w1 ⟨rfl, rfl⟩; rw [← HC.out]))
  all_goals (go_wp2_with (fail); go_ret; exact ⟨rfl, (HE2.out.trans HE3.out).alloc _⟩)
end Go.Proofs.YthldgioggjpnpaaGreat
