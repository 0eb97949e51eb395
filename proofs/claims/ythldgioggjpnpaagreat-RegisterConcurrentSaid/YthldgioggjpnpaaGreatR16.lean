/-
  Contracts: join.elements, check, JoinAll, Join at registers.
-/
import Derived.Test.YthldgioggjpnpaaGreatR15
namespace Go.Proofs.YthldgioggjpnpaaGreat
open Go.RowKit

/-- what a value is known by: its number, how many names and parts, its entries -/
abbrev VR := Int × Nat × Nat × List En
def vrOk (x : VR) : Bool := isReg x.1 x.2.1 x.2.2.1 x.2.2.2
/-- a slice of values -/
def RdL (w : World) (v : Value) (vs : List VR) : Prop :=
  ∃ A n c, v = .slice A n c ∧ vs.length = n ∧ n ≤ c ∧ c ≤ maxLen ∧
    (0 < n → ∃ b off, A = some ⟨b, off, none⟩ ∧ b < w.heap.size ∧ ∀ j x, vs[j]? = some x →
      ∃ An cn Ap cp ve, w.cell? ⟨b, off + j * 4, none⟩ = some (.int .i64 x.1) ∧ w.cell? ⟨b, off + j * 4 + 1, none⟩ = some (.slice An x.2.1 cn) ∧ w.cell? ⟨b, off + j * 4 + 2, none⟩ = some (.slice Ap x.2.2.1 cp) ∧ w.cell? ⟨b, off + j * 4 + 3, none⟩ = some ve ∧ RdE w ve x.2.2.2)
theorem RdL.ext {w w' : World} {v : Value} {vs : List VR} (h : RdL w v vs) (he : Ext w w') : RdL w' v vs := by
  obtain ⟨A, n, c, hv, hl, h1, h2, h3⟩ := h
  refine ⟨A, n, c, hv, hl, h1, h2, fun hn => ?_⟩
  obtain ⟨b, off, hA, hb, hc⟩ := h3 hn
  refine ⟨b, off, hA, Nat.lt_of_lt_of_le hb he.size, fun j x hj => ?_⟩
  obtain ⟨An, cn, Ap, cp, ve, e0, e1, e2, e3, e4⟩ := hc j x hj
  exact ⟨An, cn, Ap, cp, ve, he.cell e0, he.cell e1, he.cell e2, he.cell e3, e4.ext he⟩
theorem RdL.at_ {w : World} {A : Option Addr} {n c : Nat} {vs : List VR} (h : RdL w (.slice A n c) vs) {j : Nat} (hj : j < n) :
    ∃ b off x An cn Ap cp ve, A = some ⟨b, off, none⟩ ∧ b < w.heap.size ∧ vs[j]? = some x ∧ w.cell? ⟨b, off + j * 4, none⟩ = some (.int .i64 x.1) ∧ w.cell? ⟨b, off + j * 4 + 1, none⟩ = some (.slice An x.2.1 cn) ∧ w.cell? ⟨b, off + j * 4 + 2, none⟩ = some (.slice Ap x.2.2.1 cp) ∧ w.cell? ⟨b, off + j * 4 + 3, none⟩ = some ve ∧ RdE w ve x.2.2.2 := by
  obtain ⟨A', n', c', he, hl, h1, h2, h3⟩ := h
  injection he with e1 e2 e3
  subst e1 e2 e3
  obtain ⟨b, off, hA, hb, hc⟩ := h3 (by omega)
  have hjl : j < vs.length := by omega
  have e := List.getElem?_eq_getElem hjl
  obtain ⟨An, cn, Ap, cp, ve, r⟩ := hc j _ e
  exact ⟨b, off, _, An, cn, Ap, cp, ve, hA, hb, e, r⟩

theorem RdE.slice {w : World} {v : Value} {es : List En} (h : RdE w v es) : ∃ A n c, v = .slice A n c := by
  obtain ⟨A, n, c, hv, -⟩ := h
  exact ⟨A, n, c, hv⟩
abbrev latCells : Array Value := #[.int .i64 9, .int .i64 0, .int .i64 0, nilS, nilS, nilS]

set_option maxRecDepth 100000 in
set_option maxHeartbeats 2000000 in
theorem elements_any (v : Value) (vs : List VR) (w : World) (h : RdL w v vs) :
    Calls Tryz.prog 76 #[latR, v] w fun e w' => e = .returned (.bool (vs.all vrOk)) ∧ Ext w w' := by
  have H := Lib.hid h
  obtain ⟨A, n, c, rfl, hl, hnc, hcm, -⟩ := h
  unfold maxLen at hcm
  have HL := Lib.hid hl; clear hl
  go_enter Tryz.func76, Tryz.ntmps76
  go_wp2_with (fail)
  obtain ⟨wa, hwa⟩ : ∃ wa, wa = w.alloc (.cells latCells 46) := ⟨_, rfl⟩
  have hEa : Ext w wa := by rw [hwa]; exact (Ext.refl w).alloc _
  have hB : Blk wa w.heap.size 46 latCells := by rw [hwa]; exact Blk.new _ _ _
  rw [← hwa]
  clear hwa
  have HB := Lib.hid hB; clear hB
  generalize w.heap.size = G at *
  have HEA := Lib.hid hEa; clear hEa
  go_loopw [9] (fun i wr => ∃ k : Nat, k ≤ n ∧ i = .int .i64 k ∧ (vs.take k).all vrOk = true ∧ Ext wa wr) (fun i _ => n - (intOf i).toNat)
  case atStart => exact ⟨0, Nat.zero_le _, rfl, by simp, Ext.refl _⟩
  case round =>
    obtain ⟨k, hk, rfl, hall, hE⟩ := hrel
    have HALL := Lib.hid hall; clear hall
    have HE := Lib.hid hE; clear hE
    by_cases hlt : k < n
    · obtain ⟨b, off, x, An, cn, Ap, cp, ve, rfl, hb, hx, c0, c1, c2, c3, hve⟩ := RdL.at_ (H.out.ext (HEA.out.trans HE.out)) hlt
      have HX := Lib.hid hx; clear hx
      obtain ⟨Ae, ne, ce, rfl⟩ := hve.slice
      have hV : RdV wr (.agg #[.int .i64 x.1, .slice An x.2.1 cn, .slice Ap x.2.2.1 cp, .slice Ae ne ce]) x.1 x.2.1 x.2.2.1 x.2.2.2 := ⟨_, _, _, _, _, rfl, hve⟩
      have HV := Lib.hid (vvalid_any _ x.1 x.2.1 x.2.2.1 x.2.2.2 (wr.alloc (.cells #[.int .i64 x.1, .slice An x.2.1 cn, .slice Ap x.2.2.1 cp, .slice Ae ne ce] 26)) (hV.ext ((Ext.refl wr).alloc _)))
      clear hV hve
      have HBr := HB.out.ext HE.out
      have g0 : wr.cell? ⟨G, 0, none⟩ = some (.int .i64 9) := HBr.cell 0
      have g1 : wr.cell? ⟨G, 1, none⟩ = some (.int .i64 0) := HBr.cell 1
      have g2 : wr.cell? ⟨G, 2, none⟩ = some (.int .i64 0) := HBr.cell 2
      have g3 : wr.cell? ⟨G, 3, none⟩ = some nilS := HBr.cell 3
      have g4 : wr.cell? ⟨G, 4, none⟩ = some nilS := HBr.cell 4
      have g5 : wr.cell? ⟨G, 5, none⟩ = some nilS := HBr.cell 5
      have lg := HBr.lt
      clear HBr
      have hbw2 : b < (wr.alloc (.cells #[.int .i64 0, nilS, nilS, nilS] 26)).heap.size := by simp; omega
      have hok : vrOk x = isReg x.1 x.2.1 x.2.2.1 x.2.2.2 := rfl
      cases hr : isReg x.1 x.2.1 x.2.2.1 x.2.2.2 with
      | true =>
        rw [hr] at HV hok
        have HOK := Lib.hid hok; clear hok hr
        go_wp2_with (go_at_call 34; refine HV.out.mono ?_; rintro e w1 ⟨rfl, hE1⟩; have HE1 := Lib.hid ((HE.out.alloc _).trans hE1); clear hE1)
        go_roundw
        case rel =>
          refine ⟨k + 1, by omega, by go_num, ?_, HE1.out⟩
          obtain ⟨hkl, hke⟩ := List.getElem?_eq_some_iff.1 HX.out
          rw [List.take_succ_eq_append_getElem hkl, hke, List.all_append, HALL.out]
          simp [HOK.out]
        case measure => simp [intOf]; omega
      | false =>
        rw [hr] at HV hok
        have HOK := Lib.hid hok; clear hok hr
        go_wp2_with (go_at_call 34; refine HV.out.mono ?_; rintro e w1 ⟨rfl, hE1⟩; have HE1 := Lib.hid ((HE.out.alloc _).trans hE1); clear hE1)
        go_ret
        refine ⟨ret_bool ?_, HEA.out.trans HE1.out⟩
        symm
        rw [List.all_eq_false]
        exact ⟨x, List.mem_of_getElem? HX.out, by rw [HOK.out]; simp⟩
    · go_wp2_with (fail)
      go_ret
      refine ⟨ret_bool ?_, HEA.out.trans HE.out⟩
      have := HALL.out
      rw [List.take_of_length_le (by have := HL.out; omega)] at this
      exact this.symm

set_option maxRecDepth 100000 in
set_option maxHeartbeats 2000000 in
theorem checkL_any (v : Value) (vs : List VR) (w : World) (h : RdL w v vs) (hok : vs.all vrOk = true) :
    Calls Tryz.prog 50 #[latR, v] w fun e w' => e = .returned (.int .i64 0) ∧ Ext w w' := by
  have H := Lib.hid (fun W (hW : Ext w W) => elements_any v vs W (h.ext hW))
  rw [hok] at H
  clear hok
  obtain ⟨A, n, c, rfl, -⟩ := h
  have hB1 : Blk (w.alloc (.cells latCells 46)) w.heap.size 46 latCells := Blk.new _ _ _
  have HB1 := Lib.hid hB1; clear hB1
  go_enter Tryz.func50, Tryz.ntmps50
  go_wp2_with (first
    | (go_at_call 52; refine (checkR _).mono ?_; rintro e w1 ⟨rfl, hE1⟩; have g1 := HB1.out.ext hE1; have c0 := g1.cell 0; have c1 := g1.cell 1; have c2 := g1.cell 2; have c3 := g1.cell 3; have c4 := g1.cell 4; have c5 := g1.cell 5; have l1 := g1.lt; clear g1; simp [latCells] at c0 c1 c2 c3 c4 c5; have HE1 := Lib.hid (((Ext.refl w).alloc _).trans hE1); clear hE1)
    | (go_at_call 76; refine (H.out _ HE1.out).mono ?_; rintro e w2 ⟨rfl, hE2⟩; have HE2 := Lib.hid (HE1.out.trans hE2); clear hE2))
  go_ret
  exact ⟨rfl, HE2.out⟩

def JoinedTo : List En → List VR → List En → Prop
  | es0, [], es => es = es0
  | es0, a :: r, es => ∃ es1, es1.Perm (mergedL es0 a.2.2.2) ∧ es1.Pairwise (fun x y => cmpEn x y ≤ 0) ∧ JoinedTo es1 r es

theorem regFrom_valid (pre es : List En) (h : regFrom pre es = true) : ∀ x ∈ es, validT x.1 = true := by
  induction es generalizing pre with
  | nil => simp
  | cons e r ih =>
    rw [regFrom, Bool.and_eq_true] at h
    intro x hx
    rcases List.mem_cons.1 hx with rfl | hx
    · have := h.1
      rw [oneOk, Bool.and_eq_true, Bool.and_eq_true] at this
      exact this.2.1
    · exact ih _ h.2 x hx
theorem isReg_valid {N : Int} {nn np : Nat} {es : List En} (h : isReg N nn np es = true) : ∀ x ∈ es, validT x.1 = true := by
  rw [isReg, Bool.and_eq_true] at h
  exact regFrom_valid [] es h.2
theorem mergedL_mem {a b : List En} {x : En} (h : x ∈ mergedL a b) : x ∈ a ∨ x ∈ b := by
  rw [mergedL, List.mem_append, List.mem_filter, List.mem_filter] at h
  rcases h with h | h
  · exact .inl h.1
  · exact .inr h.1
theorem mergedL_len (a b : List En) : (mergedL a b).length ≤ a.length + b.length := by
  rw [mergedL, List.length_append]
  have h1 := List.length_filter_le (fun p => !b.any (underE p)) a
  have h2 := List.length_filter_le (fun q => !a.any (fun p => isBefore q p)) b
  omega

theorem Blk.far4 {w : World} {g B : Nat} {t : TypeId} {cs : Array Value} (h : Blk w g t cs) (hne : g ≠ B) (a b c d : Value) :
    Blk ((((w.setCell ⟨B, 0, none⟩ a).setCell ⟨B, 1, none⟩ b).setCell ⟨B, 2, none⟩ c).setCell ⟨B, 3, none⟩ d) g t cs :=
  (((h.far (p := ⟨B, 0, none⟩) hne a).far (p := ⟨B, 1, none⟩) hne b).far (p := ⟨B, 2, none⟩) hne c).far (p := ⟨B, 3, none⟩) hne d

set_option maxRecDepth 100000 in
set_option maxHeartbeats 4000000 in
theorem joinAll_any (v : Value) (vs : List VR) (w : World) (h : RdL w v vs) (hok : vs.all vrOk = true) (hn : vs.length ≤ 8) (hm : ∀ x ∈ vs, x.2.2.2.length ≤ 100000) :
    Calls Tryz.prog 48 #[latR, v] w fun e w' => ∃ u es, e = .returned (.tuple #[.agg #[.int .i64 0, nilS, nilS, u], .int .i64 0]) ∧ JoinedTo [] vs es ∧ RdE w' u es ∧ Ext w w' := by
  have H := Lib.hid h
  have HCK := Lib.hid (fun W (hW : Ext w W) => checkL_any v vs W (h.ext hW) hok)
  obtain ⟨A, n, c, rfl, hl, hnc, hcm, -⟩ := h
  unfold maxLen at hcm
  have HL := Lib.hid hl
  have hn8 : n ≤ 8 := by omega
  clear hl hn
  have HOK := Lib.hid hok; clear hok
  have HM := Lib.hid hm; clear hm
  go_enter Tryz.func48, Tryz.ntmps48
  go_upto_region 1 with (fail)
  obtain ⟨wa, hwa⟩ : ∃ wa, wa = (w.alloc (.cells latCells 46)).alloc (.cells #[.int .i64 0, nilS, nilS, nilS] 26) := ⟨_, rfl⟩
  have hEa : Ext w wa := by rw [hwa]; exact ((Ext.refl w).alloc _).alloc _
  have hB : Blk wa w.heap.size 46 latCells := by rw [hwa]; exact (Blk.new _ _ _).alloc _
  have hR : Blk wa (w.heap.size + 1) 26 #[.int .i64 0, nilS, nilS, nilS] := by rw [hwa]; exact Blk.new' _ _ _ _ (by simp)
  rw [← hwa]
  clear hwa
  have g0 : wa.cell? ⟨w.heap.size, 0, none⟩ = some (.int .i64 9) := hB.cell 0
  have g1 : wa.cell? ⟨w.heap.size, 1, none⟩ = some (.int .i64 0) := hB.cell 1
  have g2 : wa.cell? ⟨w.heap.size, 2, none⟩ = some (.int .i64 0) := hB.cell 2
  have g3 : wa.cell? ⟨w.heap.size, 3, none⟩ = some nilS := hB.cell 3
  have g4 : wa.cell? ⟨w.heap.size, 4, none⟩ = some nilS := hB.cell 4
  have g5 : wa.cell? ⟨w.heap.size, 5, none⟩ = some nilS := hB.cell 5
  have lg := hB.lt
  have hgs : w.heap.size ≤ w.heap.size + 1 := by omega
  have HB := Lib.hid hB; clear hB
  have HR := Lib.hid hR; clear hR
  generalize hG : w.heap.size = G at *
  have HEA := Lib.hid hEa; clear hEa
  go_upto_region 5 with (first
    | (go_at_call 50; refine (HCK.out _ HEA.out).mono ?_; rintro e w1 ⟨rfl, hE1⟩; have k0 := hE1.cell g0; have k1 := hE1.cell g1; have k2 := hE1.cell g2; have k3 := hE1.cell g3; have k4 := hE1.cell g4; have k5 := hE1.cell g5; have lg1 := Nat.lt_of_lt_of_le lg hE1.size; have HE1 := Lib.hid hE1; clear hE1)
    | (go_at_call 73; refine (leastR _).mono ?_; rintro e w2 ⟨rfl, hE2⟩; have HE2 := Lib.hid (HE1.out.trans hE2); clear hE2))
  obtain ⟨w3, hw3⟩ : ∃ w3, w3 = w2.alloc (.cells #[.int .i64 0, nilS, nilS, nilS] 26) := ⟨_, rfl⟩
  have hE3 : Ext wa w3 := by rw [hw3]; exact HE2.out.alloc _
  have hV : Blk w3 w2.heap.size 26 #[.int .i64 0, nilS, nilS, nilS] := by rw [hw3]; exact Blk.new _ _ _
  rw [← hw3]
  clear hw3
  have hwa := HR.out.lt
  have hw2 := HE2.out.size
  have hV1 : w2.heap.size ≠ G := by omega
  have hV2 : w2.heap.size ≠ G + 1 := by omega
  have hV3 : G ≤ w2.heap.size := by omega
  have HV := Lib.hid hV; clear hV
  have HE3 := Lib.hid hE3; clear hE3
  clear hwa hw2 k0 k1 k2 k3 k4 k5 g0 g1 g2 g3 g4 g5 lg lg1
  generalize w2.heap.size = V at *
  have HB3 := Lib.hid (HB.out.ext HE3.out)
  have HR3 := Lib.hid (HR.out.ext HE3.out)
  have HEW := Lib.hid (HEA.out.trans HE3.out)
  clear HE2 HE1 HB HR
  go_wp2_with (fail)
  go_loopw [21] (fun i wr => ∃ (k : Nat) (ve : Value) (es : List En), k ≤ n ∧ i = .int .i64 k ∧ Blk wr V 26 #[.int .i64 0, nilS, nilS, ve] ∧ Blk wr G 46 latCells ∧ Blk wr (G + 1) 26 #[.int .i64 0, nilS, nilS, nilS] ∧ RdE wr ve es ∧ (∀ es', JoinedTo es (vs.drop k) es' → JoinedTo [] vs es') ∧ (∀ x ∈ es, validT x.1 = true) ∧ es.length ≤ k * 100000 ∧ Ext w wr) (fun i _ => n - (intOf i).toNat)
  case atStart => exact ⟨0, nilS, [], Nat.zero_le _, rfl, HV.out, HB3.out, HR3.out, ⟨none, 0, 0, rfl, rfl, Nat.le_refl _, Nat.zero_le _, fun h => absurd h (by omega)⟩, fun es' h => h, by simp, by simp, HEW.out⟩
  case round =>
    obtain ⟨k, ve, es, hk, rfl, hv, hb, hr, hre, hj, hva, hle, hE⟩ := hrel
    have HRE := Lib.hid hre
    obtain ⟨Ae, ne, ce, rfl⟩ := hre.slice
    clear hre
    have HVr := Lib.hid hv
    have HBr := Lib.hid hb
    have HRr := Lib.hid hr
    have HJ := Lib.hid hj; clear hj
    have HVA := Lib.hid hva; clear hva
    have HLE := Lib.hid hle; clear hle
    have HE := Lib.hid hE; clear hE
    have v0 : wr.cell? ⟨V, 0, none⟩ = some (.int .i64 0) := hv.cell 0
    have v1 : wr.cell? ⟨V, 1, none⟩ = some nilS := hv.cell 1
    have v2 : wr.cell? ⟨V, 2, none⟩ = some nilS := hv.cell 2
    have v3 : wr.cell? ⟨V, 3, none⟩ = some (.slice Ae ne ce) := hv.cell 3
    have lv := hv.lt
    by_cases hlt : k < n
    · obtain ⟨b, off, x, An, cn, Ap, cp, vx, rfl, hb1, hx, c0, c1, c2, c3, hvx⟩ := RdL.at_ H.out hlt
      have HX := Lib.hid hx
      have hxm := List.mem_of_getElem? hx
      have hxok : isReg x.1 x.2.1 x.2.2.1 x.2.2.2 = true := List.all_eq_true.1 HOK.out x hxm
      have hxl := HM.out x hxm
      clear hx hxm
      obtain ⟨Ax, nx, cx, rfl⟩ := hvx.slice
      have c0 := HE.out.cell c0
      have c1 := HE.out.cell c1
      have c2 := HE.out.cell c2
      have c3 := HE.out.cell c3
      have hbw : b < wr.heap.size := World.block_lt_of_cell? _ _ c0
      have hbw2 : b < (wr.alloc (.cells #[.int .i64 0, nilS, nilS, nilS] 26)).heap.size := by simp; omega
      have g0 : wr.cell? ⟨G, 0, none⟩ = some (.int .i64 9) := hb.cell 0
      have g1 : wr.cell? ⟨G, 1, none⟩ = some (.int .i64 0) := hb.cell 1
      have g2 : wr.cell? ⟨G, 2, none⟩ = some (.int .i64 0) := hb.cell 2
      have g3 : wr.cell? ⟨G, 3, none⟩ = some nilS := hb.cell 3
      have g4 : wr.cell? ⟨G, 4, none⟩ = some nilS := hb.cell 4
      have g5 : wr.cell? ⟨G, 5, none⟩ = some nilS := hb.cell 5
      have lg := hb.lt
      have hal := (Ext.refl wr).alloc (.cells #[.int .i64 x.1, .slice An x.2.1 cn, .slice Ap x.2.2.1 cp, .slice Ax nx cx] 26)
      have HJN := Lib.hid (joinR_any (.agg #[.int .i64 0, nilS, nilS, .slice Ae ne ce]) (.agg #[.int .i64 x.1, .slice An x.2.1 cn, .slice Ap x.2.2.1 cp, .slice Ax nx cx]) 0 x.1 0 0 x.2.1 x.2.2.1 es x.2.2.2 _ ⟨_, _, _, _, _, rfl, HRE.out.ext hal⟩ ⟨_, _, _, _, _, rfl, hvx.ext (HE.out.trans hal)⟩ HVA.out (isReg_valid hxok) (by have := HLE.out; omega) (by omega))
      have HV4 := Lib.hid (HVr.out.ext hal)
      have HB4 := Lib.hid (HBr.out.ext hal)
      have HR4 := Lib.hid (HRr.out.ext hal)
      have HE4 := Lib.hid (HE.out.trans hal)
      have HXV := Lib.hid (isReg_valid hxok)
      clear hvx hal hxok hv hb hr
      go_wp2_with (go_at_call 74; refine HJN.out.mono ?_; rintro e w5 ⟨u5, es5, rfl, hp5, hs5, hr5, hE5⟩; have hv5 := HV4.out.ext hE5; have d0 : w5.cell? ⟨V, 0, none⟩ = some (.int .i64 0) := hv5.cell 0; have d1 : w5.cell? ⟨V, 1, none⟩ = some nilS := hv5.cell 1; have d2 : w5.cell? ⟨V, 2, none⟩ = some nilS := hv5.cell 2; have d3 : w5.cell? ⟨V, 3, none⟩ = some (.slice Ae ne ce) := hv5.cell 3; have f0 := hv5.frozen 0; have f1 := hv5.frozen 1; have f2 := hv5.frozen 2; have f3 := hv5.frozen 3; have l5 := hv5.lt; have HV5 := Lib.hid hv5; clear hv5; have HB5 := Lib.hid (HB4.out.ext hE5); have HR5 := Lib.hid (HR4.out.ext hE5); have HE5 := Lib.hid (HE4.out.trans hE5); clear hE5; have HP5 := Lib.hid hp5; clear hp5; have HS5 := Lib.hid hs5; clear hs5; have HRD5 := Lib.hid hr5; obtain ⟨A5, n5, k5, rfl⟩ := hr5.slice; clear hr5)
      go_roundw
      case rel =>
        refine ⟨k + 1, _, es5, by omega, by go_num, HV5.out.store4 _ _ _ _, HB5.out.far4 (Ne.symm hV1) _ _ _ _, HR5.out.far4 (Ne.symm hV2) _ _ _ _, HRD5.out.store4 ⟨_, _, _, _, _, _, _, _, _, _, _, HV5.out⟩ _ _ _ _, ?_, ?_, ?_, HE5.out.store4 (by show w.heap.size ≤ V; omega) _ _ _ _⟩
        · intro es' h'
          refine HJ.out es' ?_
          obtain ⟨hkl, hke⟩ := List.getElem?_eq_some_iff.1 HX.out
          rw [List.drop_eq_getElem_cons hkl, hke]
          exact ⟨es5, HP5.out, HS5.out, h'⟩
        · intro y hy
          rcases mergedL_mem (HP5.out.mem_iff.1 hy) with h | h
          · exact HVA.out y h
          · exact HXV.out y h
        · rw [HP5.out.length_eq]
          have := mergedL_len es x.2.2.2
          have := HLE.out
          omega
      case measure => simp [intOf]; omega
    · have HJF : Hid (JoinedTo [] vs es) := Lib.hid (HJ.out es (by rw [List.drop_of_length_le (by have := HL.out; omega)]; exact rfl))
      have HCP := Lib.hid (copied_any (.slice Ae ne ce) es wr HRE.out (by have := HLE.out; omega) (fun x hx => by have := validT_len _ (HVA.out x hx); omega))
      clear hv hb hr
      go_wp2_with (go_at_call 75; refine HCP.out.mono ?_; rintro e w5 ⟨u5, rfl, hr5, hE5⟩; have hv5 := HRr.out.ext hE5; have d0 : w5.cell? ⟨G + 1, 0, none⟩ = some (.int .i64 0) := hv5.cell 0; have d1 : w5.cell? ⟨G + 1, 1, none⟩ = some nilS := hv5.cell 1; have d2 : w5.cell? ⟨G + 1, 2, none⟩ = some nilS := hv5.cell 2; have d3 : w5.cell? ⟨G + 1, 3, none⟩ = some nilS := hv5.cell 3; have f0 := hv5.frozen 0; have f1 := hv5.frozen 1; have f2 := hv5.frozen 2; have f3 := hv5.frozen 3; have l5 := hv5.lt; have HV5 := Lib.hid hv5; clear hv5; have HE5 := Lib.hid (HE.out.trans hE5); clear hE5; have HRD5 := Lib.hid hr5; obtain ⟨A5, n5, k5, rfl⟩ := hr5.slice; clear hr5)
      obtain ⟨wz, hwz⟩ : ∃ wz, wz = ((((w5.setCell ⟨G + 1, 0, none⟩ (.int .i64 0)).setCell ⟨G + 1, 1, none⟩ nilS).setCell ⟨G + 1, 2, none⟩ nilS).setCell ⟨G + 1, 3, none⟩ (.slice A5 n5 k5)) := ⟨_, rfl⟩
      have hBz : Blk wz (G + 1) 26 #[.int .i64 0, nilS, nilS, .slice A5 n5 k5] := by rw [hwz]; exact HV5.out.store4 _ _ _ _
      have hEz : Ext w wz := by rw [hwz]; exact HE5.out.store4 (by omega) _ _ _ _
      have hRz : RdE wz (.slice A5 n5 k5) es := by rw [hwz]; exact HRD5.out.store4 ⟨_, _, _, _, _, _, _, _, _, _, _, HV5.out⟩ _ _ _ _
      rw [← hwz]
      clear hwz d0 d1 d2 d3
      have d0 : wz.cell? ⟨G + 1, 0, none⟩ = some (.int .i64 0) := hBz.cell 0
      have d1 : wz.cell? ⟨G + 1, 1, none⟩ = some nilS := hBz.cell 1
      have d2 : wz.cell? ⟨G + 1, 2, none⟩ = some nilS := hBz.cell 2
      have d3 : wz.cell? ⟨G + 1, 3, none⟩ = some (.slice A5 n5 k5) := hBz.cell 3
      clear hBz
      refine bodyPost_ret (v := .tuple #[.agg #[.int .i64 0, nilS, nilS, .slice A5 n5 k5], .int .i64 0]) (by simp [results, Tryz.results48, go_sem, d0, d1, d2, d3]) rfl ?_
      exact ⟨_, es, rfl, HJF.out, hRz, hEz⟩
end Go.Proofs.YthldgioggjpnpaaGreat
