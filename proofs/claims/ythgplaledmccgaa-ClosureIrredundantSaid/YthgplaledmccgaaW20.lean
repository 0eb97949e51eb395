/-
  Contract: closure.Equivalent.
-/
import Derived.Test.YthgplaledmccgaaW11
import Derived.StillTailTactics
import Derived.Deep.RegionHeld3
import Derived.Test.YthgplaledmccgaaSpec10
namespace Go.Proofs.Ythgplaledmccgaa
open Go.RowKit

set_option maxRecDepth 100000 in
set_option maxHeartbeats 400000 in
theorem equiv1_any (i N k : Nat) (bn bk : Nat) (w : World) (hb : w.cell? ⟨bn, 0, none⟩ = some (.int .i64 (N : Int))) (hk : w.cell? ⟨bk, 0, none⟩ = some (.int .i64 (k : Int))) :
    Calls Try.prog 52 #[.int .i64 (i : Int), .pointer (some ⟨bn, 0, none⟩), .pointer (some ⟨bk, 0, none⟩)] w fun e w' => e = .returned (.bool (decide (i < N) != decide (k < N))) ∧ w = w' := by
  go_enter Try.func52, Try.ntmps52
  go_wp2_with (fail)
  go_ret
  refine ⟨ret_bool ?_, rfl⟩
  by_cases h1 : i < N <;> by_cases h2 : k < N <;> simp [h1, h2]
theorem equiv1_use (N k m bn bk : Nat) (w : World) (hb : w.cell? ⟨bn, 0, none⟩ = some (.int .i64 (N : Int))) (hk : w.cell? ⟨bk, 0, none⟩ = some (.int .i64 (k : Int))) :
    UseAt Try.prog (.func (.func 52) #[] #[.pointer (some ⟨bn, 0, none⟩), .pointer (some ⟨bk, 0, none⟩)]) m (fun i => decide (i < N) != decide (k < N)) w :=
  ⟨_, _, rfl, fun _ _ => by kernel_rfl, fun W i hE _ => equiv1_any i N k bn bk W (hE.cell hb) (hE.cell hk)⟩

def eqE (u : List Nm) (a b : List RuleN) : Int := if checkE u a = 0 then rulesE u b else checkE u a
/-- rule k of both follows from the other's rules -/
def eqK (u : List Nm) (a b : List RuleN) (k : Nat) (h : Horn) : Bool :=
  (chainB (a.map (toHorn u) ++ b.map (toHorn u)) (fun i => decide (i < a.length) != decide (k < a.length)) (setOf u.length h.1)).1.getD h.2 false
def eqB (u : List Nm) (a b : List RuleN) : Bool :=
  (List.range (a.map (toHorn u) ++ b.map (toHorn u)).length).all fun k => eqK u a b k ((a.map (toHorn u) ++ b.map (toHorn u)).getD k ([], 0))

set_option maxRecDepth 100000 in
set_option maxHeartbeats 2000000 in
theorem equivalent_ok (vu va vb : Value) (u : List Nm) (a b : List RuleN) (w : World) (hu : InU w vu u) (hra : InR w va a) (hrb : InR w vb b) (h0 : eqE u a b = 0) (hsz : a.length + b.length ≤ 1000000) :
    Calls Try.prog 24 #[vu, va, vb] w fun e w' => e = .returned (.tuple #[.bool (eqB u a b), .int .i64 0]) ∧ Ext w w' := by
  have hc0 : checkE u a = 0 := by
    unfold eqE at h0
    by_cases h : checkE u a = 0
    · exact h
    · rw [if_neg h] at h0; exact absurd h0 h
  have hs0 : rulesE u b = 0 := by unfold eqE at h0; rwa [if_pos hc0] at h0
  have HU := Lib.hid hu; clear hu
  have HA := Lib.hid hra; clear hra
  have HB := Lib.hid hrb; clear hrb
  have HOK := Lib.hid (rulesE_ok.1 hs0)
  have HC0 := Lib.hid hc0; clear hc0
  have HS0 := Lib.hid hs0; clear hs0 h0
  have HSZ := Lib.hid hsz; clear hsz
  go_enter Try.func24, Try.ntmps24
  go_wp2_with (fail)
  refine (parse_ok _ _ u a _ HU.out HA.out HC0.out).mono ?_
  rintro e w1 ⟨bs, vu', vr, rfl, hS⟩
  have hb1 : bs < w1.heap.size := hS.blk.lt
  have hcr := hS.read.cr
  have hrh := hS.read.rh
  obtain ⟨Ar, nr, cr, rfl, hln, -⟩ := hrh
  have HS := Lib.hid hS; clear hS
  have HLN := Lib.hid hln; clear hln
  go_wp2_with (fail)
  refine Calls.mono (add_any _ bs vu' _ _ u (a.map (toHorn u)) b _ (HS.out.later ((Ext.refl _).alloc _)) [(w1.heap.size, 3, #[.int .i64 (nr : Int)])] ?_ ?_ ?_ ?_ ?_) ?_
  · intro p hp
    simp only [List.mem_cons, List.not_mem_nil, or_false] at hp
    rcases hp with rfl; simp
  · intro p hp
    simp only [List.mem_cons, List.not_mem_nil, or_false] at hp
    rcases hp with rfl
    exact Blk.new _ _ _
  · intro W hE hX
    exact HB.out.rd.ext hE
  · have := HSZ.out; simp; omega
  · exact HB.out.pr
  rintro e w2 ⟨rfl, hE2, hS2'⟩
  obtain ⟨vr2, hS2, hX2⟩ := hS2' HS0.out
  clear hS2'
  rw [HS0.out]
  have hn2 := (hX2 _ (List.mem_cons_self ..)).cell 0
  simp only [List.getElem?_toArray, List.getElem?_cons_zero] at hn2
  have hnl2 : w1.heap.size < w2.heap.size := World.block_lt_of_cell? _ _ hn2
  have hR2 := hS2.read
  have HE2 := Lib.hid hE2; clear hE2
  clear hX2 hb1 hcr
  clear hS2
  have hcr2 := hR2.cr
  have hbl2 : bs < w2.heap.size := World.block_lt_of_cell? _ _ hcr2
  have hrh2 := hR2.rh
  have HR2 := Lib.hid hR2; clear hR2
  obtain ⟨A2, m2, c2, rfl, hlm, hmc, hcm2, hcell2⟩ := hrh2
  have hnr : nr = a.length := by have := HLN.out; simpa using this.symm
  subst hnr
  have HLM := Lib.hid hlm; clear hlm
  have HC2 := Lib.hid hcell2; clear hcell2
  unfold maxLen at hcm2
  have hok : okH u.length (a.map (toHorn u) ++ b.map (toHorn u)) := by
    intro h hh
    rcases List.mem_append.1 hh with hh | hh
    · exact okH_of HR2.out.asc (checkE_ok.1 HC0.out).2.2 h hh
    · exact okH_of HR2.out.asc HOK.out h hh
  have HOKH := Lib.hid hok; clear hok
  go_wp2_with (fail)
  go_loopw [39] (fun i wr => ∃ k : Nat, k ≤ m2 ∧ i = .int .i64 k ∧ Ext w2 wr ∧ ∀ j, j < k → eqK u a b j ((a.map (toHorn u) ++ b.map (toHorn u)).getD j ([], 0)) = true) (fun i _ => m2 - (intOf i).toNat)
  case atStart => exact ⟨0, Nat.zero_le _, rfl, Ext.refl _, fun j hj => absurd hj (Nat.not_lt_zero j)⟩
  case round =>
    obtain ⟨k, hk, rfl, hE, hno⟩ := hrel
    have HE := Lib.hid hE; clear hE
    have HNO := Lib.hid hno; clear hno
    by_cases hlt : k < m2
    · obtain ⟨b2, off2, rfl, hbb2, hcc⟩ := HC2.out (by omega)
      have hkl : k < (a.map (toHorn u) ++ b.map (toHorn u)).length := by rw [HLM.out]; exact hlt
      obtain ⟨q, hq1, hq2, hq3⟩ := hcc k _ (List.getElem?_eq_getElem hkl)
      have hq1 := HE.out.cell hq1
      have hq2 := HE.out.cell hq2
      have hgd : (a.map (toHorn u) ++ b.map (toHorn u)).getD k ([], 0) = (a.map (toHorn u) ++ b.map (toHorn u))[k] := by rw [List.getD_eq_getElem?_getD, List.getElem?_eq_getElem hkl]; rfl
      have HGD := Lib.hid hgd; clear hgd
      have hokr := HOKH.out _ (List.getElem_mem hkl)
      have HOKR := Lib.hid hokr; clear hokr
      generalize (a.map (toHorn u) ++ b.map (toHorn u))[k] = hr at *
      obtain ⟨prem, th⟩ := hr
      have HQ3 := Lib.hid (hq3.ext HE.out)
      obtain ⟨Aq, nq, cq, rfl, -⟩ := hq3
      clear hcc
      have hn2' := HE.out.cell hn2
      have hnl' : w1.heap.size < wr.heap.size := World.block_lt_of_cell? _ _ hn2'
      go_upto_region 11 with (fail)
      have hk0 : ((wr.alloc (.cells #[.int .i64 (k : Int)] 3)).alloc (.cells #[.slice Aq nq cq, .int .i64 (th : Int)] 86)).cell? ⟨wr.heap.size, 0, none⟩ = some (.int .i64 (k : Int)) := ((Blk.new _ _ _).alloc _).cell 0
      have hp0 : ((wr.alloc (.cells #[.int .i64 (k : Int)] 3)).alloc (.cells #[.slice Aq nq cq, .int .i64 (th : Int)] 86)).cell? ⟨wr.heap.size + 1, 0, none⟩ = some (.slice Aq nq cq) := (Blk.new' _ _ _ _ (by simp)).cell 0
      have hp1 : ((wr.alloc (.cells #[.int .i64 (k : Int)] 3)).alloc (.cells #[.slice Aq nq cq, .int .i64 (th : Int)] 86)).cell? ⟨wr.heap.size + 1, 1, none⟩ = some (.int .i64 (th : Int)) := (Blk.new' _ _ _ _ (by simp)).cell 1
      have hEa : Ext wr ((wr.alloc (.cells #[.int .i64 (k : Int)] 3)).alloc (.cells #[.slice Aq nq cq, .int .i64 (th : Int)] 86)) := ((Ext.refl _).alloc _).alloc _
      generalize (wr.alloc (.cells #[.int .i64 (k : Int)] 3)).alloc (.cells #[.slice Aq nq cq, .int .i64 (th : Int)] 86) = wa at *
      have hn3 := hEa.cell hn2'
      have HEA := Lib.hid (HE.out.trans hEa)
      have HQ4 := Lib.hid (HQ3.out.ext hEa)
      clear hEa hq1 hq2 hnl' hn2'
      cases heq : eqK u a b k (prem, th) with
      | true =>
        have hek : (chainB (a.map (toHorn u) ++ b.map (toHorn u)) (fun i => decide (i < a.length) != decide (k < a.length)) (setOf u.length prem)).1.getD th false = true := heq
        have HEQ := Lib.hid heq; clear heq
        have HEK := Lib.hid hek; clear hek
        go_wp2_with (go_at_call 50; refine (entailed_any bs vu' _ _ _ u (a.map (toHorn u) ++ b.map (toHorn u)) prem th (fun i => decide (i < a.length) != decide (k < a.length)) _ (HR2.out.ext HEA.out) HQ4.out HOKR.out.2 HOKR.out.1 (equiv1_use a.length k _ _ _ _ hn3 hk0)).mono ?_; rintro e w3 ⟨rfl, hE3⟩; rw [HEK.out]; have HE1 := Lib.hid hE3; clear hE3)
        all_goals
          go_roundw
          case rel =>
            refine ⟨k + 1, by omega, by go_num, HEA.out.trans HE1.out, fun j hj => ?_⟩
            by_cases hjk : j = k
            · rw [hjk, HGD.out]; exact HEQ.out
            · exact HNO.out j (by omega)
          case measure => simp [intOf]; omega
      | false =>
        have hek : (chainB (a.map (toHorn u) ++ b.map (toHorn u)) (fun i => decide (i < a.length) != decide (k < a.length)) (setOf u.length prem)).1.getD th false = false := heq
        have HEQ := Lib.hid heq; clear heq
        have HEK := Lib.hid hek; clear hek
        go_wp2_with (go_at_call 50; refine (entailed_any bs vu' _ _ _ u (a.map (toHorn u) ++ b.map (toHorn u)) prem th (fun i => decide (i < a.length) != decide (k < a.length)) _ (HR2.out.ext HEA.out) HQ4.out HOKR.out.2 HOKR.out.1 (equiv1_use a.length k _ _ _ _ hn3 hk0)).mono ?_; rintro e w3 ⟨rfl, hE3⟩; rw [HEK.out]; have HE1 := Lib.hid hE3; clear hE3)
        all_goals
          go_ret2
          have hres : eqB u a b = false := by
            unfold eqB
            rw [List.all_eq_false]
            refine ⟨k, List.mem_range.2 hkl, ?_⟩
            rw [HGD.out, HEQ.out]; decide
          rw [hres]
          exact ⟨rfl, HE2.out.trans (HEA.out.trans HE1.out)⟩
    · have hres : eqB u a b = true := by
        unfold eqB
        rw [List.all_eq_true]
        intro j hj
        have := List.mem_range.1 hj
        rw [HLM.out] at this
        exact HNO.out j (by omega)
      have HRES := Lib.hid hres; clear hres
      go_wp2_with (fail)
      go_ret2
      rw [HRES.out]
      exact ⟨rfl, HE2.out.trans HE.out⟩

set_option maxRecDepth 100000 in
set_option maxHeartbeats 2000000 in
theorem equivalent_err (vu va vb : Value) (u : List Nm) (a b : List RuleN) (w : World) (hu : InU w vu u) (hra : InR w va a) (hrb : InR w vb b) (h0 : eqE u a b ≠ 0) (hsz : a.length + b.length ≤ 1000000) :
    Calls Try.prog 24 #[vu, va, vb] w fun e w' => e = .returned (.tuple #[.bool false, .int .i64 (eqE u a b)]) ∧ Ext w w' := by
  have HU := Lib.hid hu; clear hu
  have HA := Lib.hid hra; clear hra
  have HB := Lib.hid hrb; clear hrb
  have HSZ := Lib.hid hsz; clear hsz
  by_cases hc0 : checkE u a = 0
  · have he : eqE u a b = rulesE u b := by unfold eqE; rw [if_pos hc0]
    rw [he] at h0 ⊢
    have HC0 := Lib.hid hc0; clear hc0 he
    have hzb : (rulesE u b != 0) = true := by simpa using h0
    have H0 := Lib.hid h0; clear h0
    go_enter Try.func24, Try.ntmps24
    go_wp2_with (fail)
    refine (parse_ok _ _ u a _ HU.out HA.out HC0.out).mono ?_
    rintro e w1 ⟨bs, vu', vr, rfl, hS⟩
    have hb1 : bs < w1.heap.size := hS.blk.lt
    have hcr := hS.read.cr
    have hrh := hS.read.rh
    obtain ⟨Ar, nr, cr, rfl, hln, -⟩ := hrh
    have HS := Lib.hid hS; clear hS hln
    go_wp2_with (fail)
    refine Calls.mono (add_any _ bs vu' _ _ u (a.map (toHorn u)) b _ (HS.out.later ((Ext.refl _).alloc _)) [] ?_ ?_ ?_ ?_ ?_) ?_
    · intro p hp; cases hp
    · intro p hp; cases hp
    · intro W hE hX
      exact HB.out.rd.ext hE
    · have := HSZ.out; simp; omega
    · exact HB.out.pr
    rintro e w2 ⟨rfl, hE2, -⟩
    have HE2 := Lib.hid hE2; clear hE2 hb1 hcr
    go_wp2_with (fail)
    go_ret2
    exact ⟨rfl, HE2.out⟩
  · have he : eqE u a b = checkE u a := by unfold eqE; rw [if_neg hc0]
    rw [he] at h0 ⊢
    clear he hc0
    have hzb : (checkE u a != 0) = true := by simpa using h0
    have H0 := Lib.hid h0; clear h0
    go_enter Try.func24, Try.ntmps24
    go_wp2_with (fail)
    refine (parse_err _ _ u a _ HU.out HA.out H0.out).mono ?_
    rintro e w1 ⟨rfl, hE⟩
    have HE := Lib.hid hE; clear hE
    go_wp2_with (fail)
    go_ret2
    exact ⟨rfl, HE.out⟩
end Go.Proofs.Ythgplaledmccgaa
