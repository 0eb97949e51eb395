/-
  Contracts: system.close, system.entailed.
-/
import Derived.Test.YthgplaledmccgaaW5
namespace Go.Proofs.Ythgplaledmccgaa
open Go.RowKit

theorem every_use (n : Nat) (w : World) : UseAt Try.prog (.func (.func 61) #[] #[]) n (fun _ => true) w :=
  ⟨_, _, rfl, fun _ _ => by kernel_rfl, fun W i _ _ => every_any i W⟩

def ClosePost (hs : List Horn) (s : List Bool) (w : World) (e : Ending) (w' : World) : Prop :=
  ∃ g, e = .returned (.slice (some ⟨g, 0, none⟩) s.length s.length) ∧ w.heap.size ≤ g ∧ Arr w' 4 Value.bool g (chainB hs (fun _ => true) s).1 ∧ Ext w w'

set_option maxRecDepth 100000 in
set_option maxHeartbeats 400000 in
theorem close_any (b : Nat) (vu vr vs : Value) (u : List Nm) (hs : List Horn) (s : List Bool) (w : World) (hS : SysR w b vu vr u hs) (hv : Rd1 w Value.bool vs s) (hlen : s.length = u.length) :
    Calls Try.prog 45 #[.pointer (some ⟨b, 0, none⟩), vs] w (ClosePost hs s w) := by
  have HS := Lib.hid hS; clear hS
  have HV := Lib.hid hv; clear hv
  have HL := Lib.hid hlen; clear hlen
  go_enter Try.func45, Try.ntmps45
  go_wp2_with (fail)
  refine (chain_any b vu vr vs _ u hs s _ w HS.out HV.out HL.out (every_use _ _)).mono ?_
  rintro e w' ⟨g, vst, rfl, hg, hA, hO, hE⟩
  have HA := Lib.hid hA; clear hA
  have HO := Lib.hid hO; clear hO
  have HE := Lib.hid hE; clear hE
  go_wp2_with (fail)
  go_ret
  exact ⟨g, rfl, hg, HA.out, HE.out⟩

/-- the set of some places -/
def setOf (n : Nat) (prem : List Nat) : List Bool := prem.foldl (fun s p => s.set p true) (List.replicate n false)
theorem setOf_len (n : Nat) (prem : List Nat) : (setOf n prem).length = n := by
  have : ∀ (s : List Bool), (prem.foldl (fun s p => s.set p true) s).length = s.length := by
    induction prem with
    | nil => intro s; rfl
    | cons p t ih => intro s; rw [List.foldl_cons, ih, List.length_set]
  unfold setOf
  rw [this]; simp
theorem setOf_snoc (n : Nat) (prem : List Nat) (p : Nat) : setOf n (prem ++ [p]) = (setOf n prem).set p true := by
  unfold setOf; rw [List.foldl_append]; rfl

set_option maxRecDepth 100000 in
set_option maxHeartbeats 800000 in
theorem entailed_any (b : Nat) (vu vr vp f : Value) (u : List Nm) (hs : List Horn) (prem : List Nat) (th : Nat) (U : Nat → Bool) (w : World) (hS : SysR w b vu vr u hs) (hp : Rd1 w encI vp prem)
    (hpn : ∀ p ∈ prem, p < u.length) (htn : th < u.length) (hU : UseAt Try.prog f hs.length U w) :
    Calls Try.prog 50 #[.pointer (some ⟨b, 0, none⟩), vp, .int .i64 (th : Int), f] w fun e w' => e = .returned (.bool ((chainB hs U (setOf u.length prem)).1.getD th false)) ∧ Ext w w' := by
  obtain ⟨i0, hi0, hz0, hz1, hz2⟩ := info_parts inf4
  have hcu := hS.cu
  have hru := hS.ru
  have hsz := hS.szu
  have HS := Lib.hid hS; clear hS
  have HU := Lib.hid hU; clear hU
  obtain ⟨A, n, c, rfl, hl, hnc, hcm, hcell⟩ := hp
  obtain ⟨Au, nu, cu, rfl, hlu, -, hcum, -⟩ := hru
  have hnsz : nu ≤ 1048576 := by omega
  have htn' : th < nu := by omega
  unfold maxLen at hcm hcum
  have HPN : Hid (∀ p ∈ prem, p < nu) := by rw [← hlu]; exact hpn
  clear hpn hsz htn
  have HL := Lib.hid hl; clear hl
  have HC := Lib.hid hcell; clear hcell
  have HLU := Lib.hid hlu; clear hlu
  go_enter Try.func50, Try.ntmps50
  go_wp2_with (at_make; refine wpList_make_arr rfl (.tmp 18) (.tmp 18) 74 4 rfl i0 _ 1 Try.underlying74 hi0 hz0 hz1 hz2 rfl nu rfl rfl (by omega) (by unfold maxLen; omega) ?_; intro w1 g hblk hgb hE1)
  have HA1 : Hid (Arr w1 4 Value.bool g (setOf nu [])) := by unfold Hid Arr setOf; simpa using hblk
  have HE1 := Lib.hid hE1; clear hE1 hblk
  go_loopw [22] (fun i wr => ∃ k : Nat, k ≤ n ∧ i = .int .i64 k ∧ Ext w wr ∧ Arr wr 4 Value.bool g (setOf nu (prem.take k))) (fun i _ => n - (intOf i).toNat)
  case atStart => exact ⟨0, Nat.zero_le _, rfl, HE1.out, HA1.out⟩
  case round =>
    obtain ⟨k, hk, rfl, hEr, hAr⟩ := hrel
    have HER := Lib.hid hEr; clear hEr
    have HAR := Lib.hid hAr; clear hAr
    by_cases hlt : k < n
    · obtain ⟨bl, off, rfl, hbl, hcl⟩ := HC.out (by omega)
      have hkl : k < prem.length := by rw [HL.out]; exact hlt
      have hc1 := HER.out.cell (hcl k prem[k] (List.getElem?_eq_getElem hkl))
      have hpk : prem[k] < nu := HPN.out _ (List.getElem_mem hkl)
      clear hcl
      generalize hpe : prem[k] = p at *
      have HPE := Lib.hid hpe; clear hpe
      have hpl : p < (setOf nu (prem.take k)).length := by rw [setOf_len]; exact hpk
      obtain ⟨ob, hold⟩ : ∃ ob, wr.cell? ⟨g, p, none⟩ = some (.bool ob) := ⟨(setOf nu (prem.take k))[p], HAR.out.cell (List.getElem?_eq_getElem hpl)⟩
      have hfz := HAR.out.frozen p
      clear hpl
      go_wp2_with (fail)
      go_roundw
      case rel =>
        refine ⟨k + 1, by omega, by go_num, HER.out.setCell (p := ⟨g, p, none⟩) hgb _, ?_⟩
        rw [List.take_succ_eq_append_getElem hkl, HPE.out, setOf_snoc]
        exact HAR.out.set_ p true
      case measure => simp [intOf]; omega
    · obtain rfl : k = n := by omega
      rw [List.take_of_length_le (by have := HL.out; omega)] at HAR
      have hrd := HAR.out.rd (by rw [setOf_len]; unfold maxLen; omega)
      rw [setOf_len] at hrd
      have HRD := Lib.hid hrd; clear hrd
      go_wp2_with (fail)
      refine (chain_any b _ vr _ f u hs (setOf nu prem) U _ (HS.out.ext HER.out) HRD.out (by rw [setOf_len, HLU.out]) (HU.out.ext HER.out)).mono ?_
      rintro e w' ⟨g', vst, rfl, hg', hA', hO', hE'⟩
      have hrd' := hA'.rd (by rw [chainB_len, setOf_len]; unfold maxLen; omega)
      have hc2 : w'.cell? ⟨g', th, none⟩ = some (.bool ((chainB hs U (setOf nu prem)).1.getD th false)) := by
        have hl' : th < (chainB hs U (setOf nu prem)).1.length := by rw [chainB_len, setOf_len]; exact htn'
        have := hA'.cell (List.getElem?_eq_getElem hl')
        rw [this, List.getD_eq_getElem?_getD, List.getElem?_eq_getElem hl']
        rfl
      rw [setOf_len]
      have HE' := Lib.hid hE'; clear hE'
      clear hA' hO' hrd'
      generalize hres : (chainB hs U (setOf nu prem)).1.getD th false = res at *
      have HRES := Lib.hid hres; clear hres
      go_wp2_with (fail)
      go_ret
      refine ⟨ret_bool ?_, HER.out.trans HE'.out⟩
      rw [HLU.out, HRES.out]
end Go.Proofs.Ythgplaledmccgaa
