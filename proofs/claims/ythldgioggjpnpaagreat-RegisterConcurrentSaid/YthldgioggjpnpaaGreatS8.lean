/-
  Contracts: the reference's Clock of a register.
-/
import Derived.Test.YthldgioggjpnpaaGreatS7
namespace Go.Proofs.YthldgioggjpnpaaGreat
open Go.RowKit

theorem bytesLess_self (x : Nm) : Op.bytesLess x x = false := by
  induction x with
  | nil => rfl
  | cons a r ih => rw [Op.bytesLess, ih]; simp
theorem bytesLess_iff (x y : Nm) : Op.bytesLess x y = true ↔ Lib.compareBytes x y < 0 := by
  rw [compareBytes_sign]
  by_cases h : x = y
  · subst h; rw [if_pos rfl, bytesLess_self]; simp
  · rw [if_neg h]; cases Op.bytesLess x y <;> simp [signI]

set_option maxRecDepth 100000 in
set_option maxHeartbeats 2000000 in
theorem rclock13_any (v : Value) (N : Int) (nn np : Nat) (es : List En) (w : World) (h : RdV w v N nn np es) (hv : ∀ x ∈ es, validT x.1 = true) :
    Calls Tryz.prog 21 #[v] w fun e w' => ∃ u, e = .returned u ∧ RdT w' u (clockR es) ∧ Ext w w' := by
  obtain ⟨An, cn, Ap, cp, ve, rfl, he⟩ := h
  have H := Lib.hid he
  obtain ⟨A, n, c, rfl, hl, hnc, hcm, -⟩ := he
  unfold maxLen at hcm
  have HL := Lib.hid hl; clear hl
  have HVA := Lib.hid hv; clear hv
  go_enter Tryz.func21, Tryz.ntmps21
  go_wp2_with (fail)
  obtain ⟨wa, hwa⟩ : ∃ wa, wa = (w.alloc (.cells #[.int .i64 N, .slice An nn cn, .slice Ap np cp, .slice A n c] 26)).alloc (.cells #[] 40) := ⟨_, rfl⟩
  have hEa : Ext w wa := by rw [hwa]; exact ((Ext.refl w).alloc _).alloc _
  have hB : Blk wa w.heap.size 26 #[.int .i64 N, .slice An nn cn, .slice Ap np cp, .slice A n c] := by rw [hwa]; exact (Blk.new _ _ _).alloc _
  rw [← hwa]
  clear hwa
  have HEA := Lib.hid hEa; clear hEa
  have b3 : wa.cell? ⟨w.heap.size, 3, none⟩ = some (.slice A n c) := hB.cell 3
  have HB3 := Lib.hid b3
  clear b3 hB
  go_loopw [3, 4] (fun v i wr => ∃ (k : Nat) (c : List Tk), k ≤ n ∧ i = .int .i64 k ∧ RdT wr v c ∧ validT c = true ∧ clockFold c (es.drop k) = clockR es ∧ Ext wa wr) (fun _ i _ => n - (intOf i).toNat)
  case atStart => exact ⟨0, [], Nat.zero_le _, rfl, RdN.none_ rfl (by unfold maxLen; omega), rfl, rfl, Ext.refl _⟩
  case round =>
    obtain ⟨k, ck, hk, rfl, hO, hva, hcf, hEw⟩ := hrel
    have HO := Lib.hid hO; clear hO
    have HCV := Lib.hid hva; clear hva
    have HCF := Lib.hid hcf; clear hcf
    have b3 := hEw.cell HB3.out
    have l3 := World.block_lt_of_cell? _ _ b3
    have HE := Lib.hid (HEA.out.trans hEw)
    have HEW := Lib.hid hEw; clear hEw
    by_cases hlt : k < n
    · obtain ⟨b, off, x, q, rfl, hb, hx, c0, c1, hq, hnl⟩ := RdE.at_ (H.out.ext HE.out) hlt
      have HX := Lib.hid hx
      have hxv := HVA.out x (List.mem_of_getElem? hx)
      clear hx hnl c1
      have HMG := Lib.hid (rmerge_any _ q ck x.1 _ HO.out hq HCV.out hxv)
      have HXV := Lib.hid hxv; clear hxv
      obtain ⟨Aq, nq, cq, rfl⟩ := hq.slice
      clear hq
      go_wp2_with (go_at_call 45; refine HMG.out.mono ?_; rintro e w5 ⟨u5, rfl, hO5, hE5⟩; have HO5 := Lib.hid (hO5.rdN (fun _ => rfl)); clear hO5; have HE5 := Lib.hid (HEW.out.trans hE5); clear hE5)
      go_roundw
      case rel =>
        refine ⟨k + 1, _, by omega, by go_num, HO5.out, by rw [mergeW_eq HCV.out HXV.out]; exact mergeT_valid HCV.out HXV.out, ?_, HE5.out⟩
        obtain ⟨hkl, hke⟩ := List.getElem?_eq_some_iff.1 HX.out
        have := HCF.out
        rw [List.drop_eq_getElem_cons hkl, hke] at this
        rw [mergeW_eq HCV.out HXV.out]
        exact this
      case measure => simp [intOf]; omega
    · go_wp2_with (fail)
      go_ret
      have h := HCF.out
      rw [List.drop_of_length_le (by have := HL.out; omega)] at h
      have h2 : ck = clockR es := h
      rw [← h2]
      exact ⟨_, rfl, HO.out, HE.out⟩
end Go.Proofs.YthldgioggjpnpaaGreat
