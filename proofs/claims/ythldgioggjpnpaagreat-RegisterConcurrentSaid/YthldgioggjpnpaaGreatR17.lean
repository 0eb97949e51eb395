/-
  Contracts: join.Join, register.lattice, single, Clock; walks of clocks are valid.
-/
import Derived.Test.YthldgioggjpnpaaGreatR16
namespace Go.Proofs.YthldgioggjpnpaaGreat
open Go.RowKit

theorem goodF_mono {l1 l2 : Int} (h : l1 ≤ l2) {ts : List Tk} (hg : goodF l2 ts = true) : goodF l1 ts = true := by
  cases ts with
  | nil => rfl
  | cons t r =>
    rw [goodF_cons, Bool.and_eq_true] at hg ⊢
    refine ⟨?_, hg.2⟩
    have := hg.1
    simp only [okTk, Bool.and_eq_true, decide_eq_true_eq] at this ⊢
    omega
theorem goodF_ck {last p k : Int} {r : List Tk} (h1 : last < p) (h2 : p ≤ 63) (h3 : k ≤ 1000000000000000) (h : goodF p r = true) : goodF last (ckT p k ++ r) = true := by
  unfold ckT
  by_cases hk : 0 < k
  · rw [if_pos hk]
    rw [List.singleton_append, goodF_cons, Bool.and_eq_true]
    refine ⟨?_, h⟩
    simp only [okTk, Bool.and_eq_true, decide_eq_true_eq]
    omega
  · rw [if_neg hk, List.nil_append]; exact goodF_mono (by omega) h
theorem walkT_good (f : Int → Int → Int) (hf : ∀ m n : Int, 0 ≤ m → 0 ≤ n → m ≤ 1000000000000000 → n ≤ 1000000000000000 → f m n ≤ 1000000000000000) (a b : List Tk) (last : Int)
    (ha : goodF last a = true) (hb : goodF last b = true) : goodF last (walkT f a b) = true := by
  fun_induction walkT f a b generalizing last with
  | case1 => rfl
  | case2 t a' ih =>
    rw [goodF_cons, Bool.and_eq_true] at ha
    have h := ha.1
    simp only [okTk, Bool.and_eq_true, decide_eq_true_eq] at h
    exact goodF_ck h.1.1.1 h.1.1.2 (hf _ _ (by omega) (by omega) (by omega) (by omega)) (ih _ ha.2 rfl)
  | case3 u b' ih =>
    rw [goodF_cons, Bool.and_eq_true] at hb
    have h := hb.1
    simp only [okTk, Bool.and_eq_true, decide_eq_true_eq] at h
    exact goodF_ck h.1.1.1 h.1.1.2 (hf _ _ (by omega) (by omega) (by omega) (by omega)) (ih _ rfl hb.2)
  | case4 t a' u b' hlt ih =>
    rw [goodF_cons, Bool.and_eq_true] at ha hb
    have h := ha.1
    have k := hb.1
    simp only [okTk, Bool.and_eq_true, decide_eq_true_eq] at h k
    refine goodF_ck h.1.1.1 h.1.1.2 (hf _ _ (by omega) (by omega) (by omega) (by omega)) (ih _ ha.2 ?_)
    rw [goodF_cons, Bool.and_eq_true]
    refine ⟨?_, hb.2⟩
    simp only [okTk, Bool.and_eq_true, decide_eq_true_eq]
    omega
  | case5 t a' u b' hlt hgt ih =>
    rw [goodF_cons, Bool.and_eq_true] at ha hb
    have h := ha.1
    have k := hb.1
    simp only [okTk, Bool.and_eq_true, decide_eq_true_eq] at h k
    refine goodF_ck k.1.1.1 k.1.1.2 (hf _ _ (by omega) (by omega) (by omega) (by omega)) (ih _ ?_ hb.2)
    rw [goodF_cons, Bool.and_eq_true]
    refine ⟨?_, ha.2⟩
    simp only [okTk, Bool.and_eq_true, decide_eq_true_eq]
    omega
  | case6 t a' u b' hlt hgt ih =>
    rw [goodF_cons, Bool.and_eq_true] at ha hb
    have h := ha.1
    have k := hb.1
    simp only [okTk, Bool.and_eq_true, decide_eq_true_eq] at h k
    exact goodF_ck h.1.1.1 h.1.1.2 (hf _ _ (by omega) (by omega) (by omega) (by omega)) (ih _ ha.2 (by rw [show t.1 = u.1 by omega]; exact hb.2))
theorem mergeT_valid {a b : List Tk} (ha : validT a = true) (hb : validT b = true) : validT (walkT maxF a b) = true :=
  walkT_good maxF (fun m n _ _ h1 h2 => by unfold maxF; omega) a b (-1) ha hb

def clockFold (c : List Tk) (es : List En) : List Tk := es.foldl (fun c e => walkT maxF c e.1) c
def clockR (es : List En) : List Tk := clockFold [] es

set_option maxRecDepth 100000 in
set_option maxHeartbeats 2000000 in
theorem rclock_any (v : Value) (N : Int) (nn np : Nat) (es : List En) (w : World) (h : RdV w v N nn np es) (hv : ∀ x ∈ es, validT x.1 = true) :
    Calls Tryz.prog 20 #[v] w fun e w' => ∃ u, e = .returned u ∧ OwnN w' w.heap.size 40 2 encT u (clockR es) ∧ validT (clockR es) = true ∧ Ext w w' := by
  obtain ⟨An, cn, Ap, cp, ve, rfl, he⟩ := h
  have H := Lib.hid he
  obtain ⟨A, n, c, rfl, hl, hnc, hcm, -⟩ := he
  unfold maxLen at hcm
  have HL := Lib.hid hl; clear hl
  have HVA := Lib.hid hv; clear hv
  go_enter Tryz.func20, Tryz.ntmps20
  go_wp2_with (fail)
  obtain ⟨wa, hwa⟩ : ∃ wa, wa = w.alloc (.cells #[.int .i64 N, .slice An nn cn, .slice Ap np cp, .slice A n c] 26) := ⟨_, rfl⟩
  have hEa : Ext w wa := by rw [hwa]; exact (Ext.refl w).alloc _
  rw [← hwa]
  clear hwa
  have HEA := Lib.hid hEa; clear hEa
  go_loopw [3, 9] (fun v i wr => ∃ (k : Nat) (c : List Tk), k ≤ n ∧ i = .int .i64 k ∧ OwnN wr w.heap.size 40 2 encT v c ∧ validT c = true ∧ clockFold c (es.drop k) = clockR es ∧ Ext w wr) (fun _ i _ => n - (intOf i).toNat)
  case atStart => exact ⟨0, [], Nat.zero_le _, rfl, OwnN.nil _ _ _ _ _, rfl, rfl, HEA.out⟩
  case round =>
    obtain ⟨k, ck, hk, rfl, hO, hva, hcf, hE⟩ := hrel
    have HO := Lib.hid hO; clear hO
    have HCV := Lib.hid hva; clear hva
    have HCF := Lib.hid hcf; clear hcf
    have HE := Lib.hid hE; clear hE
    by_cases hlt : k < n
    · obtain ⟨b, off, x, q, rfl, hb, hx, c0, c1, hq, hnl⟩ := RdE.at_ (H.out.ext HE.out) hlt
      have HX := Lib.hid hx
      have hxv := HVA.out x (List.mem_of_getElem? hx)
      clear hx hnl
      have hal := (Ext.refl wr).alloc (.cells #[q, encS x.2] 64)
      have HMG := Lib.hid (merge_any _ q ck x.1 _ ((HO.out.rdN (fun _ => rfl)).ext hal) (hq.ext hal) HCV.out hxv)
      have HXV := Lib.hid hxv; clear hxv
      have HE4 := Lib.hid (HE.out.trans hal)
      clear hal
      obtain ⟨Aq, nq, cq, rfl⟩ := hq.slice
      clear hq
      have hbw2 : b < (wr.alloc (.cells #[.slice none 0 0, .string ⟨#[]⟩] 64)).heap.size := by simp; omega
      go_wp2_with (go_at_call 44; refine HMG.out.mono ?_; rintro e w5 ⟨u5, rfl, hO5, hE5⟩; have HO5 := Lib.hid (hO5.up HE4.out.size); clear hO5; have HE5 := Lib.hid (HE4.out.trans hE5); clear hE5)
      go_roundw
      case rel =>
        refine ⟨k + 1, _, by omega, by go_num, HO5.out, mergeT_valid HCV.out HXV.out, ?_, HE5.out⟩
        obtain ⟨hkl, hke⟩ := List.getElem?_eq_some_iff.1 HX.out
        have := HCF.out
        rw [List.drop_eq_getElem_cons hkl, hke] at this
        exact this
      case measure => simp [intOf]; omega
    · go_wp2_with (fail)
      go_ret
      have h := HCF.out
      rw [List.drop_of_length_le (by have := HL.out; omega)] at h
      have h2 : ck = clockR es := h
      rw [← h2]
      exact ⟨_, rfl, HO.out, HCV.out, HE.out⟩

set_option maxRecDepth 100000 in
set_option maxHeartbeats 1000000 in
theorem rlattice_any (w : World) : Calls Tryz.prog 35 #[] w fun e w' => e = .returned latR ∧ Ext w w' := by
  go_enter Tryz.func35, Tryz.ntmps35
  go_wp2
  go_returns
  exact ⟨by first | rfl | simp, (Ext.refl w).alloc _⟩
set_option maxRecDepth 100000 in
set_option maxHeartbeats 1000000 in
theorem rkind_any (w : World) : Calls Tryz.prog 28 #[] w fun e w' => e = .returned latR ∧ Ext w w' := by
  go_enter Tryz.func28, Tryz.ntmps28
  go_wp2
  go_returns
  exact ⟨by first | rfl | simp, (Ext.refl w).alloc _⟩
end Go.Proofs.YthldgioggjpnpaaGreat
