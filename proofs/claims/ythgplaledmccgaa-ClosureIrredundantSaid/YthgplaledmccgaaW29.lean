/-
  Contracts: slices.Clone, IndexFunc, DeleteFunc at rows of ints, and the function literals of closure.Reduce.
-/
import Derived.Test.YthgplaledmccgaaW21
import Derived.Test.YthgplaledmccgaaSpec20
import Derived.Lib.SliceRun
namespace Go.Proofs.Ythgplaledmccgaa
open Go.RowKit

set_option maxRecDepth 100000 in
set_option maxHeartbeats 400000 in
theorem red1_any (x p bp : Nat) (w : World) (hc : w.cell? ⟨bp, 0, none⟩ = some (.int .i64 (p : Int))) :
    Calls Try.prog 68 #[.int .i64 (x : Int), .pointer (some ⟨bp, 0, none⟩)] w fun e w' => e = .returned (.bool (decide (x = p))) ∧ w = w' := by
  go_enter Try.func68, Try.ntmps68
  go_wp2_with (fail)
  go_ret
  refine ⟨ret_bool ?_, rfl⟩
  rw [Bool.eq_iff_iff]
  simp
  omega

set_option maxRecDepth 100000 in
set_option maxHeartbeats 800000 in
theorem clone_any (v : Value) (l : List Nat) (w : World) (h : Rd1 w encI v l) (hm : l.length ≤ 1048576) :
    Calls Try.prog 66 #[v] w fun e w' => ∃ v', e = .returned v' ∧ Own w' w.heap.size 3 encI v' l ∧ Ext w w' := by
  obtain ⟨i1, hi1, hy0, hy1, hy2⟩ := info_parts inf3
  have H := Lib.hid h
  obtain ⟨A, n, c, rfl, hl, hnc, hcm, -⟩ := h
  unfold maxLen at hcm
  have HL := Lib.hid hl; clear hl
  have hn : n ≤ 1048576 := by have := HL.out; omega
  have heq : ∀ w, (binOp .eql 54 (.slice A n c) (.slice none 0 0)).run Try.prog w = .ok (.bool A.isNone) w := fun w => Lib.run_eql_slice_nil w 54 3 A n c 0 0 Try.underlying54
  cases A with
  | none =>
    have h0 : l = [] := by
      have := H.out.open_
      rcases Nat.eq_zero_or_pos n with h0 | h0
      · exact List.eq_nil_of_length_eq_zero (by have := HL.out; omega)
      · obtain ⟨b, off, h, _⟩ := this.2.2.2 h0; cases h
    have H0 := Lib.hid h0; clear h0
    go_enter Try.func66, Try.ntmps66
    go_wp2_with (fail)
    go_ret
    exact ⟨_, rfl, by rw [H0.out]; exact Own.nil _ _ _ _, Ext.refl _⟩
  | some ad =>
    have HNN : Hid (n = ([] : List Nat).length + l.length) := Lib.hid (by rw [HL.out]; simp)
    have HONE : Hid (∀ y ∈ l, (encI y).oneCell' = true) := Lib.hid fun _ _ => rfl
    go_enter Try.func66, Try.ntmps66
    go_wp2_with (at_builtin; go_must (refine wpList_append_src rfl (.tmp 5) (.tmp 6) 54 rfl 3 i1 _ 8 Try.underlying54 hi1 hy0 hy1 hy2 rfl encI w ((Ext.refl _).alloc _) (.slice (some ⟨w.heap.size, 0, none⟩) 0 0) [] rfl (Own.empty w _ _ _ (Nat.le_refl _)) (.slice (some ad) n c) l rfl (H.out.ext ((Ext.refl _).alloc _)) HONE.out n HNN.out (by unfold maxLen; omega) (by omega) ?_); intro A1 c1 w1 hown1 hE1 hg1; clear hg1)
    simp only [List.nil_append] at hown1
    go_ret
    exact ⟨_, rfl, hown1, hE1⟩

def IdxPost (l : List Nat) (p : Nat) (w : World) (e : Ending) (w' : World) : Prop :=
  w = w' ∧ ((∃ k, e = .returned (.int .i64 ((k : Nat) : Int)) ∧ k < l.length ∧ l[k]? = some p ∧ ∀ x ∈ l.take k, x ≠ p) ∨ (e = .returned (.int .i64 (-1)) ∧ ∀ x ∈ l, x ≠ p))
set_option maxRecDepth 100000 in
set_option maxHeartbeats 800000 in
theorem indexInt_any (v : Value) (l : List Nat) (p bp : Nat) (w : World) (h : Rd1 w encI v l) (hc : w.cell? ⟨bp, 0, none⟩ = some (.int .i64 (p : Int))) :
    Calls Try.prog 75 #[v, .func (.func 68) #[] #[.pointer (some ⟨bp, 0, none⟩)]] w (IdxPost l p w) := by
  obtain ⟨A, n, c, rfl, hl, hnc, hcm, hcell⟩ := h
  unfold maxLen at hcm
  have HL := Lib.hid hl; clear hl
  have HC := Lib.hid hcell; clear hcell
  have HP := Lib.hid hc; clear hc
  go_enter Try.func75, Try.ntmps75
  go_wp2_with (fail)
  go_loop [8] (fun i => ∃ k : Nat, k ≤ n ∧ i = .int .i64 k ∧ ∀ x ∈ l.take k, x ≠ p) (fun i => n - (intOf i).toNat)
  case atStart => exact ⟨0, Nat.zero_le _, rfl, by simp⟩
  case round =>
    obtain ⟨k, hk, rfl, hno⟩ := hrel
    have HNO := Lib.hid hno; clear hno
    by_cases hlt : k < n
    · obtain ⟨b, off, rfl, hb, hcc⟩ := HC.out (by omega)
      have hkl : k < l.length := by rw [HL.out]; exact hlt
      have hc1 := hcc k _ (List.getElem?_eq_getElem hkl)
      have HG := Lib.hid (List.getElem?_eq_getElem hkl)
      have HTK := Lib.hid (List.take_succ_eq_append_getElem hkl)
      clear hcc
      generalize l[k] = x at *
      by_cases hx : x = p
      · have HX := Lib.hid hx; clear hx
        go_wp2_with (go_at_call 68; refine (red1_any _ p bp _ HP.out).mono ?_; rintro e w' ⟨rfl, rfl⟩; rw [decide_eq_true HX.out])
        go_ret
        exact ⟨rfl, .inl ⟨k, rfl, hkl, by rw [HG.out, HX.out], HNO.out⟩⟩
      · have HX := Lib.hid hx; clear hx
        go_wp2_with (go_at_call 68; refine (red1_any _ p bp _ HP.out).mono ?_; rintro e w' ⟨rfl, rfl⟩; rw [decide_eq_false HX.out])
        go_round
        case rel =>
          refine ⟨k + 1, by omega, by go_num, ?_⟩
          rw [HTK.out]
          intro y hy
          rcases List.mem_append.1 hy with hy | hy
          · exact HNO.out y hy
          · rw [List.mem_singleton] at hy; rw [hy]; exact HX.out
        case measure => simp [intOf]; omega
    · go_wp2
      go_ret
      refine ⟨rfl, .inr ⟨rfl, ?_⟩⟩
      have := HNO.out
      rwa [List.take_of_length_le (by have := HL.out; omega)] at this

theorem Own.cut {α : Type} {w : World} {base : Nat} {t : TypeId} {enc : α → Value} {g n cap : Nat} {l : List α} (h : Own w base t enc (.slice (some ⟨g, 0, none⟩) n cap) l) (i : Nat) (hi : i ≤ l.length) :
    Own w base t enc (.slice (some ⟨g, 0, none⟩) i cap) (l.take i) := by
  obtain ⟨h1, h2⟩ := h
  rcases h2 with ⟨h2, _⟩ | ⟨g', cap', cur, hv, hb, hg, hnc, hcm, hcs, htk⟩
  · cases h2
  · injection hv with e1 e2 e3
    injection e1 with e1
    injection e1 with e1
    subst e1 e3
    have hlen : (l.take i).length = i := by simp; omega
    refine ⟨by simp, .inr ⟨g, cap, cur, by rw [hlen], hb, hg, by rw [hlen]; omega, hcm, hcs, ?_⟩⟩
    rw [hlen, Nat.mul_one, List.map_take, ← htk, List.take_take, Nat.mul_one, Nat.min_eq_left hi]
theorem Own.clears {w w0 : World} {t : TypeId} {g n cap : Nat} (z : Nat) (k : Nat) {w' : World} (o : Nat) {l : List Nat} (h : Own w w0.heap.size t encI (.slice (some ⟨g, 0, none⟩) n cap) l) (hn : n = l.length) (hE : Ext w0 w)
    (hw : w' = w.setCells g o (List.replicate k (encI z))) : ∃ l', l'.length = l.length ∧ l'.take o = l.take o ∧ Own w' w0.heap.size t encI (.slice (some ⟨g, 0, none⟩) n cap) l' ∧ Ext w0 w' := by
  induction k generalizing w o l with
  | zero => subst hw; exact ⟨l, rfl, rfl, h, hE⟩
  | succ k ih =>
    rw [List.replicate_succ] at hw
    have h1 := h.set_ hn o z
    obtain ⟨l', e1, e2, e3, e4⟩ := ih (o + 1) h1 (by rw [List.length_set]; exact hn) (hE.setCell (p := ⟨g, o, none⟩) h.lo _) hw
    refine ⟨l', by rw [e1, List.length_set], ?_, e3, e4⟩
    have : (l'.take (o + 1)).take o = ((l.set o z).take (o + 1)).take o := by rw [e2]
    rw [List.take_take, List.take_take, Nat.min_eq_left (by omega)] at this
    rw [this]
    apply List.ext_getElem?
    intro j
    simp only [List.getElem?_take]
    split
    · rw [List.getElem?_set_ne (by omega)]
    · rfl

abbrev offP (p : Nat) (l : List Nat) : List Nat := l.filter fun x => !decide (x = p)
theorem offP_none {p : Nat} {l : List Nat} (h : ∀ x ∈ l, x ≠ p) : offP p l = l := List.filter_eq_self.2 fun x hx => by simp [h x hx]
theorem offP_snoc (p : Nat) {l : List Nat} {j : Nat} (hj : j < l.length) : offP p (l.take (j + 1)) = offP p (l.take j) ++ (if l[j] = p then [] else [l[j]]) := by
  unfold offP
  rw [List.take_succ_eq_append_getElem hj, List.filter_append]
  congr 1
  by_cases h : l[j] = p <;> simp [h]
def DelPost (l : List Nat) (p : Nat) (w0 : World) (e : Ending) (w' : World) : Prop := ∃ v', e = .returned v' ∧ Own w' w0.heap.size 3 encI v' (offP p l) ∧ Ext w0 w'
set_option maxRecDepth 100000 in
set_option maxHeartbeats 1600000 in
theorem delete_any (v : Value) (l : List Nat) (p bp : Nat) (w0 w : World) (hE : Ext w0 w) (h : Own w w0.heap.size 3 encI v l) (hc : w0.cell? ⟨bp, 0, none⟩ = some (.int .i64 (p : Int))) (hm : l.length ≤ 1048576) :
    Calls Try.prog 67 #[v, .func (.func 68) #[] #[.pointer (some ⟨bp, 0, none⟩)]] w (DelPost l p w0) := by
  have H := Lib.hid h
  have HE := Lib.hid hE
  have HP := Lib.hid hc
  obtain ⟨A, n, c, rfl, hl, hnc, hcm, -⟩ := h.rd
  unfold maxLen at hcm
  have HL := Lib.hid hl
  have hn : n ≤ 1048576 := by omega
  clear hl hc hE h
  go_enter Try.func67, Try.ntmps67
  go_wp2_with (fail)
  refine (indexInt_any _ l p bp _ H.out.rd (HE.out.cell HP.out)).mono ?_
  rintro e w' ⟨rfl, ⟨k0, rfl, hk0, hkp, hno⟩ | ⟨rfl, hno⟩⟩
  · have hk0n : k0 < n := by have := HL.out; omega
    have hpos : 0 < n := by omega
    obtain ⟨b, off, rfl, hb, -⟩ := H.out.rd.open_.2.2.2 hpos
    obtain rfl : off = 0 := by
      rcases H.out.2 with ⟨h, _⟩ | ⟨g, cap, cur, h, _⟩
      · cases h
      · injection h with e1; injection e1 with e1; injection e1
    have HN := Lib.hid HL.out.symm
    have hlo := H.out.lo
    have h0 : offP p (l.take (k0 + 1)) = l.take k0 := by
      rw [offP_snoc p hk0, offP_none hno]
      have : l[k0] = p := by rw [List.getElem?_eq_getElem hk0] at hkp; exact Option.some.inj hkp
      rw [if_pos this, List.append_nil]
    have hk0l : (l.take k0).length = k0 := by simp; omega
    have HST : Hid (k0 = (offP p (l.take (k0 + 1))).length ∧ l.take k0 = offP p (l.take (k0 + 1))) := Lib.hid ⟨by rw [h0, hk0l], h0.symm⟩
    have hk1 : ((k0 : Int) == -1) = false := by simp
    clear hno hkp h0 hk0l hb hk0
    go_wp2_with (fail)
    go_loopw [5, 6, 7] (fun vi vj vv wr => ∃ (i j : Nat) (d : List Nat), j ≤ n ∧ i < j ∧ vi = .int .i64 i ∧ vj = .int .i64 j ∧ d.length = n ∧ i = (offP p (l.take j)).length ∧ d.take i = offP p (l.take j) ∧ (∀ t, j ≤ t → d[t]? = l[t]?) ∧ Ext w0 wr ∧ Own wr w0.heap.size 3 encI (.slice (some ⟨b, 0, none⟩) n c) d) (fun _ vj _ _ => n - (intOf vj).toNat)
    case atStart => exact ⟨k0, k0 + 1, l, by omega, by omega, rfl, by go_num, HL.out, HST.out.1, HST.out.2, fun _ _ => rfl, HE.out, H.out⟩
    case round =>
      clear HST
      obtain ⟨i, j, d, hj, hij, rfl, rfl, hdl, hil, hdt, hrest, hEr, hOr⟩ := hrel
      have HER := Lib.hid hEr; clear hEr
      have HOR := Lib.hid hOr; clear hOr
      have HDL := Lib.hid hdl.symm; clear hdl
      have HIL := Lib.hid hil; clear hil
      have HDT := Lib.hid hdt; clear hdt
      have HREST := Lib.hid hrest; clear hrest
      by_cases hlt : j < n
      · have hjl : j < l.length := by rw [HL.out]; exact hlt
        have hjI : (j : Int) < (n : Int) := by omega
        have hdj : d[j]? = some l[j] := by rw [HREST.out j (Nat.le_refl _), List.getElem?_eq_getElem hjl]
        have hid : i < d.length := by rw [← HDL.out]; omega
        have hc1 := HOR.out.at_ HDL.out hdj
        have hc2 := HOR.out.at_ HDL.out (List.getElem?_eq_getElem hid)
        have hfz := HOR.out.thaw HDL.out i
        have HSN := Lib.hid (offP_snoc p hjl)
        have HPW := Lib.hid (HER.out.cell HP.out)
        generalize l[j] = x at *
        generalize d[i] = y at *
        by_cases hx : x = p
        · rw [if_pos hx, List.append_nil] at HSN
          have HX := Lib.hid hx; clear hx hdj
          go_wp2_with (go_at_call 68; refine (red1_any _ p bp _ HPW.out).mono ?_; rintro e w' ⟨rfl, rfl⟩; rw [decide_eq_true HX.out])
          go_roundw
          case rel => exact ⟨i, j + 1, d, by omega, by omega, rfl, by go_num, HDL.out.symm, by rw [HSN.out]; exact HIL.out, by rw [HSN.out]; exact HDT.out, fun t ht => HREST.out t (by omega), HER.out, HOR.out⟩
          case measure => simp [intOf]; omega
        · rw [if_neg hx] at HSN
          have HX := Lib.hid hx; clear hx hdj
          have HO2 := Lib.hid (HOR.out.set_ HDL.out i x)
          have HE2 := Lib.hid (HER.out.setCell (p := ⟨b, i, none⟩) hlo (encI x))
          have HID := Lib.hid hid; clear hid
          go_wp2_with (go_at_call 68; refine (red1_any _ p bp _ HPW.out).mono ?_; rintro e w' ⟨rfl, rfl⟩; rw [decide_eq_false HX.out])
          go_roundw
          case rel =>
            refine ⟨i + 1, j + 1, d.set i x, by omega, by omega, by go_num, by go_num, by rw [List.length_set]; exact HDL.out.symm, by rw [HSN.out, List.length_append, ← HIL.out]; rfl, ?_, fun t ht => ?_, HE2.out, HO2.out⟩
            · rw [HSN.out, ← HDT.out]
              rw [List.take_succ_eq_append_getElem (by rw [List.length_set]; exact HID.out), List.getElem_set_self]
              congr 1
              apply List.ext_getElem?
              intro s
              simp only [List.getElem?_take]
              split
              · rw [List.getElem?_set_ne (by omega)]
              · rfl
            · rw [List.getElem?_set_ne (by omega)]
              exact HREST.out t (by omega)
          case measure => simp [intOf]; omega
      · obtain rfl : n = j := by omega
        have hii : i < d.length := by rw [← HDL.out]; omega
        have hcl : ∀ ty, (Builtin.clear_ #[54] ty #[.slice (some ⟨b, i, none⟩) (n - i) (c - i)]).run Try.prog wr = .ok (.tuple #[]) (wr.setCells b i (List.replicate (n - i) (encI 0))) :=
          fun ty => Lib.run_clear_slice wr 54 3 ty (.int .i64 0) Try.underlying54 (fun w => by kernel_rfl) rfl rfl b i _ _ (by omega) (fun t ht => by
            have : i + t < d.length := by rw [← HDL.out]; omega
            rw [HOR.out.at_ HDL.out (List.getElem?_eq_getElem this)]; rfl) (fun t _ => HOR.out.thaw HDL.out (i + t))
        obtain ⟨l', e1, e2, e3, e4⟩ := HOR.out.clears 0 (n - i) i HDL.out HER.out rfl
        have e5 := e3.cut i (by rw [e1]; omega)
        have htk : l.take n = l := List.take_of_length_le (by have := HL.out; omega)
        rw [e2, HDT.out, htk] at e5
        have E5 := Lib.hid e5
        have E4 := Lib.hid e4
        clear e1 e2 e3 e4 e5 htk hii
        have hiI : (i : Int) ≤ (n : Int) := by omega
        go_wp2_with (fail)
        go_ret
        exact ⟨_, rfl, E5.out, E4.out⟩
  · have HNO := Lib.hid (offP_none hno); clear hno
    go_wp2_with (fail)
    go_ret
    exact ⟨_, rfl, by rw [HNO.out]; exact H.out, HE.out⟩
end Go.Proofs.Ythgplaledmccgaa
