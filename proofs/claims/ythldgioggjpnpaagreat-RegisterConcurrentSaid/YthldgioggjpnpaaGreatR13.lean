/-
  Contracts: join.merged.
-/
import Derived.Test.YthldgioggjpnpaaGreatR12
namespace Go.Proofs.YthldgioggjpnpaaGreat
open Go.RowKit

theorem infEn : (Tryz.prog.info? 64).map (fun i => (i.zero, i.size, i.bytes)) = some (some (.agg #[.slice none 0 0, .string ⟨#[]⟩]), 2, 40) := by kernel_rfl

def mergedL (a b : List En) : List En := a.filter (fun p => !b.any (underE p)) ++ b.filter (fun q => !a.any (fun p => isBefore q p))
theorem filter_snoc {α : Type} (p : α → Bool) (l : List α) (k : Nat) (x : α) (h : l[k]? = some x) : (l.take (k + 1)).filter p = (l.take k).filter p ++ (if p x then [x] else []) := by
  obtain ⟨hk, rfl⟩ := List.getElem?_eq_some_iff.1 h
  rw [List.take_succ_eq_append_getElem hk, List.filter_append]
  congr 1
  by_cases e : p l[k] = true <;> simp [e]
theorem filter_len {α : Type} (p : α → Bool) (l : List α) (k : Nat) : ((l.take k).filter p).length ≤ l.length := Nat.le_trans (List.length_filter_le _ _) (by simp; omega)

/-- merged's result: the entries, sorted -/
def MergedPost (a b : List En) (w : World) (e : Ending) (w' : World) : Prop :=
  ∃ v es, e = .returned v ∧ es.Perm (mergedL a b) ∧ es.Pairwise (fun x y => cmpEn x y ≤ 0) ∧ RdE w' v es ∧ Ext w w'

set_option maxRecDepth 100000 in
set_option maxHeartbeats 4000000 in
theorem merged_any (va vb : Value) (a b : List En) (w : World) (ha : RdE w va a) (hb : RdE w vb b) (ga : ∀ x ∈ a, validT x.1 = true) (gb : ∀ x ∈ b, validT x.1 = true) (na0 : a.length ≤ 1048576) (nb0 : b.length ≤ 1048576) :
    Calls Tryz.prog 108 #[va, vb] w (MergedPost a b w) := by
  obtain ⟨i0, hi0, hz0, hz1, hz2⟩ := info_parts infEn
  have HA := Lib.hid ha
  have HB := Lib.hid hb
  have GA := Lib.hid ga; clear ga
  have GB := Lib.hid gb; clear gb
  obtain ⟨A, na, ca, rfl, hla, hnca, hcma, -⟩ := ha
  obtain ⟨B, nb, cb, rfl, hlb, hncb, hcmb, -⟩ := hb
  unfold maxLen at hcma hcmb
  have hna : na ≤ 1048576 := by omega
  have hnb : nb ≤ 1048576 := by omega
  have HLA := Lib.hid hla; clear hla na0
  have HLB := Lib.hid hlb; clear hlb nb0
  go_enter Tryz.func108, Tryz.ntmps108
  go_wp2_with (fail)
  go_loopw [5, 12] (fun v i wr => ∃ (k : Nat) (l : List QE), k ≤ na ∧ i = .int .i64 k ∧ OwnE w wr v l ∧ l.map (·.2) = (a.take k).filter (fun p => !b.any (underE p))) (fun _ i _ => na - (intOf i).toNat)
  case atStart => exact ⟨0, [], Nat.zero_le _, rfl, ⟨OwnN.nil _ _ _ _ _, Ext.refl _, by simp⟩, by simp⟩
  case round =>
    obtain ⟨k, l, hk, rfl, hO, hm⟩ := hrel
    have HO := Lib.hid hO; clear hO
    have HM := Lib.hid hm; clear hm
    by_cases hlt : k < na
    · obtain ⟨b1, o1, x, q, rfl, hb1, hx, c0, c1, hq, hnl⟩ := RdE.at_ HA.out hlt
      have HX := Lib.hid hx
      have hxm : x ∈ a := List.mem_of_getElem? hx
      clear hx
      obtain ⟨Aq, nq, cq, rfl⟩ := hq.slice
      have hgood : goodQ w (.slice Aq nq cq, x) := ⟨⟨_, _, _, rfl⟩, hq, hnl⟩
      have HGD := Lib.hid hgood; clear hgood
      have c0 := HO.out.ext.cell c0
      have c1 := HO.out.ext.cell c1
      have hbw : b1 < wr.heap.size := World.block_lt_of_cell? _ _ c0
      have hbw2 : b1 < (wr.alloc (.cells #[.slice none 0 0, .string ⟨#[]⟩] 64)).heap.size := by simp; omega
      have hB0 : Blk (wr.alloc (.cells #[.slice Aq nq cq, encS x.2] 64)) wr.heap.size 64 #[.slice Aq nq cq, encS x.2] := Blk.new _ _ _
      have d0 : (wr.alloc (.cells #[.slice Aq nq cq, encS x.2] 64)).cell? ⟨wr.heap.size, 0, none⟩ = some (.slice Aq nq cq) := hB0.cell 0
      have d1 : (wr.alloc (.cells #[.slice Aq nq cq, encS x.2] 64)).cell? ⟨wr.heap.size, 1, none⟩ = some (encS x.2) := hB0.cell 1
      clear hB0
      have HCV := Lib.hid (jcovered_any (.slice Aq nq cq) (.slice B nb cb) x b (wr.alloc (.cells #[.slice Aq nq cq, encS x.2] 64)) (hq.ext (HO.out.ext.alloc _)) (HB.out.ext (HO.out.ext.alloc _)) (GA.out x hxm) GB.out)
      have hllen : l.length ≤ na := by
        have h1 : (l.map (·.2)).length ≤ na := by
          rw [HM.out]
          have := filter_len (fun p => !b.any (underE p)) a k
          have := HLA.out
          omega
        simpa using h1
      clear hxm hq hnl
      cases hr : b.any (underE x) with
      | true =>
        have HR := Lib.hid hr; clear hr
        go_wp2_with (go_at_call 80; refine HCV.out.mono ?_; rintro e w3 ⟨rfl, hE3⟩; rw [HR.out]; have c0' := hE3.cell d0; have c1' := hE3.cell d1; have l3 := World.block_lt_of_cell? _ _ c0'; have HE3 := Lib.hid (((Ext.refl _).alloc _).trans hE3); clear hE3)
        go_roundw
        case rel =>
          refine ⟨k + 1, l, by omega, by go_num, ⟨HO.out.own.ext HE3.out, HO.out.ext.trans HE3.out, HO.out.good⟩, ?_⟩
          rw [HM.out, filter_snoc _ _ _ _ HX.out, HR.out]
          simp
        case measure => simp [intOf]; omega
      | false =>
        have HR := Lib.hid hr; clear hr
        go_wp2_with (first | (go_at_call 80; refine HCV.out.mono ?_; rintro e w3 ⟨rfl, hE3⟩; rw [HR.out]; have c0' := hE3.cell d0; have c1' := hE3.cell d1; have l3 := World.block_lt_of_cell? _ _ c0'; have HE3 := Lib.hid (((Ext.refl _).alloc _).trans hE3); clear hE3; have HFR := Lib.hid (HO.out.own.ext (HE3.out.trans ((Ext.refl w3).alloc (.cells #[.slice Aq nq cq, encS x.2] 64))))) | (at_builtin; go_must (refine wpList_append_oneN rfl (.tmp 20) (.tmp 22) 24 rfl 64 i0 _ 2 40 Tryz.underlying24 hi0 hz0 hz1 hz2 rfl (by decide) encQE (fun _ => rfl) w ((HO.out.ext.trans HE3.out).alloc _) _ l rfl HFR.out w3.heap.size 1 (.slice Aq nq cq, x) rfl (cells_new _ _ _ _ rfl) ?c1 ?c2 ?c3 ?c4)))
        case c1 =>
          intro u hu
          simp only [encQE, List.mem_cons, List.not_mem_nil, or_false] at hu
          rcases hu with rfl | rfl <;> rfl
        case c2 => unfold maxLen; omega
        case c3 => omega
        case c4 =>
          intro v' w7 hown7 hE7 hg7
          clear hg7
          have HOWN7 := Lib.hid hown7; clear hown7
          have HE7 := Lib.hid hE7; clear hE7
          go_wp2_with (fail)
          go_roundw
          case rel =>
            refine ⟨k + 1, l ++ [(.slice Aq nq cq, x)], by omega, by go_num, ⟨HOWN7.out, HE7.out, fun p hp => ?_⟩, ?_⟩
            · rcases List.mem_append.1 hp with hp | hp
              · exact HO.out.good p hp
              · rw [List.mem_singleton] at hp; rw [hp]; exact HGD.out
            · rw [List.map_append, HM.out, filter_snoc _ _ _ _ HX.out, HR.out]
              simp
          case measure => simp [intOf]; omega
    · have HMA : Hid (l.map (·.2) = a.filter (fun p => !b.any (underE p))) := Lib.hid (by rw [HM.out, List.take_of_length_le (by have := HLA.out; omega)])
      have HOA := HO
      obtain ⟨lA, rfl⟩ : ∃ lA, lA = l := ⟨_, rfl⟩
      clear HM HO
      obtain ⟨w5, rfl⟩ : ∃ w5, w5 = wr := ⟨_, rfl⟩
      go_wp2_with (fail)
      go_loopw [5, 27] (fun v i wr => ∃ (k : Nat) (l : List QE), k ≤ nb ∧ i = .int .i64 k ∧ OwnE w wr v l ∧ l.map (·.2) = a.filter (fun p => !b.any (underE p)) ++ (b.take k).filter (fun q => !a.any (fun p => isBefore q p))) (fun _ i _ => nb - (intOf i).toNat)
      case atStart => exact ⟨0, lA, Nat.zero_le _, rfl, HOA.out, by rw [HMA.out]; simp⟩
      case round =>
        obtain ⟨k, l, hk, rfl, hO, hm⟩ := hrel
        have HO := Lib.hid hO; clear hO
        have HM := Lib.hid hm; clear hm
        by_cases hlt : k < nb
        · obtain ⟨b1, o1, x, q, rfl, hb1, hx, c0, c1, hq, hnl⟩ := RdE.at_ HB.out hlt
          have HX := Lib.hid hx
          have hxm : x ∈ b := List.mem_of_getElem? hx
          clear hx
          obtain ⟨Aq, nq, cq, rfl⟩ := hq.slice
          have hgood : goodQ w (.slice Aq nq cq, x) := ⟨⟨_, _, _, rfl⟩, hq, hnl⟩
          have HGD := Lib.hid hgood; clear hgood
          have c0 := HO.out.ext.cell c0
          have c1 := HO.out.ext.cell c1
          have hbw : b1 < wr.heap.size := World.block_lt_of_cell? _ _ c0
          have hbw2 : b1 < (wr.alloc (.cells #[.slice none 0 0, .string ⟨#[]⟩] 64)).heap.size := by simp; omega
          have hB0 : Blk (wr.alloc (.cells #[.slice Aq nq cq, encS x.2] 64)) wr.heap.size 64 #[.slice Aq nq cq, encS x.2] := Blk.new _ _ _
          have d0 : (wr.alloc (.cells #[.slice Aq nq cq, encS x.2] 64)).cell? ⟨wr.heap.size, 0, none⟩ = some (.slice Aq nq cq) := hB0.cell 0
          have d1 : (wr.alloc (.cells #[.slice Aq nq cq, encS x.2] 64)).cell? ⟨wr.heap.size, 1, none⟩ = some (encS x.2) := hB0.cell 1
          clear hB0
          have hP : PredE 140 #[.pointer (some ⟨wr.heap.size, 0, none⟩)] (fun p => isBefore x p) a (wr.alloc (.cells #[.slice Aq nq cq, encS x.2] 64)) :=
            ⟨fun _ _ => by kernel_rfl, fun W y q' hE hm hq' => mer1_any (.slice Aq nq cq) q' x y wr.heap.size W (hE.cell d0) (hq.ext ((HO.out.ext.alloc _).trans hE)) hq' (GB.out x hxm) (GA.out y hm)⟩
          have HCV := Lib.hid (containsE_any (.slice A na ca) a _ _ (fun p => isBefore x p) _ (HA.out.ext (HO.out.ext.alloc (.cells #[.slice Aq nq cq, encS x.2] 64))) hP)
          clear hP
          have hllen : l.length ≤ na + nb := by
            have h1 : (l.map (·.2)).length ≤ na + nb := by
              rw [HM.out]
              rw [List.length_append]
              have h1 := filter_len (fun q => !a.any (fun p => isBefore q p)) b k
              have h2 := List.length_filter_le (fun p => !b.any (underE p)) a
              have := HLA.out
              have := HLB.out
              omega
            simpa using h1
          clear hxm hq hnl
          cases hr : a.any (fun p => isBefore x p) with
          | true =>
            have HR := Lib.hid hr; clear hr
            go_wp2_with (go_at_call 68; refine HCV.out.mono ?_; rintro e w3 ⟨rfl, hE3⟩; rw [HR.out]; have c0' := hE3.cell d0; have c1' := hE3.cell d1; have l3 := World.block_lt_of_cell? _ _ c0'; have HE3 := Lib.hid (((Ext.refl _).alloc _).trans hE3); clear hE3)
            go_roundw
            case rel =>
              refine ⟨k + 1, l, by omega, by go_num, ⟨HO.out.own.ext HE3.out, HO.out.ext.trans HE3.out, HO.out.good⟩, ?_⟩
              rw [HM.out, filter_snoc _ _ _ _ HX.out, HR.out]
              simp
            case measure => simp [intOf]; omega
          | false =>
            have HR := Lib.hid hr; clear hr
            go_wp2_with (first | (go_at_call 68; refine HCV.out.mono ?_; rintro e w3 ⟨rfl, hE3⟩; rw [HR.out]; have c0' := hE3.cell d0; have c1' := hE3.cell d1; have l3 := World.block_lt_of_cell? _ _ c0'; have HE3 := Lib.hid (((Ext.refl _).alloc _).trans hE3); clear hE3; have HFR := Lib.hid (HO.out.own.ext (HE3.out.trans ((Ext.refl w3).alloc (.cells #[.slice Aq nq cq, encS x.2] 64))))) | (at_builtin; go_must (refine wpList_append_oneN rfl (.tmp 35) (.tmp 37) 24 rfl 64 i0 _ 2 40 Tryz.underlying24 hi0 hz0 hz1 hz2 rfl (by decide) encQE (fun _ => rfl) w ((HO.out.ext.trans HE3.out).alloc _) _ l rfl HFR.out w3.heap.size 1 (.slice Aq nq cq, x) rfl (cells_new _ _ _ _ rfl) ?c1 ?c2 ?c3 ?c4)))
            case c1 =>
              intro u hu
              simp only [encQE, List.mem_cons, List.not_mem_nil, or_false] at hu
              rcases hu with rfl | rfl <;> rfl
            case c2 => unfold maxLen; omega
            case c3 => omega
            case c4 =>
              intro v' w7 hown7 hE7 hg7
              clear hg7
              have HOWN7 := Lib.hid hown7; clear hown7
              have HE7 := Lib.hid hE7; clear hE7
              go_wp2_with (fail)
              go_roundw
              case rel =>
                refine ⟨k + 1, l ++ [(.slice Aq nq cq, x)], by omega, by go_num, ⟨HOWN7.out, HE7.out, fun p hp => ?_⟩, ?_⟩
                · rcases List.mem_append.1 hp with hp | hp
                  · exact HO.out.good p hp
                  · rw [List.mem_singleton] at hp; rw [hp]; exact HGD.out
                · rw [List.map_append, HM.out, filter_snoc _ _ _ _ HX.out, HR.out]
                  simp
              case measure => simp [intOf]; omega
        · have HML : Hid (l.map (·.2) = mergedL a b) := Lib.hid (by rw [HM.out, List.take_of_length_le (by have := HLB.out; omega)]; rfl)
          have hll : l.length ≤ na + nb := by
            have h1 : (l.map (·.2)).length ≤ na + nb := by
              rw [HML.out, mergedL, List.length_append]
              have h1 := List.length_filter_le (fun p => !b.any (underE p)) a
              have h2 := List.length_filter_le (fun q => !a.any (fun p => isBefore q p)) b
              have := HLA.out
              have := HLB.out
              omega
            simpa using h1
          have HS := Lib.hid (sortE_any w _ _ l HO.out (by omega))
          clear HM
          go_wp2_with (go_at_call 141; refine HS.out.mono ?_; rintro e w8 ⟨rfl, hE8, es, hp, hs, hr⟩; have HE8 := Lib.hid hE8; clear hE8; have HP := Lib.hid hp; clear hp; have HSR := Lib.hid hs; clear hs; have HRD := Lib.hid hr; clear hr)
          go_ret
          exact ⟨_, es, rfl, by rw [← HML.out]; exact HP.out, HSR.out, HRD.out, HE8.out⟩
end Go.Proofs.YthldgioggjpnpaaGreat
