/-
  Contract: the reference's Names of a register.
-/
import Derived.Test.YthldgioggjpnpaaGreatS8
namespace Go.Proofs.YthldgioggjpnpaaGreat
open Go.RowKit

theorem Own.empty' {α : Type} {W : World} {base g : Nat} (t : TypeId) (enc : α → Value) (hb : base ≤ W.heap.size) (hg : g = W.heap.size) : Own (W.alloc (.cells #[] t)) base t enc (.slice (some ⟨g, 0, none⟩) 0 0) [] := by
  subst hg
  have := World.ownsRow_lit (base := base) (size := 1) (e := t) W #[] 0 hb (by unfold maxLen; omega) rfl
  exact this
theorem Rd1.take_ {α : Type} {w : World} {enc : α → Value} {A : Option Addr} {n c : Nat} {l : List α} (h : Rd1 w enc (.slice A n c) l) {k : Nat} (hk : k ≤ n) : Rd1 w enc (.slice A k c) (l.take k) := by
  obtain ⟨A', n', c', hv, hl, h1, h2, h3⟩ := h
  injection hv with e1 e2 e3
  subst e1 e2 e3
  refine ⟨A, k, c, rfl, by rw [List.length_take]; omega, by omega, h2, fun hk0 => ?_⟩
  obtain ⟨b, off, hA, hb, hc⟩ := h3 (by omega)
  refine ⟨b, off, hA, hb, fun j x hj => hc j x ?_⟩
  rw [List.getElem?_take] at hj
  split at hj
  · exact hj
  · cases hj
theorem Rd1.drop_ {α : Type} {w : World} {enc : α → Value} {b off n c : Nat} {l : List α} (h : Rd1 w enc (.slice (some ⟨b, off, none⟩) n c) l) {k : Nat} (hk : k ≤ n) : Rd1 w enc (.slice (some ⟨b, off + k, none⟩) (n - k) (c - k)) (l.drop k) := by
  obtain ⟨A', n', c', hv, hl, h1, h2, h3⟩ := h
  injection hv with e1 e2 e3
  subst e1 e2 e3
  refine ⟨_, _, _, rfl, by rw [List.length_drop]; omega, by omega, by omega, fun hk0 => ?_⟩
  obtain ⟨b', off', hA, hb, hc⟩ := h3 (by omega)
  injection hA with hA
  injection hA with q1 q2
  subst q1 q2
  refine ⟨b, off + k, rfl, hb, fun j x hj => ?_⟩
  rw [List.getElem?_drop] at hj
  have := hc (k + j) x hj
  rw [show off + k + j = off + (k + j) by omega]
  exact this
theorem Rd1.facts {α : Type} {w : World} {enc : α → Value} {A : Option Addr} {n c : Nat} {l : List α} (h : Rd1 w enc (.slice A n c) l) : l.length = n ∧ n ≤ c ∧ c ≤ maxLen := by
  obtain ⟨A', n', c', hv, hl, h1, h2, h3⟩ := h
  injection hv with e1 e2 e3
  subst e1 e2 e3
  exact ⟨hl, h1, h2⟩
theorem Own.form1 {α : Type} {w : World} {base : Nat} {t : TypeId} {enc : α → Value} {A : Option Addr} {n c : Nat} {l : List α} (h : Own w base t enc (.slice A n c) l) (hn : 0 < n) : ∃ g, A = some ⟨g, 0, none⟩ := by
  rcases h.2 with ⟨hv, h0⟩ | ⟨g, cap, cur, hv, _⟩
  · injection hv with _ e2 _; omega
  · injection hv with e1 _ _; exact ⟨g, e1⟩
theorem Rd1.none_ {α : Type} {w : World} {enc : α → Value} {A : Option Addr} {c : Nat} (hc : c ≤ maxLen) : Rd1 w enc (.slice A 0 c) ([] : List α) :=
  ⟨A, 0, c, rfl, rfl, Nat.zero_le _, hc, fun h => absurd h (Nat.lt_irrefl _)⟩

theorem NamesOf.skip {es : List En} {l : List Nm} {x : En} (h : NamesOf es l) (hx : x.2 ∈ l) : NamesOf (es ++ [x]) l := by
  refine ⟨h.1, fun y => ?_⟩
  rw [h.2]
  constructor
  · rintro ⟨e, he, rfl⟩; exact ⟨e, List.mem_append_left _ he, rfl⟩
  · rintro ⟨e, he, rfl⟩
    rcases List.mem_append.1 he with he | he
    · exact ⟨e, he, rfl⟩
    · rw [List.mem_singleton] at he; subst he; exact (h.2 _).1 hx
theorem NamesOf.insert_ {es : List En} {l : List Nm} {x : En} (h : NamesOf es l) (p : Nat) (h1 : ∀ y ∈ l.take p, Lib.compareBytes y x.2 < 0) (h2 : ∀ y ∈ l.drop p, Lib.compareBytes x.2 y < 0) : NamesOf (es ++ [x]) (l.take p ++ [x.2] ++ l.drop p) := by
  have hp : (l.take p ++ l.drop p).Pairwise (fun x y => Lib.compareBytes x y < 0) := by rw [List.take_append_drop]; exact h.1
  rw [List.pairwise_append] at hp
  constructor
  · rw [List.append_assoc, List.pairwise_append]
    refine ⟨hp.1, ?_, ?_⟩
    · rw [List.singleton_append, List.pairwise_cons]
      exact ⟨h2, hp.2.1⟩
    · intro a ha b hb
      rcases List.mem_append.1 hb with hb | hb
      · rw [List.mem_singleton] at hb; subst hb; exact h1 a ha
      · exact hp.2.2 a ha b hb
  · intro y
    have hm : y ∈ l.take p ++ [x.2] ++ l.drop p ↔ y ∈ l ∨ y = x.2 := by
      have e : y ∈ l ↔ y ∈ l.take p ∨ y ∈ l.drop p := by rw [← List.mem_append, List.take_append_drop]
      rw [e, List.append_assoc, List.mem_append, List.mem_append, List.mem_singleton]
      constructor
      · rintro (h | h | h)
        · exact .inl (.inl h)
        · exact .inr h
        · exact .inl (.inr h)
      · rintro ((h | h) | h)
        · exact .inl h
        · exact .inr (.inr h)
        · exact .inr (.inl h)
    rw [hm, h.2]
    constructor
    · rintro (⟨e, he, rfl⟩ | rfl)
      · exact ⟨e, List.mem_append_left _ he, rfl⟩
      · exact ⟨x, by simp, rfl⟩
    · rintro ⟨e, he, rfl⟩
      rcases List.mem_append.1 he with he | he
      · exact .inl ⟨e, he, rfl⟩
      · rw [List.mem_singleton] at he; subst he; exact .inr rfl
theorem cmp_lt_trans {x y z : Nm} (h1 : Lib.compareBytes x y < 0) (h2 : Lib.compareBytes y z < 0) : Lib.compareBytes x z < 0 := by
  have := compareBytes_ok.trans x y z (by omega) (by omega)
  rcases Int.lt_or_eq_of_le this with h | h
  · exact h
  · have e := compareBytes_ok.eq _ _ h
    subst e
    have := compareBytes_ok.anti x y
    omega
theorem namesOf_uniq {es : List En} {l1 l2 : List Nm} (h1 : NamesOf es l1) (h2 : NamesOf es l2) : l1 = l2 := by
  have hm : ∀ x, x ∈ l1 ↔ x ∈ l2 := fun x => by rw [h1.2, h2.2]
  have n1 : l1.Nodup := h1.1.imp (fun {a b} h e => by subst e; rw [compareBytes_ok.refl] at h; exact absurd h (by decide))
  have n2 : l2.Nodup := h2.1.imp (fun {a b} h e => by subst e; rw [compareBytes_ok.refl] at h; exact absurd h (by decide))
  have hp : l1.Perm l2 := (List.perm_ext_iff_of_nodup n1 n2).2 hm
  exact hp.eq_of_pairwise (fun a b _ _ e1 e2 => by
    have := compareBytes_ok.anti a b
    omega) h1.1 h2.1
set_option maxRecDepth 100000 in
set_option maxHeartbeats 4000000 in
theorem rnames13_any (v : Value) (N : Int) (nn np : Nat) (es : List En) (w : World) (h : RdV w v N nn np es) (hl0 : es.length ≤ 1048576) :
    Calls Tryz.prog 19 #[v] w fun e w' => ∃ u l, e = .returned u ∧ NamesOf es l ∧ RdS w' u l ∧ Ext w w' := by
  obtain ⟨i0, hi0, hz0, hz1, hz2⟩ := info_parts infS
  obtain ⟨An, cn, Ap, cp, ve, rfl, he⟩ := h
  have H := Lib.hid he
  obtain ⟨A, n, c, rfl, hl, hnc, hcm, -⟩ := he
  unfold maxLen at hcm
  rw [hl] at hl0
  have HL := Lib.hid hl; clear hl
  go_enter Tryz.func19, Tryz.ntmps19
  go_wp2_with (fail)
  obtain ⟨wa, hwa⟩ : ∃ wa, wa = (w.alloc (.cells #[.int .i64 N, .slice An nn cn, .slice Ap np cp, .slice A n c] 26)).alloc (.cells #[] 9) := ⟨_, rfl⟩
  have hEa : Ext w wa := by rw [hwa]; exact ((Ext.refl w).alloc _).alloc _
  have hB : Blk wa w.heap.size 26 #[.int .i64 N, .slice An nn cn, .slice Ap np cp, .slice A n c] := by rw [hwa]; exact (Blk.new _ _ _).alloc _
  rw [← hwa]
  clear hwa
  have HEA := Lib.hid hEa; clear hEa
  have b3 : wa.cell? ⟨w.heap.size, 3, none⟩ = some (.slice A n c) := hB.cell 3
  have HB3 := Lib.hid b3
  clear b3 hB
  go_loopw [3, 4] (fun v i wr => ∃ (k : Nat) (l : List Nm) (b2 o2 m co : Nat), k ≤ n ∧ i = .int .i64 k ∧ v = .slice (some ⟨b2, o2, none⟩) m co ∧ RdS wr v l ∧ NamesOf (es.take k) l ∧ l.length ≤ k ∧ Ext wa wr) (fun _ i _ => n - (intOf i).toNat)
  case atStart => exact ⟨0, [], _, _, _, _, Nat.zero_le _, rfl, rfl, Rd1.none_ (by unfold maxLen; omega), ⟨List.Pairwise.nil, by simp⟩, Nat.le_refl _, Ext.refl _⟩
  case round =>
    obtain ⟨wo, rfl⟩ : ∃ wo : World, wo = wr := ⟨_, rfl⟩
    obtain ⟨k, l, b2, o2, m, co, hk, rfl, rfl, hR, hNm, hll, hEw⟩ := hrel
    have HR := Lib.hid hR
    obtain ⟨hlm, hmc, hcom⟩ := hR.facts
    clear hR
    unfold maxLen at hcom
    have HLM := Lib.hid hlm; clear hlm
    have HNM := Lib.hid hNm; clear hNm
    have HLL := Lib.hid hll; clear hll
    have hmk : m ≤ k := by have := HLL.out; have := HLM.out; omega
    have b3 := hEw.cell HB3.out
    have l3 := World.block_lt_of_cell? _ _ b3
    have HE := Lib.hid (HEA.out.trans hEw)
    have HEW := Lib.hid hEw; clear hEw
    by_cases hlt : k < n
    · obtain ⟨b, off, x, q, rfl, hb, hx, c0, c1, hq, hnl⟩ := RdE.at_ (H.out.ext HE.out) hlt
      have HX := Lib.hid hx
      have HTK : Hid (es.take (k + 1) = es.take k ++ [x]) := Lib.hid (by
        obtain ⟨hkl, hke⟩ := List.getElem?_eq_some_iff.1 HX.out
        rw [List.take_succ_eq_append_getElem hkl, hke])
      clear hx hnl c0 hq
      go_wp2_with (fail)
      go_loopw [6] (fun i wr => ∃ p : Nat, p ≤ m ∧ i = .int .i64 p ∧ (∀ y ∈ l.take p, Lib.compareBytes y x.2 < 0) ∧ wr = wo) (fun i _ => m - (intOf i).toNat)
      case atStart => exact ⟨0, Nat.zero_le _, rfl, by simp, rfl⟩
      case round =>
        obtain ⟨p, hp, rfl, hlo, rfl⟩ := hrel
        have HLO := Lib.hid hlo; clear hlo
        by_cases hpm : p < m
        · obtain ⟨b2', o2', y, hA2, hb2, hy, d0⟩ := Rd1.at_ HR.out hpm
          injection hA2 with hA2
          injection hA2 with q5 q6
          subst q5 q6
          have HY := Lib.hid hy; clear hy
          have hpne : ((p : Int) == (m : Int)) = false := by rw [beq_eq_false_iff_ne]; omega
          cases hlt2 : Op.bytesLess y x.2 with
          | true =>
            go_wp2_with (fail)
            go_roundw
            case rel =>
              refine ⟨p + 1, by omega, by go_num, fun z hz => ?_, by first | rfl | trivial⟩
              obtain ⟨hpl, hpe⟩ := List.getElem?_eq_some_iff.1 HY.out
              rw [List.take_succ_eq_append_getElem hpl, hpe] at hz
              rcases List.mem_append.1 hz with hz | hz
              · exact HLO.out z hz
              · rw [List.mem_singleton] at hz; rw [hz]; exact (bytesLess_iff _ _).1 hlt2
            case measure => simp [intOf]; omega
          | false =>
            by_cases hys : y = x.2
            · subst hys
              have e1 : (x.2 != x.2) = false := by simp
              go_wp2_with (fail)
              go_roundw
              case rel => exact ⟨k + 1, l, _, _, _, _, by omega, by go_num, rfl, HR.out, by rw [HTK.out]; exact HNM.out.skip (List.mem_of_getElem? HY.out), by have := HLL.out; omega, HEW.out⟩
              case measure => simp [intOf]; omega
            · have e1 : (y != x.2) = true := by simpa using hys
              have e2 : (y == x.2) = false := by simpa using hys
              have HHI : Hid (∀ z ∈ l.drop p, Lib.compareBytes x.2 z < 0) := Lib.hid (by
                have hxy : Lib.compareBytes x.2 y < 0 := by
                  have h1 : ¬ Lib.compareBytes y x.2 < 0 := fun h => by rw [(bytesLess_iff _ _).2 h] at hlt2; cases hlt2
                  have h2 : Lib.compareBytes y x.2 ≠ 0 := fun h => hys (compareBytes_ok.eq _ _ h)
                  have := compareBytes_ok.anti x.2 y
                  have := compareBytes_ok.anti y x.2
                  omega
                intro z hz
                obtain ⟨hpl, hpe⟩ := List.getElem?_eq_some_iff.1 HY.out
                have hpw := HNM.out.1
                rw [← List.take_append_drop p l, List.pairwise_append] at hpw
                rw [List.drop_eq_getElem_cons hpl, hpe] at hpw hz
                rcases List.mem_cons.1 hz with rfl | hz
                · exact hxy
                · have := (List.pairwise_cons.1 hpw.2.1).1 z hz
                  exact cmp_lt_trans hxy this)
              clear hys
              have hcne : ¬ co = p := by omega
              have hpco : p ≤ co := by omega
              have hcb : (co == p) = false := by simpa using hcne
              have HSD : Hid (∀ W, Ext wr W → RdS W (.slice (some ⟨b2, o2 + p, none⟩) (m - p) (co - p)) (l.drop p)) := Lib.hid (fun W hW => (HR.out.drop_ hp).ext hW)
              have HST : Hid (∀ W, Ext wr W → RdS W (.slice (some ⟨b2, o2, none⟩) p co) (l.take p)) := Lib.hid (fun W hW => (HR.out.take_ hp).ext hW)
              have HL1 : Hid (p = ([] : List Nm).length + (l.take p).length) := Lib.hid (by have := HLM.out; simp; omega)
              have HL2 : Hid ((l.take p).length = p) := Lib.hid (by have := HLM.out; simp; omega)
              have HL3 : Hid (m + 1 = (l.take p ++ [x.2]).length + (l.drop p).length) := Lib.hid (by have := HLM.out; simp; omega)
              go_upto_region 10 with (fail)
              skip
              go_region_law (first
                | (refine step_append_src rfl (.tmp 47) (.tmp 50) 22 rfl 9 i0 _ 16 Tryz.underlying22 hi0 hz0 hz1 hz2 rfl encS wr (by repeat (first | exact Ext.refl _ | exact HE2.out | exact HE1.out | refine Ext.drew ?_ | refine Ext.alloc ?_ _)) _ [] rfl (by repeat (first | refine Own.ext ?_ ((Ext.refl _).drew) | exact Own.empty' _ _ (by first | exact Nat.le_refl _ | simp) (by first | rfl | simp) | refine Own.ext ?_ ((Ext.refl _).alloc _))) _ (l.take p) rfl (HST.out _ (by repeat (first | exact Ext.refl _ | exact HE2.out | exact HE1.out | refine Ext.drew ?_ | refine Ext.alloc ?_ _))) (fun _ _ => rfl) p HL1.out (by unfold maxLen; omega) (by omega) ?_; intro A1 cap1 w1 hown1 hE1 hg1; rw [List.nil_append] at hown1; have HOWN1 := Lib.hid hown1; clear hown1; have HE1 := Lib.hid hE1; clear hE1; (first | have HG1 := Lib.hid (show World.grownBy _ w1 (some wr.heap.size) from hg1) | have HG1 := Lib.hid (show World.grownBy _ w1 (some (wr.heap.size + 1)) from hg1)); clear hg1)
                | (refine step_append_one1 rfl (.tmp 51) (.tmp 53) 22 rfl 9 i0 _ 16 Tryz.underlying22 hi0 hz0 hz1 hz2 rfl encS wr (by repeat (first | exact Ext.refl _ | exact HE2.out | exact HE1.out | refine Ext.drew ?_ | refine Ext.alloc ?_ _)) _ (l.take p) rfl (by repeat (first | exact HOWN1.out | refine Own.ext ?_ ((Ext.refl _).drew) | refine Own.ext ?_ ((Ext.refl _).alloc _))) _ _ x.2 rfl (by first | exact cell_new1 _ _ _ | exact (Blk.drew (Blk.new _ _ _)).cell 0 | exact (Blk.grown (Blk.new' _ _ _ _ (by simp)) HG1.out (by simp [Value.ownBlock])).cell 0 | exact (Blk.grown (Blk.drew (Blk.new' _ _ _ _ (by simp))) HG1.out (by simp)).cell 0 | exact (Blk.grown ((Blk.new _ _ _).alloc _) HG1.out (by simp [Value.ownBlock])).cell 0 | exact (Blk.grown (Blk.drew ((Blk.new _ _ _).alloc _)) HG1.out (by simp)).cell 0) rfl (by rw [HL2.out]; unfold maxLen; omega) (by rw [HL2.out]; omega) ?_; intro v2 w2 hown2 hE2 hg2; clear hg2; have HOWN2 := Lib.hid hown2; clear hown2; have HE2 := Lib.hid hE2; clear hE2)
                | (refine step_append_src rfl (.tmp 54) (.tmp 57) 22 rfl 9 i0 _ 16 Tryz.underlying22 hi0 hz0 hz1 hz2 rfl encS wr (by repeat (first | exact Ext.refl _ | exact HE2.out | exact HE1.out | refine Ext.drew ?_ | refine Ext.alloc ?_ _)) _ (l.take p ++ [x.2]) rfl (by repeat (first | exact HOWN2.out | refine Own.ext ?_ ((Ext.refl _).drew))) _ (l.drop p) rfl (HSD.out _ (by repeat (first | exact Ext.refl _ | exact HE2.out | exact HE1.out | refine Ext.drew ?_ | refine Ext.alloc ?_ _))) (fun _ _ => rfl) (m + 1) HL3.out (by unfold maxLen; omega) (by omega) ?_; intro A3 cap3 w3 hown3 hE3 hg3; clear hg3; obtain ⟨g3, rfl⟩ := hown3.form1 (Nat.succ_pos _); have HR3 := Lib.hid hown3.rd; clear hown3; have HE3 := Lib.hid (HEW.out.trans hE3); clear hE3))
              all_goals
                go_wp2_with (fail)
                go_roundw
                case rel =>
                  refine ⟨k + 1, _, _, _, _, _, by omega, by go_num, rfl, HR3.out, ?_, ?_, HE3.out⟩
                  · rw [HTK.out]; exact HNM.out.insert_ p HLO.out HHI.out
                  · have := HLL.out; simp; omega
                case measure => simp [intOf]; omega
        · obtain rfl : p = m := by omega
          have hpe : ((p : Int) == (p : Int)) = true := by simp
          have HHI : Hid (∀ z ∈ l.drop p, Lib.compareBytes x.2 z < 0) := Lib.hid (by
            rw [List.drop_of_length_le (by have := HLM.out; omega)]
            simp)
          have HSD : Hid (∀ W A' c', c' ≤ maxLen → RdS W (.slice A' 0 c') (l.drop p)) := Lib.hid (fun W A' c' hc' => by
            rw [List.drop_of_length_le (by have := HLM.out; omega)]
            exact Rd1.none_ hc')
          have HST : Hid (∀ W, Ext wr W → RdS W (.slice (some ⟨b2, o2, none⟩) p co) (l.take p)) := Lib.hid (fun W hW => (HR.out.take_ hp).ext hW)
          have HL1 : Hid (p = ([] : List Nm).length + (l.take p).length) := Lib.hid (by have := HLM.out; simp; omega)
          have HL2 : Hid ((l.take p).length = p) := Lib.hid (by have := HLM.out; simp; omega)
          have HL3 : Hid (p + 1 = (l.take p ++ [x.2]).length + (l.drop p).length) := Lib.hid (by have := HLM.out; simp; omega)
          go_upto_region 10 with (fail)
          skip
          go_region_law (first
            | (refine step_append_src rfl (.tmp 47) (.tmp 50) 22 rfl 9 i0 _ 16 Tryz.underlying22 hi0 hz0 hz1 hz2 rfl encS wr (by repeat (first | exact Ext.refl _ | exact HE2.out | exact HE1.out | refine Ext.drew ?_ | refine Ext.alloc ?_ _)) _ [] rfl (by repeat (first | refine Own.ext ?_ ((Ext.refl _).drew) | exact Own.empty' _ _ (by first | exact Nat.le_refl _ | simp) (by first | rfl | simp) | refine Own.ext ?_ ((Ext.refl _).alloc _))) _ (l.take p) rfl (HST.out _ (by repeat (first | exact Ext.refl _ | exact HE2.out | exact HE1.out | refine Ext.drew ?_ | refine Ext.alloc ?_ _))) (fun _ _ => rfl) p HL1.out (by unfold maxLen; omega) (by omega) ?_; intro A1 cap1 w1 hown1 hE1 hg1; rw [List.nil_append] at hown1; have HOWN1 := Lib.hid hown1; clear hown1; have HE1 := Lib.hid hE1; clear hE1; (first | have HG1 := Lib.hid (show World.grownBy _ w1 (some wr.heap.size) from hg1) | have HG1 := Lib.hid (show World.grownBy _ w1 (some (wr.heap.size + 1)) from hg1)); clear hg1)
            | (refine step_append_one1 rfl (.tmp 51) (.tmp 53) 22 rfl 9 i0 _ 16 Tryz.underlying22 hi0 hz0 hz1 hz2 rfl encS wr (by repeat (first | exact Ext.refl _ | exact HE2.out | exact HE1.out | refine Ext.drew ?_ | refine Ext.alloc ?_ _)) _ (l.take p) rfl (by repeat (first | exact HOWN1.out | refine Own.ext ?_ ((Ext.refl _).drew) | refine Own.ext ?_ ((Ext.refl _).alloc _))) _ _ x.2 rfl (by first | exact cell_new1 _ _ _ | exact (Blk.drew (Blk.new _ _ _)).cell 0 | exact (Blk.grown (Blk.new' _ _ _ _ (by simp)) HG1.out (by simp [Value.ownBlock])).cell 0 | exact (Blk.grown (Blk.drew (Blk.new' _ _ _ _ (by simp))) HG1.out (by simp)).cell 0 | exact (Blk.grown ((Blk.new _ _ _).alloc _) HG1.out (by simp [Value.ownBlock])).cell 0 | exact (Blk.grown (Blk.drew ((Blk.new _ _ _).alloc _)) HG1.out (by simp)).cell 0) rfl (by rw [HL2.out]; unfold maxLen; omega) (by rw [HL2.out]; omega) ?_; intro v2 w2 hown2 hE2 hg2; clear hg2; have HOWN2 := Lib.hid hown2; clear hown2; have HE2 := Lib.hid hE2; clear hE2)
            | (refine step_append_src rfl (.tmp 54) (.tmp 57) 22 rfl 9 i0 _ 16 Tryz.underlying22 hi0 hz0 hz1 hz2 rfl encS wr (by repeat (first | exact Ext.refl _ | exact HE2.out | exact HE1.out | refine Ext.drew ?_ | refine Ext.alloc ?_ _)) _ (l.take p ++ [x.2]) rfl (by repeat (first | exact HOWN2.out | refine Own.ext ?_ ((Ext.refl _).drew))) _ (l.drop p) rfl (HSD.out _ _ _ (by unfold maxLen; omega)) (fun _ _ => rfl) (p + 1) HL3.out (by unfold maxLen; omega) (by omega) ?_; intro A3 cap3 w3 hown3 hE3 hg3; clear hg3; obtain ⟨g3, rfl⟩ := hown3.form1 (Nat.succ_pos _); have HR3 := Lib.hid hown3.rd; clear hown3; have HE3 := Lib.hid (HEW.out.trans hE3); clear hE3))
          all_goals
            go_wp2_with (fail)
            go_roundw
            case rel =>
              refine ⟨k + 1, _, _, _, _, _, by omega, by go_num, rfl, HR3.out, ?_, ?_, HE3.out⟩
              · rw [HTK.out]; exact HNM.out.insert_ p HLO.out HHI.out
              · have := HLL.out; simp; omega
            case measure => simp [intOf]; omega
    · go_wp2_with (fail)
      go_ret
      refine ⟨_, rfl, l, ?_, HR.out, HE.out⟩
      have h := HNM.out
      rw [List.take_of_length_le (by have := HL.out; omega)] at h
      exact h
end Go.Proofs.YthldgioggjpnpaaGreat
