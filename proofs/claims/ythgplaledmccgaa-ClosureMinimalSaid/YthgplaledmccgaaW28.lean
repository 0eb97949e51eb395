/-
  Contract: the reference Stem.
-/
import Derived.Test.YthgplaledmccgaaW26
import Derived.Test.YthgplaledmccgaaSpec18
import Derived.Test.YthgplaledmccgaaW19
import Derived.Deep.RegionLaw
namespace Go.Proofs.Ythgplaledmccgaa
open Go.RowKit

theorem subset_quiet (va vb : Value) (a b : List Nm) (w : World) (n : Nat) (r : Bool) (ha : RdS w va a) (hb : RdS w vb b) (hr : decide (∀ x ∈ a, x ∈ b) = r) :
    Calls Try.prog 32 #[va, vb] (w.drewN n) fun e w' => e = .returned (.bool r) ∧ ∃ m, w' = w.drewN m := by
  rw [← hr]
  exact (subset_any va vb a b _ (ha.ext ((Ext.refl _).drewN _)) (hb.ext ((Ext.refl _).drewN _))).mono fun e w' ⟨h1, h2⟩ => ⟨h1, n, h2.symm⟩

def XOK (P : NmL → Bool) (L : List NmL) (size i : Nat) (X : List Bool) : Prop :=
  X.length = L.length ∧ ∀ (j : Nat) (l : NmL), L[j]? = some l → X[j]? = some ((decide (l.length < size) || (decide (l.length = size) && decide (j < i))) && P l)
theorem XOK.skip {P : NmL → Bool} {L : List NmL} {size i : Nat} {X : List Bool} (h : XOK P L size i X) {l : NmL} (hl : L[i]? = some l) (hs : l.length ≠ size ∨ P l = false) : XOK P L size (i + 1) X := by
  refine ⟨h.1, fun j l' hj => ?_⟩
  rw [h.2 j l' hj]
  by_cases hji : j = i
  · subst hji
    rw [hl] at hj; cases hj
    rcases hs with hs | hs
    · simp [hs]
    · simp [hs]
  · have : decide (j < i + 1) = decide (j < i) := by simp; omega
    rw [this]
theorem XOK.set_ {P : NmL → Bool} {L : List NmL} {size i : Nat} {X : List Bool} (h : XOK P L size i X) {l : NmL} (hl : L[i]? = some l) (hs : l.length = size) : XOK P L size (i + 1) (X.set i (P l)) := by
  refine ⟨by simp [h.1], fun j l' hj => ?_⟩
  rw [List.getElem?_set]
  by_cases hji : i = j
  · subst hji
    rw [hl] at hj; cases hj
    have : i < X.length := by rw [h.1]; exact (List.getElem?_eq_some_iff.1 hl).1
    simp [this, hs]
  · rw [if_neg hji, h.2 j l' hj]
    have : decide (j < i + 1) = decide (j < i) := by simp; omega
    rw [this]
theorem XOK.next {P : NmL → Bool} {L : List NmL} {size : Nat} {X : List Bool} (h : XOK P L size L.length X) : XOK P L (size + 1) 0 X := by
  refine ⟨h.1, fun j l hj => ?_⟩
  rw [h.2 j l hj]
  have hjl := (List.getElem?_eq_some_iff.1 hj).1
  congr 2
  rw [Bool.eq_iff_iff]
  simp
  omega
theorem XOK.first (P : NmL → Bool) (L : List NmL) (N : Nat) (hN : L.length = N) : XOK P L 0 0 (List.replicate N false) := by
  refine ⟨by simp [hN], fun j l hj => ?_⟩
  have hjl := (List.getElem?_eq_some_iff.1 hj).1
  rw [List.getElem?_replicate]
  simp; omega
theorem XOK.last {P : NmL → Bool} {L : List NmL} {n : Nat} {X : List Bool} (h : XOK P L (n + 1) 0 X) (hn : ∀ l ∈ L, l.length ≤ n) : ∀ (j : Nat) (l : NmL), L[j]? = some l → X[j]? = some (P l) := by
  intro j l hj
  rw [h.2 j l hj]
  have := hn l (List.mem_of_getElem? hj)
  have e : decide (l.length < n + 1) = true := by simp; omega
  rw [e]; simp

structure StS (u : List Nm) (rs : List RuleN) (L : List NmL) (w2 w : World) (gp gc : Nat) (X : List Bool) (Y : List Value) (size i : Nat) : Prop where
  ext : Ext w2 w
  ax : Arr w 4 Value.bool gp X
  ay : Arr w 22 id gc Y
  yl : Y.length = L.length
  y : ∀ (j : Nat) (l : NmL), L[j]? = some l → (l.length < size ∨ (l.length = size ∧ j < i)) → closedN rs l = false → ∃ q, Y[j]? = some q ∧ Own w w2.heap.size 9 encS q (closeR u rs l)
  lo1 : w2.heap.size ≤ gp
  lo2 : w2.heap.size ≤ gc
section
variable {u : List Nm} {rs : List RuleN} {L : List NmL} {w2 w w' : World} {gp gc : Nat} {X : List Bool} {Y : List Value} {size i : Nat}
theorem StS.later (h : StS u rs L w2 w gp gc X Y size i) (he : Ext w w') : StS u rs L w2 w' gp gc X Y size i :=
  ⟨h.ext.trans he, h.ax.ext he, h.ay.ext he, h.yl, fun j l h1 h2 h3 => by obtain ⟨q, e1, e2⟩ := h.y j l h1 h2 h3; exact ⟨q, e1, e2.ext he⟩, h.lo1, h.lo2⟩
theorem StS.setX (h : StS u rs L w2 w gp gc X Y size i) (k : Nat) (z : Bool) : StS u rs L w2 (w.setCell ⟨gp, k, none⟩ (.bool z)) gp gc (X.set k z) Y size i :=
  ⟨h.ext.setCell (p := ⟨gp, k, none⟩) h.lo1 _, h.ax.set_ k z, h.ay.far (p := ⟨gp, k, none⟩) (fun e => Blk.ne_ h.ay h.ax (by decide) e) _, h.yl,
    fun j l h1 h2 h3 => by obtain ⟨q, e1, e2⟩ := h.y j l h1 h2 h3; exact ⟨q, e1, e2.far h.ax (by decide) _⟩, h.lo1, h.lo2⟩
theorem StS.setY (h : StS u rs L w2 w gp gc X Y size i) {l : NmL} (hl : L[i]? = some l) {q : Value} (hq : Own w w2.heap.size 9 encS q (closeR u rs l)) : StS u rs L w2 (w.setCell ⟨gc, i, none⟩ q) gp gc X (Y.set i q) size (i + 1) := by
  refine ⟨h.ext.setCell (p := ⟨gc, i, none⟩) h.lo2 _, h.ax.far (p := ⟨gc, i, none⟩) (fun e => Blk.ne_ h.ax h.ay (by decide) e) _, h.ay.set_ i q, by simp [h.yl], fun j l' h1 h2 h3 => ?_, h.lo1, h.lo2⟩
  by_cases hji : j = i
  · subst hji
    rw [hl] at h1; cases h1
    refine ⟨q, ?_, hq.far h.ay (by decide) _⟩
    rw [List.getElem?_set_self (by rw [h.yl]; exact (List.getElem?_eq_some_iff.1 hl).1)]
  · obtain ⟨q', e1, e2⟩ := h.y j l' h1 (by omega) h3
    refine ⟨q', ?_, e2.far h.ay (by decide) _⟩
    rw [List.getElem?_set_ne (fun e => hji e.symm)]; exact e1
theorem StS.skip (h : StS u rs L w2 w gp gc X Y size i) {l : NmL} (hl : L[i]? = some l) (hs : l.length ≠ size ∨ closedN rs l = true) : StS u rs L w2 w gp gc X Y size (i + 1) :=
  ⟨h.ext, h.ax, h.ay, h.yl, fun j l' h1 h2 h3 => by
    by_cases hji : j = i
    · subst hji
      rw [hl] at h1; cases h1
      rcases hs with hs | hs
      · exact h.y j l hl (by omega) h3
      · rw [hs] at h3; cases h3
    · exact h.y j l' h1 (by omega) h3, h.lo1, h.lo2⟩
theorem StS.next (h : StS u rs L w2 w gp gc X Y size L.length) : StS u rs L w2 w gp gc X Y (size + 1) 0 :=
  ⟨h.ext, h.ax, h.ay, h.yl, fun j l' h1 h2 h3 => h.y j l' h1 (by have := (List.getElem?_eq_some_iff.1 h1).1; omega) h3, h.lo1, h.lo2⟩
end
/-- pairs of lists of names that can be read -/
def RdSP (w : World) (v : Value) (L : List (NmL × NmL)) : Prop :=
  ∃ qs : List (Value × Value), (∃ A m c, v = .slice A m c ∧ qs.length = m ∧ m ≤ c ∧ c ≤ maxLen ∧ (0 < m → ∃ b, A = some ⟨b, 0, none⟩ ∧ b < w.heap.size ∧ ∀ j q, qs[j]? = some q → w.cell? ⟨b, j * 2, none⟩ = some q.1 ∧ w.cell? ⟨b, j * 2 + 1, none⟩ = some q.2)) ∧
    qs.length = L.length ∧ ∀ (j : Nat) (q : Value × Value) (l : NmL × NmL), qs[j]? = some q → L[j]? = some l → RdS w q.1 l.1 ∧ RdS w q.2 l.2
theorem RdSP.ext {w w' : World} {v : Value} {L : List (NmL × NmL)} (h : RdSP w v L) (he : Ext w w') : RdSP w' v L := by
  obtain ⟨qs, ⟨A, m, c, hv, hl, h1, h2, h3⟩, h4, h5⟩ := h
  refine ⟨qs, ⟨A, m, c, hv, hl, h1, h2, fun hn => ?_⟩, h4, fun j q l hq hl => ⟨(h5 j q l hq hl).1.ext he, (h5 j q l hq hl).2.ext he⟩⟩
  obtain ⟨b, hA, hb, hc⟩ := h3 hn
  exact ⟨b, hA, Nat.lt_of_lt_of_le hb he.size, fun j q hj => ⟨he.cell (hc j q hj).1, he.cell (hc j q hj).2⟩⟩
theorem rdSP_of {w : World} {base : Nat} {v : Value} {L : List (NmL × NmL)} {qs : List (Value × Value)} (h : OwnN w base 49 2 enc2 v qs) (hl : qs.length = L.length)
    (hq : ∀ (j : Nat) (q : Value × Value) (l : NmL × NmL), qs[j]? = some q → L[j]? = some l → RdS w q.1 l.1 ∧ RdS w q.2 l.2) : RdSP w v L := by
  obtain ⟨A, m, c, hv, hm, hmc, hcm, hcell⟩ := h.rd (fun _ => rfl)
  refine ⟨qs, ⟨A, m, c, hv, hm, hmc, hcm, fun h0 => ?_⟩, hl, hq⟩
  obtain ⟨b, hA, hb, hc⟩ := hcell h0
  exact ⟨b, hA, hb, fun j q hj => ⟨by simpa using hc j q hj 0 _ rfl, hc j q hj 1 _ rfl⟩⟩
theorem OwnSP.rd {w : World} {base : Nat} {v : Value} {L : List (NmL × NmL)} (h : OwnSP w base v L) : RdSP w v L := by
  obtain ⟨qs, h1, h2, h3⟩ := h
  exact rdSP_of h1 h2 fun j q l hq hl => ⟨(h3 j q l hq hl).1.rd, (h3 j q l hq hl).2.rd⟩
def badB (u : List Nm) (rs : List RuleN) (l k : NmL) : Bool := psN u rs k && decide (k.length < l.length) && decide (∀ x ∈ k, x ∈ l) && !decide (∀ x ∈ closeR u rs k, x ∈ l)

set_option maxRecDepth 100000 in
set_option maxHeartbeats 4000000 in
theorem refStem_any (vu vs : Value) (u : List Nm) (rs : List RuleN) (w : World) (hu : InU w vu u) (hr : InR w vs rs) (h0 : checkE u rs = 0) (hsz : u.length ≤ 8) :
    Calls Try.prog 38 #[vu, vs] w fun e w' => ∃ v, e = .returned v ∧ RdSP w' v (stemR u rs) ∧ Ext w w' := by
  obtain ⟨i0, hi0, hz0, hz1, hz2⟩ := info_parts inf4
  obtain ⟨i1, hi1, hy0, hy1, hy2⟩ := info_parts inf22
  obtain ⟨i2, hi2, hx0, hx1, hx2⟩ := info_parts inf49
  have HREC : Hid (∀ l ∈ subsetsN u, psN u rs l = (!closedN rs l && (subsetsN u).all fun k => !badB u rs l k)) := Lib.hid fun l hl => psN_rec h0 hl
  have HOPEN : Hid (∀ l ∈ subsetsN u, psN u rs l = true → closedN rs l = false) := Lib.hid fun l hl hp => psN_open h0 hl hp
  have HLE := Lib.hid (subsetsN_le u)
  have hlen := subsetsN_len u
  have hpw : 2 ^ u.length ≤ 256 := Nat.pow_le_pow_right (n := 2) (j := 8) (by decide) hsz
  have HLEN : Hid ((subsetsN u).length ≤ 256) := Lib.hid (by omega)
  clear hlen hpw h0
  have HRSUB := Lib.hid hu.rd
  have hrd := hu.rd
  have HU := Lib.hid hu; clear hu
  have HR := Lib.hid hr; clear hr
  obtain ⟨A, n, c, rfl, hln, -, hcm, -⟩ := hrd
  unfold maxLen at hcm
  have hn8 : n ≤ 8 := by omega
  have HLN := Lib.hid hln; clear hln hsz
  go_enter Try.func38, Try.ntmps38
  go_wp2_with (fail)
  refine (refSubsets_any _ u _ HRSUB.out (by rw [HLN.out]; omega)).mono ?_
  rintro e w1 ⟨v, rfl, hss, hE1⟩
  have HE1 := Lib.hid hE1; clear hE1
  obtain ⟨qs, hq1, hq2, hq3⟩ := hss.rd
  clear hss
  have HSR := Lib.hid (show stemR u rs = ((subsetsN u).filter (psN u rs)).map fun l => (l, closeR u rs l) from rfl)
  generalize hL : subsetsN u = L at *
  have HL := Lib.hid hL; clear hL
  obtain ⟨AL, N, cL, rfl, hqn, hNc, hcL, hcellL⟩ := hq1
  unfold maxLen at hcL
  have hN : N ≤ 256 := by have := HLEN.out; omega
  have HQN := Lib.hid hqn; clear hqn
  have HLN2 : Hid (L.length = N) := Lib.hid (by rw [← hq2]; exact HQN.out)
  have HQ3 := Lib.hid hq3; clear hq3 hq2
  have HCL := Lib.hid hcellL; clear hcellL
  have TK1 : True := trivial
  have TK2 : True := trivial
  go_wp2_with (first | (at_make; clear TK1; refine wpList_make_arr rfl (.tmp 16) (.tmp 16) 74 4 rfl i0 _ 1 Try.underlying74 hi0 hz0 hz1 hz2 rfl N rfl rfl (by omega) (by unfold maxLen; omega) ?_; intro w2 gp hblk2 hgp hE2) | (at_make; clear TK2; refine wpList_make_arr rfl (.tmp 19) (.tmp 19) 28 22 rfl i1 _ 24 Try.underlying28 hi1 hy0 hy1 hy2 rfl N rfl rfl (by omega) (by unfold maxLen; omega) ?_; intro w3 gc hblk3 hgc hE3))
  have hS3 : StS u rs L w1 w3 gp gc (List.replicate N false) (List.replicate N (.slice none 0 0)) 0 0 := by
    refine ⟨hE2.trans hE3, ?_, ?_, by simp [HLN2.out], fun j l _ h => by omega, hgp, Nat.le_trans hE2.size hgc⟩
    · have : Arr w2 4 Value.bool gp (List.replicate N false) := by unfold Arr; simpa using hblk2
      exact this.ext hE3
    · unfold Arr; simpa using hblk3
  have HS3 := Lib.hid hS3
  clear hblk2 hblk3 hS3 hE2 hE3 hgc hgp
  have HX3 := Lib.hid (XOK.first (psN u rs) L N HLN2.out)
  go_loopw [8, 9, 10] (fun vz vi vk wr => ∃ (size : Nat) (X : List Bool) (Y : List Value), size ≤ n + 1 ∧ vz = .int .i64 size ∧ StS u rs L w1 wr gp gc X Y size 0 ∧ XOK (psN u rs) L size 0 X) (fun vz _ _ _ => n + 1 - (intOf vz).toNat)
  case atStart => exact ⟨0, _, _, Nat.zero_le _, rfl, HS3.out, HX3.out⟩
  case round =>
    obtain ⟨wo, rfl⟩ : ∃ wo : World, wo = wr := ⟨_, rfl⟩
    obtain ⟨size, X, Y, hsz, rfl, hS, hX⟩ := hrel
    have HS := Lib.hid hS; clear hS
    have HX := Lib.hid hX; clear hX
    by_cases hsn : size ≤ n
    · go_wp2_with (fail)
      go_loopw [9, 10] (fun vi vk wr => ∃ (i : Nat) (X : List Bool) (Y : List Value), i ≤ N ∧ vi = .int .i64 i ∧ StS u rs L w1 wr gp gc X Y size i ∧ XOK (psN u rs) L size i X) (fun vi _ _ => N - (intOf vi).toNat)
      case atStart => exact ⟨0, _, _, Nat.zero_le _, rfl, HS.out, HX.out⟩
      case round =>
        clear HS HX X Y
        obtain ⟨wo2, rfl⟩ : ∃ wo2 : World, wo2 = wr := ⟨_, rfl⟩
        obtain ⟨i, X, Y, hi, rfl, hS, hX⟩ := hrel
        have HS := Lib.hid hS; clear hS
        have HX := Lib.hid hX; clear hX
        by_cases hlt : i < N
        · obtain ⟨bL, offL, rfl, hbL, hcc⟩ := HCL.out (by omega)
          have hiL : i < L.length := by rw [HLN2.out]; exact hlt
          have hiq : i < qs.length := by rw [HQN.out]; exact hlt
          have hgetL := List.getElem?_eq_getElem hiL
          have hc0 := hcc i _ (List.getElem?_eq_getElem hiq)
          have hc1 := HS.out.ext.cell hc0
          have hrd := HQ3.out i _ _ (List.getElem?_eq_getElem hiq) hgetL
          have hmemL := List.getElem_mem hiL
          clear hcc
          generalize qs[i] = q at *
          generalize L[i] = l at *
          have HC0 := Lib.hid hc0; clear hc0
          have HGL := Lib.hid hgetL; clear hgetL
          have HML := Lib.hid hmemL; clear hmemL
          have hrd' := hrd
          obtain ⟨Aq, nq, cq, rfl, hlq, -⟩ := hrd'
          have HRD := Lib.hid hrd; clear hrd
          have HLQ := Lib.hid hlq; clear hlq
          by_cases hls : nq = size
          · have hlb : ((nq : Int) != (size : Int)) = false := by simp; omega
            have hlsz : l.length = size := by rw [HLQ.out]; exact hls
            cases hcl : closedN rs l with
            | true =>
              have hP : psN u rs l = false := by rw [HREC.out l HML.out, hcl]; rfl
              have HS' := Lib.hid (HS.out.skip HGL.out (.inr hcl))
              have HX' := Lib.hid (HX.out.skip HGL.out (.inr hP))
              have HCLO := Lib.hid hcl
              clear hcl hP hls hlsz
              go_wp2_with (go_at_call 31; refine (refClosed_any _ _ rs l _ (HR.out.rd.ext (HE1.out.trans HS.out.ext)) (HRD.out.ext HS.out.ext)).mono ?_; rintro e w' ⟨rfl, rfl⟩; rw [HCLO.out])
              go_roundw
              case rel => exact ⟨i + 1, X, Y, by omega, by go_num, HS'.out, HX'.out⟩
              case measure => simp [intOf]; omega
            | false =>
              have HCLO := Lib.hid hcl
              have hiX : i < X.length := by rw [HX.out.1]; exact hiL
              have hiY : i < Y.length := by rw [HS.out.yl]; exact hiL
              have holdX := HS.out.ax.cell (List.getElem?_eq_getElem hiX)
              have hfzX := HS.out.ax.frozen i
              generalize X[i] = ox at *
              have HS1 := Lib.hid (HS.out.setX i true)
              clear hcl hls hlb
              have HLSZ := Lib.hid hlsz; clear hlsz
              have hlb : ((nq : Int) != (size : Int)) = false := by simp; have := HLSZ.out; have := HLQ.out; omega
              go_wp2_with (go_at_call 31; refine (refClosed_any _ _ rs l _ (HR.out.rd.ext (HE1.out.trans HS.out.ext)) (HRD.out.ext HS.out.ext)).mono ?_; rintro e w' ⟨rfl, rfl⟩; rw [HCLO.out])
              obtain ⟨w5, hw5⟩ : ∃ w5, w5 = wo2.setCell ⟨gp, i, none⟩ (.bool true) := ⟨_, rfl⟩
              rw [← hw5] at HS1 ⊢
              clear hw5 holdX hfzX hc1
              go_loopw [10] (fun vk wr => ∃ (k : Nat) (z : Bool), k ≤ N ∧ vk = .int .i64 k ∧ StS u rs L w1 wr gp gc (X.set i z) Y size i ∧ z = (L.take k).all fun c => !badB u rs l c) (fun vk _ => N - (intOf vk).toNat)
              case atStart => exact ⟨0, true, Nat.zero_le _, rfl, HS1.out, by simp⟩
              case round =>
                clear HS1
                obtain ⟨k, z, hk, rfl, hS, hz⟩ := hrel
                have HSK := Lib.hid hS; clear hS
                have HZ := Lib.hid hz; clear hz
                by_cases hkN : k < N
                · have hkL : k < L.length := by rw [HLN2.out]; exact hkN
                  have hkq : k < qs.length := by rw [HQN.out]; exact hkN
                  have hgetK := List.getElem?_eq_getElem hkL
                  obtain ⟨bL', offL', heL, hbL', hcc⟩ := HCL.out (by omega)
                  injection heL with heL
                  injection heL with e1 e2
                  subst e1 e2
                  have hci := HSK.out.ext.cell HC0.out
                  have hck := HSK.out.ext.cell (hcc k _ (List.getElem?_eq_getElem hkq))
                  have hrk := HQ3.out k _ _ (List.getElem?_eq_getElem hkq) hgetK
                  have hmk := List.getElem_mem hkL
                  have HTK := Lib.hid (List.take_succ_eq_append_getElem hkL)
                  clear hcc
                  have hxl : (X.set i z).length = N := by rw [List.length_set, HX.out.1, HLN2.out]
                  have hxk := HSK.out.ax.cell (List.getElem?_eq_getElem (by rw [hxl]; exact hkN : k < (X.set i z).length))
                  have hxi := HSK.out.ax.cell (List.getElem?_eq_getElem (by rw [hxl]; exact hlt : i < (X.set i z).length))
                  have hfzi := HSK.out.ax.frozen i
                  have hxe : L[k].length < size → (X.set i z)[k]'(by rw [hxl]; exact hkN) = psN u rs L[k] := fun hlk => by
                    have e := HX.out.2 k _ hgetK
                    have hki : k ≠ i := fun e2 => by
                      subst e2
                      have e3 := HGL.out
                      rw [hgetK] at e3
                      injection e3 with e3
                      rw [e3, HLSZ.out] at hlk
                      omega
                    have e4 : (X.set i z)[k]? = X[k]? := List.getElem?_set_ne (fun e => hki e.symm)
                    rw [e, List.getElem?_eq_getElem (by rw [hxl]; exact hkN)] at e4
                    injection e4 with e4
                    rw [e4]; simp [hlk]
                  generalize (X.set i z)[k]'(by rw [hxl]; exact hkN) = x at *
                  generalize (X.set i z)[i]'(by rw [hxl]; exact hlt) = zi at *
                  generalize qs[k] = qk at *
                  generalize L[k] = lk at *
                  have HGK := Lib.hid hgetK; clear hgetK
                  have HMK := Lib.hid hmk; clear hmk
                  have HXE := Lib.hid hxe; clear hxe
                  clear hxl
                  have hrk' := hrk
                  obtain ⟨Ak, nk, ck, rfl, hlk, -⟩ := hrk'
                  have HRK := Lib.hid (hrk.ext HSK.out.ext); clear hrk
                  have HRI := Lib.hid (HRD.out.ext HSK.out.ext)
                  have HLK := Lib.hid hlk; clear hlk
                  have hbad : ∀ b : Bool, badB u rs l lk = b → StS u rs L w1 wr gp gc (X.set i (z && !b)) Y size i → True := fun _ _ _ => trivial
                  clear hbad
                  cases x with
                  | false =>
                    have hb : badB u rs l lk = false := by
                      unfold badB
                      by_cases h : lk.length < size
                      · rw [← HXE.out h]; rfl
                      · rw [HLSZ.out, decide_eq_false h]; simp
                    have HB := Lib.hid hb; clear hb
                    go_wp2_with (fail)
                    go_quiet (fail)
                    go_wp2_with (fail)
                    go_roundw
                    case rel => exact ⟨k + 1, z, by omega, by go_num, HSK.out.later ((Ext.refl _).drewN _), by rw [HTK.out, List.all_append, ← HZ.out]; simp [HB.out]⟩
                    case measure => simp [intOf]; omega
                  | true =>
                    by_cases hlt2 : nk < size
                    · have hp : psN u rs lk = true := (HXE.out (by have := HLK.out; omega)).symm
                      obtain ⟨qy, hy1, hy2⟩ := HSK.out.y k lk HGK.out (.inl (by have := HLK.out; omega)) (HOPEN.out lk HMK.out hp)
                      have hcy := HSK.out.ay.cell hy1
                      simp only [id] at hcy
                      have hry := hy2.rd
                      obtain ⟨Ay, ny, cy, rfl, -⟩ := hy2.rd
                      have HRY := Lib.hid hry; clear hry hy1 hy2
                      have hdl : decide (nk < size) = true := decide_eq_true hlt2
                      have hbe : badB u rs l lk = (decide (∀ x ∈ lk, x ∈ l) && !decide (∀ x ∈ closeR u rs lk, x ∈ l)) := by
                        unfold badB
                        rw [hp, HLSZ.out, decide_eq_true (by have := HLK.out; omega : lk.length < size)]; simp
                      clear hp
                      cases h3 : decide (∀ x ∈ lk, x ∈ l) with
                      | false =>
                        rw [h3, Bool.false_and] at hbe
                        have HB := Lib.hid hbe; clear hbe
                        have H3 := Lib.hid h3; clear h3
                        go_wp2_with (fail)
                        go_quiet ((go_at_call 32; exact subset_quiet _ _ _ _ _ _ _ HRK.out HRI.out H3.out))
                        go_wp2_with (fail)
                        go_roundw
                        case rel => exact ⟨k + 1, z, by omega, by go_num, HSK.out.later ((Ext.refl _).drewN _), by rw [HTK.out, List.all_append, ← HZ.out]; simp [HB.out]⟩
                        case measure => simp [intOf]; omega
                      | true =>
                        cases h4 : decide (∀ x ∈ closeR u rs lk, x ∈ l) with
                        | true =>
                          rw [h3, h4] at hbe
                          have HB := Lib.hid hbe; clear hbe
                          have H3 := Lib.hid h3; clear h3
                          have H4 := Lib.hid h4; clear h4
                          go_wp2_with (fail)
                          go_quiet ((go_at_call 32; exact subset_quiet _ _ _ _ _ _ _ (by first | exact HRK.out | exact HRY.out) HRI.out (by first | exact H3.out | exact H4.out)))
                          go_wp2_with (fail)
                          go_roundw
                          case rel => exact ⟨k + 1, z, by omega, by go_num, HSK.out.later ((Ext.refl _).drewN _), by rw [HTK.out, List.all_append, ← HZ.out]; simp [HB.out]⟩
                          case measure => simp [intOf]; omega
                        | false =>
                          rw [h3, h4] at hbe
                          have HB := Lib.hid hbe; clear hbe
                          have H3 := Lib.hid h3; clear h3
                          have H4 := Lib.hid h4; clear h4
                          have HSW : Hid (∀ m, StS u rs L w1 ((wr.drewN m).setCell ⟨gp, i, none⟩ (.bool false)) gp gc (X.set i false) Y size i) := Lib.hid fun m => by
                            have := (HSK.out.later ((Ext.refl _).drewN m)).setX i false
                            rwa [List.set_set] at this
                          go_wp2_with (fail)
                          go_quiet ((go_at_call 32; exact subset_quiet _ _ _ _ _ _ _ (by first | exact HRK.out | exact HRY.out) HRI.out (by first | exact H3.out | exact H4.out)))
                          go_wp2_with (fail)
                          go_roundw
                          case rel => exact ⟨k + 1, false, by omega, by go_num, HSW.out _, by rw [HTK.out, List.all_append]; simp [HB.out]⟩
                          case measure => simp [intOf]; omega
                    · have hdl : decide (nk < size) = false := decide_eq_false hlt2
                      have hb : badB u rs l lk = false := by
                        unfold badB
                        rw [HLSZ.out, decide_eq_false (by have := HLK.out; omega : ¬ lk.length < size)]; simp
                      have HB := Lib.hid hb; clear hb
                      go_wp2_with (fail)
                      go_quiet (fail)
                      go_wp2_with (fail)
                      go_roundw
                      case rel => exact ⟨k + 1, z, by omega, by go_num, HSK.out.later ((Ext.refl _).drewN _), by rw [HTK.out, List.all_append, ← HZ.out]; simp [HB.out]⟩
                      case measure => simp [intOf]; omega
                · obtain rfl : k = N := by omega
                  rw [List.take_of_length_le (by have := HLN2.out; omega)] at HZ
                  have hzp : z = psN u rs l := by rw [HREC.out l HML.out, HCLO.out, HZ.out]; rfl
                  subst hzp
                  have HX' := Lib.hid (HX.out.set_ HGL.out HLSZ.out)
                  have hci := HSK.out.ext.cell HC0.out
                  generalize hoy : Y[i] = oy at *
                  have HOY := Lib.hid hoy; clear hoy
                  have hll : l.length ≤ 1048576 := by have := HLE.out l HML.out; have := HLN.out; omega
                  have HLL := Lib.hid hll; clear hll
                  go_wp2_with (go_at_call 30; refine (refClose_any _ _ _ u rs l _ (HU.out.ext (HE1.out.trans HSK.out.ext)) (HR.out.ext (HE1.out.trans HSK.out.ext)) (HRD.out.ext HSK.out.ext) HLL.out).mono ?_; rintro e w9 ⟨v9, rfl, hO9, hE9⟩; have hS9 := HSK.out.later hE9; have holdY : w9.cell? ⟨gc, i, none⟩ = some oy := (by have := hS9.ay.cell (List.getElem?_eq_getElem hiY); rw [HOY.out] at this; exact this); have hfzY := hS9.ay.frozen i; have hO9' := hO9.rd; obtain ⟨A9, n9, c9, rfl, -⟩ := hO9'; have HS9 := Lib.hid (hS9.setY HGL.out (hO9.up HSK.out.ext.size)); clear hS9 hO9 hE9)
                  go_roundw
                  case rel => exact ⟨i + 1, _, _, by omega, by go_num, HS9.out, HX'.out⟩
                  case measure => simp [intOf]; omega
          · have hlb : ((nq : Int) != (size : Int)) = true := by simp; omega
            have hlsz : l.length ≠ size := by rw [HLQ.out]; exact hls
            have HS' := Lib.hid (HS.out.skip HGL.out (.inl hlsz))
            have HX' := Lib.hid (HX.out.skip HGL.out (.inl hlsz))
            clear hls hlsz
            go_wp2_with (fail)
            go_roundw
            case rel => exact ⟨i + 1, X, Y, by omega, by go_num, HS'.out, HX'.out⟩
            case measure => simp [intOf]; omega
        · obtain rfl : i = N := by omega
          have HS' := Lib.hid (HLN2.out ▸ HS.out).next
          have HX' := Lib.hid (HLN2.out ▸ HX.out).next
          go_wp2_with (fail)
          go_roundw
          case rel => exact ⟨size + 1, X, Y, by omega, by go_num, HS'.out, HX'.out⟩
          case measure => simp [intOf]; omega
    · have hse : size = n + 1 := by omega
      have HSE := Lib.hid hse
      have hdz : decide (size ≤ n) = false := decide_eq_false (by omega)
      clear hsz hsn
      have hxl := (show XOK (psN u rs) L (n + 1) 0 X by rw [← hse]; exact HX.out).last (n := n) (fun l hl => by have := HLE.out l hl; have := HLN.out; omega)
      have HXL := Lib.hid hxl; clear hxl hse
      go_wp2_with (fail)
      have hem : OwnN (wo.alloc (.cells #[] 49)) wo.heap.size 49 2 enc2 (.slice (some ⟨wo.heap.size, 0, none⟩) 0 0) [] := by
        have := World.ownsRow_made (e := 49) (base := wo.heap.size) (size := 2) wo #[] 0 (Nat.le_refl _) (Nat.zero_le _) rfl
        simpa [OwnN] using this
      have HEM := Lib.hid hem; clear hem
      go_loopw [11, 12] (fun vo vi wr => ∃ (i : Nat) (qo : List (Value × Value)), i ≤ N ∧ vi = .int .i64 i ∧ Ext wo wr ∧ OwnN wr wo.heap.size 49 2 enc2 vo qo ∧ qo.length = ((L.take i).filter (psN u rs)).length ∧
        ∀ (j : Nat) (q : Value × Value) (l : NmL × NmL), qo[j]? = some q → (((L.take i).filter (psN u rs)).map fun l => (l, closeR u rs l))[j]? = some l → RdS wo q.1 l.1 ∧ RdS wo q.2 l.2) (fun _ vi _ => N - (intOf vi).toNat)
      case atStart => exact ⟨0, [], Nat.zero_le _, rfl, (Ext.refl _).alloc _, HEM.out, by simp, by intro j q l hq; simp at hq⟩
      case round =>
        obtain ⟨i, qo, hi, rfl, hE, hO, hol, hrd⟩ := hrel
        have HE := Lib.hid hE; clear hE
        have HO := Lib.hid hO
        obtain ⟨Ao, no, co, rfl, hno, hnoc, hcoc, -⟩ := hO.rd (fun _ => rfl)
        unfold maxLen at hcoc
        clear hO
        have HNO := Lib.hid hno; clear hno
        have HOL := Lib.hid hol; clear hol
        have HRD := Lib.hid hrd; clear hrd
        by_cases hlt : i < N
        · obtain ⟨bL, offL, rfl, hbL, hcc⟩ := HCL.out (by omega)
          have hiL : i < L.length := by rw [HLN2.out]; exact hlt
          have hiq : i < qs.length := by rw [HQN.out]; exact hlt
          have hgetL := List.getElem?_eq_getElem hiL
          have hc1 := (HS.out.ext.trans HE.out).cell (hcc i _ (List.getElem?_eq_getElem hiq))
          have hrd := HQ3.out i _ _ (List.getElem?_eq_getElem hiq) hgetL
          have hmemL := List.getElem_mem hiL
          have HTK := Lib.hid (take_filter_step (psN u rs) hgetL)
          have hxi := (HS.out.ax.ext HE.out).cell (HXL.out i _ hgetL)
          clear hcc
          generalize qs[i] = q at *
          generalize L[i] = l at *
          have HGL := Lib.hid hgetL; clear hgetL
          have HML := Lib.hid hmemL; clear hmemL
          cases hp : psN u rs l with
          | false =>
            rw [hp] at hxi HTK
            clear hp
            go_wp2_with (fail)
            go_roundw
            case rel => exact ⟨i + 1, qo, by omega, by go_num, HE.out, HO.out, by rw [HTK.out]; simpa using HOL.out, by rw [HTK.out]; simpa using HRD.out⟩
            case measure => simp [intOf]; omega
          | true =>
            rw [hp] at hxi HTK
            rw [if_pos rfl] at HTK
            obtain ⟨qy, hy1, hy2⟩ := HS.out.y i l HGL.out (.inl (by have := HLE.out l HML.out; have := HLN.out; have := HSE.out; omega)) (HOPEN.out l HML.out hp)
            have hcy := (HS.out.ay.ext HE.out).cell hy1
            simp only [id] at hcy
            have hry := hy2.rd
            obtain ⟨Ay, ny, cy, rfl, -⟩ := hy2.rd
            have HRY := Lib.hid hry; clear hry hy1 hy2 hp
            have hrd' := hrd
            obtain ⟨Aq, nq, cq, rfl, -⟩ := hrd'
            have HRL := Lib.hid (hrd.ext HS.out.ext); clear hrd
            have hno : no ≤ 256 := by
              have := HNO.out
              have := HOL.out
              have := List.length_filter_le (psN u rs) (L.take i)
              have : (L.take i).length ≤ i := List.length_take_le _ _
              omega
            have hnoN : qo.length + 1 ≤ 257 := by have := HNO.out; omega
            have HNN := Lib.hid hnoN; clear hnoN
            go_wp2_with (fail)
            go_region_law (refine step_append_outN rfl (.tmp 117) (.tmp 127) 61 rfl 49 i2 _ 2 48 Try.underlying61 hi2 hx0 hx1 hx2 rfl (by decide) enc2 (fun _ => rfl) wo (HE.out.drew.alloc _) (.slice Ao no co) qo rfl ((HO.out.ext ((Ext.refl _).drew)).ext ((Ext.refl _).alloc _)) wr.heap.size 1 (.slice Aq nq cq, .slice Ay ny cy) rfl (cells_new _ _ _ _ rfl) (by intro x hx; simp only [enc2, List.mem_cons, List.not_mem_nil, or_false] at hx; rcases hx with rfl | rfl <;> rfl) (by have := HNN.out; unfold maxLen; omega) (by have := HNN.out; omega) (no + 1) (by rw [HNO.out]) ?_; intro g9 c9 w9 hown9 hE9 hg9; clear hg9; have HOWN9 := Lib.hid hown9; clear hown9; have HE9 := Lib.hid hE9; clear hE9)
            all_goals
              go_wp2_with (fail)
              go_roundw
              case rel =>
                refine ⟨i + 1, _, by omega, by go_num, HE9.out, HOWN9.out, by rw [HTK.out]; simp [HOL.out], ?_⟩
                rw [HTK.out, List.map_append]
                intro j q l' hj hl'
                rcases getElem_snoc hj with ⟨h1, h2⟩ | ⟨h1, h2⟩
                · rw [List.getElem?_append_left (by rw [List.length_map, ← HOL.out]; exact h1)] at hl'
                  exact HRD.out j q l' h2 hl'
                · rw [List.getElem?_append_right (by rw [List.length_map, ← HOL.out]; omega), List.length_map, ← HOL.out, h1] at hl'
                  simp at hl'
                  subst h2 hl'
                  exact ⟨HRL.out, HRY.out⟩
              case measure => simp [intOf]; omega
        · obtain rfl : i = N := by omega
          rw [List.take_of_length_le (by have := HLN2.out; omega)] at HOL HRD
          go_wp2_with (fail)
          go_ret
          refine ⟨_, rfl, ?_, (HE1.out.trans HS.out.ext).trans HE.out⟩
          rw [HSR.out]
          exact rdSP_of HO.out (by rw [HOL.out]; simp) fun j q l hq hl => ⟨(HRD.out j q l hq hl).1.ext HE.out, (HRD.out j q l hq hl).2.ext HE.out⟩
end Go.Proofs.Ythgplaledmccgaa
