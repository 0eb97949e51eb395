/-
  Contract: closure.Stem.
-/
import Derived.Test.YthgplaledmccgaaW26
import Derived.Laws.EntriesVeiled
namespace Go.Proofs.Ythgplaledmccgaa
open Go.RowKit

theorem OwnN.up {α : Type} {w : World} {base base' : Nat} {t : TypeId} {k : Nat} {enc : α → List Value} {v : Value} {l : List α} (h : OwnN w base t k enc v l) (hb : base' ≤ base) : OwnN w base' t k enc v l := by
  obtain ⟨h1, h2⟩ := h
  refine ⟨h1, ?_⟩
  rcases h2 with h2 | ⟨g, cap, cur, hv, hg, r⟩
  · exact .inl h2
  · exact .inr ⟨g, cap, cur, hv, Nat.le_trans hb hg, r⟩
abbrev nm2 (u : List Nm) (f : PairB) : NmL × NmL := (namesOf u f.1, namesOf u f.2)
def stemN (u : List Nm) (rs : List RuleN) : List (NmL × NmL) := (stemB (closeO u rs) u.length).1.map (nm2 u)
def stemC (u : List Nm) (rs : List RuleN) : Nat := (stemB (closeO u rs) u.length).2
def StemPost (u : List Nm) (rs : List RuleN) (lim : Int) (w : World) (e : Ending) (w' : World) : Prop :=
  (lim < stemC u rs ∧ e = .returned (.tuple #[.slice none 0 0, .int .i64 6]) ∧ Ext w w') ∨ ((stemC u rs : Int) ≤ lim ∧ ∃ v, e = .returned (.tuple #[v, .int .i64 0]) ∧ OwnSP w' w.heap.size v (stemN u rs) ∧ Ext w w')

set_option maxRecDepth 100000 in
set_option maxHeartbeats 400000 in
theorem stem_arg (vu vs : Value) (u : List Nm) (rs : List RuleN) (lim : Int) (w : World) (hu : InU w vu u) (hr : InR w vs rs) (h0 : checkE u rs = 0) (hl : lim < 1) :
    Calls Try.prog 37 #[vu, vs, .int .i64 lim] w fun e w' => e = .returned (.tuple #[.slice none 0 0, .int .i64 1]) ∧ Ext w w' := by
  have HU := Lib.hid hu; clear hu
  have HR := Lib.hid hr; clear hr
  have H0 := Lib.hid h0; clear h0
  go_enter Try.func37, Try.ntmps37
  go_wp2_with (fail)
  refine (parse_ok _ _ u rs _ HU.out HR.out H0.out).mono ?_
  rintro e w1 ⟨b, vu', vr, rfl, hS⟩
  have HS := Lib.hid hS; clear hS
  go_wp2_with (fail)
  go_ret2
  exact ⟨rfl, HS.out.ext⟩

set_option maxRecDepth 100000 in
set_option maxHeartbeats 4000000 in
theorem stem_any (vu vs : Value) (u : List Nm) (rs : List RuleN) (lim : Int) (w : World) (hu : InU w vu u) (hr : InR w vs rs) (h0 : checkE u rs = 0) (hl : 1 ≤ lim) (hu8 : u.length ≤ 8) :
    Calls Try.prog 37 #[vu, vs, .int .i64 lim] w (StemPost u rs lim w) := by
  obtain ⟨i0, hi0, hz0, hz1, hz2⟩ := info_parts inf4
  obtain ⟨i1, hi1, hy0, hy1, hy2⟩ := info_parts inf105
  obtain ⟨i2, hi2, hx0, hx1, hx2⟩ := info_parts inf49
  have hO : IsCl u.length (closeO u rs) := chain_cl (okH_of (checkE_ok.1 h0).2.1 (checkE_ok.1 h0).2.2)
  have HO := Lib.hid hO; clear hO
  have hrd := hu.rd
  obtain ⟨A, n, c, rfl, hln, -, hcm, -⟩ := hrd
  unfold maxLen at hcm
  have hn8 : n ≤ 8 := by omega
  have HLN := Lib.hid hln; clear hu8
  have HU := Lib.hid hu; clear hu
  have HR := Lib.hid hr; clear hr
  have H0 := Lib.hid h0; clear h0
  have hpw : 2 ^ n ≤ 256 := Nat.pow_le_pow_right (by decide : 0 < 2) hn8
  have hsb := stemB_le (closeO u rs) n
  have HSB : Hid ((stemB (closeO u rs) n).2 ≤ 256 ∧ (stemB (closeO u rs) n).1.length ≤ (stemB (closeO u rs) n).2) := Lib.hid (by omega)
  clear hpw hsb
  unfold StemPost stemC stemN
  rw [hln] at HO ⊢
  clear hln
  generalize hOO : closeO u rs = O at *
  have HOO := Lib.hid hOO; clear hOO
  go_enter Try.func37, Try.ntmps37
  go_wp2_with (fail)
  refine (parse_ok _ _ u rs _ HU.out HR.out H0.out).mono ?_
  rintro e w1 ⟨b, vu', vr, rfl, hS⟩
  have HE1 := Lib.hid hS.ext
  have HS := Lib.hid hS.read; clear hS
  go_wp2_with (at_make; refine wpList_make_arr rfl (.tmp 32) (.tmp 32) 74 4 rfl i0 _ 1 Try.underlying74 hi0 hz0 hz1 hz2 rfl n rfl rfl (by omega) (by unfold maxLen; omega) ?_; intro w2 g hblk hgb hE2)
  have hS2 : StI n w1 w2 w1.heap.size (w1.heap.size + 1) (.slice none 0 0) (.slice (some ⟨w1.heap.size + 1 + 1, 0, none⟩) 0 0) [] [] := by
    refine StI.later ?_ hE2
    refine ⟨(((Ext.refl _).alloc _).alloc _).alloc _, ?_, ?_, ?_, ?_, Nat.le_refl _⟩
    · exact ((Blk.new _ _ _).alloc _).alloc _
    · exact (Blk.new' _ _ _ _ (by simp)).alloc _
    · exact ⟨[], OwnN.nil _ _ _ _ _, rfl, by intro j q f hj; simp at hj⟩
    · refine ⟨[], ?_, rfl, by intro j q f hj; simp at hj⟩
      have := World.ownsRow_made (e := 49) (base := w1.heap.size) (size := 2) ((w1.alloc (.cells #[.slice none 0 0] 103)).alloc (.cells #[.func (.func 63) #[] #[]] 104)) #[] 0 (by simp; omega) (Nat.zero_le _) rfl
      simpa [OwnN] using this
  have hA2 : Arr w2 4 Value.bool g (List.replicate n false) := by unfold Arr; simpa using hblk
  have HS2 := Lib.hid hS2
  have HA2 := Lib.hid hA2
  clear hblk hgb hE2 hS2 hA2
  obtain ⟨bf, HBF⟩ : ∃ bf, Hid (w1.heap.size = bf) := ⟨_, rfl⟩
  obtain ⟨bb, HBB⟩ : ∃ bb, Hid (w1.heap.size + 1 = bb) := ⟨_, rfl⟩
  have HS3 : Hid (StI n w1 w2 bf bb (.slice none 0 0) (.slice (some ⟨bb + 1, 0, none⟩) 0 0) [] []) := by rw [← HBF.out, ← HBB.out]; exact HS2
  rw [HBB.out, HBF.out]
  clear HS2
  go_loopw [13, 14, 15, 16] (fun vo vc vset vok wr => ∃ (st : List PairB × Nat) (vF : Value) (ok : Bool), vok = .bool ok ∧ vc = .int .i64 (st.2 : Int) ∧ (st.2 : Int) ≤ lim ∧ StI n w1 wr bf bb vF vo st.1 (st.1.map (nm2 u)) ∧
    ((ok = false ∧ st = stemB O n) ∨ (ok = true ∧ ∃ s gs, s.length = n ∧ vset = .slice (some ⟨gs, 0, none⟩) n n ∧ Arr wr 4 Value.bool gs s ∧ okQ st.1 s = true ∧ st = stemTo O n (val s))))
    (fun _ vc _ _ _ => 300 - (intOf vc).toNat)
  case atStart =>
    refine ⟨([], 0), _, true, rfl, rfl, by simp; omega, HS3.out, .inr ⟨rfl, _, g, by simp, rfl, HA2.out, by simp [okQ], (stem_first O n).symm⟩⟩
  case round =>
    obtain ⟨st, vF, ok, rfl, rfl, hcl, hSt, hmode⟩ := hrel
    have HST := Lib.hid hSt
    have hout := hSt.out
    obtain ⟨qo, ho1, ho2, ho3⟩ := hout
    obtain ⟨Ao, no, co, rfl, hno, hnoc, hcoc, -⟩ := ho1.rd (fun _ => rfl)
    have hfnd := hSt.fnd
    obtain ⟨qf, hf1, hf2, hf3⟩ := hfnd
    obtain ⟨Af, nf, cf, rfl, hnf, hnfc, hcfc, -⟩ := hf1.rd (fun _ => rfl)
    unfold maxLen at hcoc hcfc
    have HO1 := Lib.hid ho1; clear ho1
    have HO2 := Lib.hid ho2; clear ho2
    have HO3 := Lib.hid ho3; clear ho3
    have HF1 := Lib.hid hf1; clear hf1
    have HF2 := Lib.hid hf2; clear hf2
    have HF3 := Lib.hid hf3; clear hf3
    have HNO := Lib.hid hno; clear hno
    have HNF := Lib.hid hnf; clear hnf
    clear hSt
    rcases hmode with ⟨rfl, rfl⟩ | ⟨rfl, s, gs, hsn, rfl, hAs, hq, hst⟩
    · go_wp2_with (fail)
      go_ret2
      refine .inr ⟨hcl, _, rfl, ?_, HE1.out.trans HST.out.ext⟩
      obtain ⟨qs, k1, k2, k3⟩ := HST.out.out
      exact ⟨qs, k1.up HE1.out.size, k2, fun j q l hj hl => ⟨(k3 j q l hj hl).1.up HE1.out.size, (k3 j q l hj hl).2.up HE1.out.size⟩⟩
    · have hfin := stemTo_final (O := O) (n := n) (v := val s + 1)
      have hst1 : stemTo O n (val s + 1) = stemStep O st s := by rw [stemTo_succ hsn, hst]
      have hst2 : (stemTo O n (val s + 1)).2 = st.2 + 1 := by rw [hst1]; unfold stemStep; rw [if_pos hq]
      have hst256 : st.2 < 256 := by have := HSB.out; omega
      have hnof : nf ≤ st.2 := by
        have := (stemTo_le (O := O) (n := n) (val s)).2
        rw [← hst] at this
        have := HNF.out; have := HF2.out
        omega
      have hnoo : no ≤ st.2 := by
        have := (stemTo_le (O := O) (n := n) (val s)).2
        rw [← hst] at this
        have e := HO2.out
        rw [List.length_map] at e
        have := HNO.out
        omega
      have hFl : ∀ f ∈ st.1, f.1.length = n ∧ f.2.length = n := by rw [hst]; exact stemTo_lens HO.out _
      have HFL := Lib.hid hFl; clear hFl
      have HFIN : Hid (st.2 + 1 ≤ (stemB O n).2) := Lib.hid (by omega)
      have HST1' := Lib.hid hst1
      have HQ := Lib.hid hq
      clear hst1 hst2 hfin hq hst
      have HSN := Lib.hid hsn; clear hsn
      have hrs : ∀ W, Ext wr W → Rd1 W Value.bool (.slice (some ⟨gs, 0, none⟩) n n) s := fun W hE => by
        have := (hAs.ext hE).rd (by have := HSN.out; unfold maxLen; omega)
        rw [HSN.out] at this
        exact this
      have HRS := Lib.hid hrs; clear hrs
      have HAS := Lib.hid hAs; clear hAs
      by_cases hlim : (st.2 : Int) = lim
      · have hlb : ((st.2 : Int) == lim) = true := by simpa using hlim
        have HLIM := Lib.hid hlim; clear hlim
        go_wp2_with (fail)
        go_ret2
        refine .inl ⟨?_, rfl, HE1.out.trans HST.out.ext⟩
        have := HFIN.out
        have := HLIM.out
        omega
      · have hlb : ((st.2 : Int) == lim) = false := by simpa using hlim
        have hlim' : (st.2 : Int) + 1 ≤ lim := by omega
        clear hlim
        have HOS : Hid ((chainB (rs.map (toHorn u)) (fun _ => true) s).1 = O s) := Lib.hid (by rw [← HOO.out])
        have hol : (O s).length = n := HO.out.len _ HSN.out
        have HOL := Lib.hid hol; clear hol
        by_cases hos : O s = s
        · have HST1 : Hid (stemTo O n (val s + 1) = (st.1, st.2 + 1)) := Lib.hid (by rw [HST1'.out]; unfold stemStep; rw [if_pos HQ.out, if_pos hos])
          have HEQ := Lib.hid hos; clear hos
          go_wp2_with (first | (go_at_call 45; refine (close_any b vu' vr _ u _ s _ (HS.out.ext HST.out.ext) (HRS.out _ (Ext.refl _)) (by rw [HSN.out, HLN.out])).mono ?_; rintro e w4 ⟨gc, rfl, hgc, hAc, hE4⟩; rw [HOS.out] at hAc; rw [HSN.out]; have hrc := hAc.rd (by rw [HOL.out]; unfold maxLen; omega); rw [HOL.out] at hrc; have HRC := Lib.hid hrc; clear hrc; have HAC := Lib.hid hAc; clear hAc hgc; have HE4 := Lib.hid hE4; clear hE4) | (go_at_call 65; refine (equal_any _ _ (O s) s _ HRC.out (HRS.out _ HE4.out)).mono ?_; rintro e w5 ⟨rfl, m5, hw5⟩; rw [decide_eq_true HEQ.out]; have hE5 := hw5 ▸ (Ext.refl _).drewN m5; clear hw5; have HAC5 := Lib.hid (HAC.out.ext hE5); have HE5 := Lib.hid (HE4.out.trans hE5); clear hE5))
          have HSA := Lib.hid (HST.out.later HE5.out)
          have HRSA := Lib.hid (HRS.out _ HE5.out)
          have HFL' := HFL
          refine (after_any _ _ s (sat st.1) _ HRSA.out (by rw [HSN.out]; omega) (by rw [HSN.out]; exact saturate_use bf bb _ st.1 n _ (by omega) (HSA.out.cf.cell 0) (HSA.out.cb.cell 0) (HSA.out.fnd.rd (by omega) HFL'.out) HFL'.out)).mono ?_
          rintro e w9 ⟨hE9, hm⟩
          have HE9 := Lib.hid hE9; clear hE9
          cases haf : afterL (sat st.1) s with
          | none =>
            rw [haf] at hm
            simp only at hm
            subst hm
            have HLAST := Lib.hid (stem_last HO.out HSN.out (by rw [HST1.out]; exact haf)); clear haf
            go_wp2_with (fail)
            go_roundw
            case rel => exact ⟨(st.1, st.2 + 1), _, false, rfl, by go_num, by show ((st.2 + 1 : Nat) : Int) ≤ lim; omega, HSA.out.later HE9.out, .inl ⟨rfl, by rw [HLAST.out, HST1.out]⟩⟩
            case measure => simp [intOf]; omega
          | some nx =>
            rw [haf] at hm
            simp only at hm
            obtain ⟨g9, rfl, hA9⟩ := hm
            rw [HSN.out]
            have HNEXT := Lib.hid (stem_next HO.out HSN.out (by rw [HST1.out]; exact haf)); clear haf
            have HA9 := Lib.hid hA9; clear hA9
            go_wp2_with (fail)
            go_roundw
            case rel => exact ⟨(st.1, st.2 + 1), _, true, rfl, by go_num, by show ((st.2 + 1 : Nat) : Int) ≤ lim; omega, HSA.out.later HE9.out, .inr ⟨rfl, nx, g9, HNEXT.out.1, rfl, HA9.out, by have := HNEXT.out.2.2.2; rw [HNEXT.out.2.2.1, HST1.out] at this; exact this, by rw [HNEXT.out.2.2.1, HST1.out]⟩⟩
            case measure => simp [intOf]; omega
        · have HST1 : Hid (stemTo O n (val s + 1) = (st.1 ++ [(s, O s)], st.2 + 1)) := Lib.hid (by rw [HST1'.out]; unfold stemStep; rw [if_pos HQ.out, if_neg hos])
          have HEQ := Lib.hid hos; clear hos
          have HFL' : Hid (∀ f ∈ st.1 ++ [(s, O s)], f.1.length = n ∧ f.2.length = n) := Lib.hid fun f hf => by
            rcases List.mem_append.1 hf with hf | hf
            · exact HFL.out f hf
            · rw [List.mem_singleton] at hf
              subst hf
              exact ⟨HSN.out, HOL.out⟩
          have TK1 : True := trivial
          have TK2 : True := trivial
          have TK3 : True := trivial
          have TK4 : True := trivial
          have hnf2 : nf < 256 := by omega
          have hno2 : no < 256 := by omega
          go_wp2_with (first | (go_at_call 45; refine (close_any b vu' vr _ u _ s _ (HS.out.ext HST.out.ext) (HRS.out _ (Ext.refl _)) (by rw [HSN.out, HLN.out])).mono ?_; rintro e w4 ⟨gc, rfl, hgc, hAc, hE4⟩; rw [HOS.out] at hAc; rw [HSN.out]; have hrc := hAc.rd (by rw [HOL.out]; unfold maxLen; omega); rw [HOL.out] at hrc; have HRC := Lib.hid hrc; clear hrc; have HAC := Lib.hid hAc; clear hAc hgc; have HE4 := Lib.hid hE4; clear hE4) | (go_at_call 65; refine (equal_any _ _ (O s) s _ HRC.out (HRS.out _ HE4.out)).mono ?_; rintro e w5 ⟨rfl, m5, hw5⟩; rw [decide_eq_false HEQ.out]; have hE5 := hw5 ▸ (Ext.refl _).drewN m5; clear hw5; have HAC5 := Lib.hid (HAC.out.ext hE5); have HE5 := Lib.hid (HE4.out.trans hE5); clear hE5; have hcf5 : w5.cell? ⟨bf, 0, none⟩ = some (.slice Af nf cf) := (HST.out.later HE5.out).cf.cell 0; have hbf5 : bf < w5.heap.size := (HST.out.later HE5.out).cf.lt) | (at_builtin; clear TK3; have HSB5 := Lib.hid (HST.out.later HE5.out); go_must (refine wpList_append_outN rfl (.tmp 53) (.tmp 57) 103 rfl 105 i1 _ 2 48 Try.underlying103 hi1 hy0 hy1 hy2 rfl (by decide) enc2 (fun _ => rfl) w1 ((HST.out.ext.trans HE5.out).alloc _) (.slice Af nf cf) qf rfl ((HF1.out.ext HE5.out).ext ((Ext.refl _).alloc _)) w5.heap.size 1 (.slice (some ⟨gs, 0, none⟩) n n, .slice (some ⟨gc, 0, none⟩) n n) rfl (cells_new _ _ _ _ rfl) (by intro x hx; simp only [enc2, List.mem_cons, List.not_mem_nil, or_false] at hx; rcases hx with rfl | rfl <;> rfl) (by have := HNF.out; unfold maxLen; omega) (by have := HNF.out; omega) (nf + 1) (by rw [HNF.out]) ?_); intro g6 c6 w6 hown6 hE6 hg6; have hP := StI.pushF (HSB5.out.later ((Ext.refl _).alloc _)) ((HF1.out.ext HE5.out).ext ((Ext.refl _).alloc _)) HF2.out (fndQ_ext (fndQ_ext HF3.out HE5.out) ((Ext.refl _).alloc _)) ((HAS.out.ext HE5.out).ext ((Ext.refl _).alloc _)) (HAC5.out.ext ((Ext.refl _).alloc _)) hE6 hg6 hown6; have hQ := ownQ_push (v' := .slice (some ⟨g6, 0, none⟩) (nf + 1) c6) ((HO1.out.ext HE5.out).ext ((Ext.refl _).alloc _)) (ownQ_ext (ownQ_ext HO3.out HE5.out) ((Ext.refl _).alloc _)) ((HF1.out.ext HE5.out).ext ((Ext.refl _).alloc _)) hg6 (HSB5.out.later ((Ext.refl _).alloc _)).cf; have hold6 : w6.cell? ⟨bf, 0, none⟩ = some (.slice Af nf cf) := (Blk.appended (HSB5.out.later ((Ext.refl _).alloc _)).cf hg6 ((HF1.out.ext HE5.out).ext ((Ext.refl _).alloc _)) (by decide)).cell 0; have hfz6 : w6.frozen? ⟨bf, 0, none⟩ = false := (Blk.appended (HSB5.out.later ((Ext.refl _).alloc _)).cf hg6 ((HF1.out.ext HE5.out).ext ((Ext.refl _).alloc _)) (by decide)).frozen 0; clear hg6 hown6 hE6 hcf5 hbf5; have HP := Lib.hid hP; clear hP; have HQQ := Lib.hid hQ; clear hQ) | (go_at_call 47; clear TK1; have hsr := HS.out.ext HP.out.1.ext; have hrs6 := HP.out.2.1.rd (by rw [HSN.out]; unfold maxLen; omega); rw [HSN.out] at hrs6; refine (list_any b vu' _ u s _ hsr.cu hsr.ru hrs6 (by rw [HSN.out, HLN.out]) hsr.szu).mono ?_; clear hsr hrs6; rintro e w7 ⟨q7, rfl, hq7, hE7⟩; have hq7r := hq7.rd; obtain ⟨A7, n7, c7, rfl, -⟩ := hq7r; have HQ7 := Lib.hid (hq7.up HP.out.1.ext.size); clear hq7; have HE7 := Lib.hid hE7; clear hE7 hold6 hfz6) | (go_at_call 47; clear TK2; have hsr := HS.out.ext (HP.out.1.ext.trans HE7.out); have hrs6 := (HP.out.2.2.ext HE7.out).rd (by rw [HOL.out]; unfold maxLen; omega); rw [HOL.out] at hrs6; refine (list_any b vu' _ u (O s) _ hsr.cu hsr.ru hrs6 (by rw [HOL.out, HLN.out]) hsr.szu).mono ?_; clear hsr hrs6; rintro e w8 ⟨q8, rfl, hq8, hE8⟩; have hq8r := hq8.rd; obtain ⟨A8, n8, c8, rfl, -⟩ := hq8r; have HQ8 := Lib.hid ((hq8.up HE7.out.size).up HP.out.1.ext.size); clear hq8; have HE8 := Lib.hid hE8; clear hE8) | (at_builtin; clear TK4; go_must (refine wpList_append_oneN rfl (.tmp 59) (.tmp 67) 61 rfl 49 i2 _ 2 48 Try.underlying61 hi2 hx0 hx1 hx2 rfl (by decide) enc2 (fun _ => rfl) w1 (((HP.out.1.ext.trans HE7.out).trans HE8.out).alloc _) (.slice Ao no co) qo rfl (((HQQ.out.1.ext HE7.out).ext HE8.out).ext ((Ext.refl _).alloc _)) w8.heap.size 1 (.slice A7 n7 c7, .slice A8 n8 c8) rfl (cells_new _ _ _ _ rfl) (by intro x hx; simp only [enc2, List.mem_cons, List.not_mem_nil, or_false] at hx; rcases hx with rfl | rfl <;> rfl) (by have := HNO.out; unfold maxLen; omega) (by have := HNO.out; omega) ?_); intro v9 w9 hown9 hE9 hg9; have hP9 := StI.pushO (((HP.out.1.later HE7.out).later HE8.out).later ((Ext.refl _).alloc _)) (((HQQ.out.1.ext HE7.out).ext HE8.out).ext ((Ext.refl _).alloc _)) HO2.out (ownQ_ext (ownQ_ext (ownQ_ext HQQ.out.2 HE7.out) HE8.out) ((Ext.refl _).alloc _)) ((HQ7.out.ext HE8.out).ext ((Ext.refl _).alloc _)) (HQ8.out.ext ((Ext.refl _).alloc _)) hE9 hg9 hown9; have hrs9 := (((HP.out.2.1.ext HE7.out).ext HE8.out).ext ((Ext.refl _).alloc _)).appendedN hg9 (((HQQ.out.1.ext HE7.out).ext HE8.out).ext ((Ext.refl _).alloc _)) (by decide); clear hg9 hown9 hE9; have HSA := Lib.hid hP9; clear hP9; have HRS9 := Lib.hid hrs9; clear hrs9))
          have hrs9 := HRS9.out.rd (by rw [HSN.out]; unfold maxLen; omega)
          rw [HSN.out] at hrs9
          have HRSA := Lib.hid hrs9; clear hrs9
          have HSA : Hid (StI n w1 w9 bf bb (.slice (some ⟨g6, 0, none⟩) (nf + 1) c6) v9 (st.1 ++ [(s, O s)]) ((st.1 ++ [(s, O s)]).map (nm2 u))) := by rw [List.map_append]; exact HSA
          refine (after_any _ _ s (sat (st.1 ++ [(s, O s)])) _ HRSA.out (by rw [HSN.out]; omega) (by rw [HSN.out]; exact saturate_use bf bb _ (st.1 ++ [(s, O s)]) n _ (by omega) (HSA.out.cf.cell 0) (HSA.out.cb.cell 0) (HSA.out.fnd.rd (by omega) HFL'.out) HFL'.out)).mono ?_
          rintro e wq ⟨hEq, hm⟩
          have HEq := Lib.hid hEq; clear hEq
          cases haf : afterL (sat (st.1 ++ [(s, O s)])) s with
          | none =>
            rw [haf] at hm
            simp only at hm
            subst hm
            have HLAST := Lib.hid (stem_last HO.out HSN.out (by rw [HST1.out]; exact haf)); clear haf
            go_wp2_with (fail)
            go_roundw
            case rel => exact ⟨((st.1 ++ [(s, O s)]), st.2 + 1), _, false, rfl, by go_num, by show ((st.2 + 1 : Nat) : Int) ≤ lim; omega, HSA.out.later HEq.out, .inl ⟨rfl, by rw [HLAST.out, HST1.out]⟩⟩
            case measure => simp [intOf]; omega
          | some nx =>
            rw [haf] at hm
            simp only at hm
            obtain ⟨g9, rfl, hA9⟩ := hm
            rw [HSN.out]
            have HNEXT := Lib.hid (stem_next HO.out HSN.out (by rw [HST1.out]; exact haf)); clear haf
            have HA9 := Lib.hid hA9; clear hA9
            go_wp2_with (fail)
            go_roundw
            case rel => exact ⟨((st.1 ++ [(s, O s)]), st.2 + 1), _, true, rfl, by go_num, by show ((st.2 + 1 : Nat) : Int) ≤ lim; omega, HSA.out.later HEq.out, .inr ⟨rfl, nx, g9, HNEXT.out.1, rfl, HA9.out, by have := HNEXT.out.2.2.2; rw [HNEXT.out.2.2.1, HST1.out] at this; exact this, by rw [HNEXT.out.2.2.1, HST1.out]⟩⟩
            case measure => simp [intOf]; omega
end Go.Proofs.Ythgplaledmccgaa
