/-
  Contract: closure.All.
-/
import Derived.Test.YthgplaledmccgaaW12
import Derived.Test.YthgplaledmccgaaSpec8
namespace Go.Proofs.Ythgplaledmccgaa
open Go.RowKit

theorem inf22 : (Try.prog.info? 22).map (fun i => (i.zero, i.size, i.bytes)) = some (some (.slice none 0 0), 1, 24) := by kernel_rfl

theorem close_use (b : Nat) (vu vr : Value) (u : List Nm) (hs : List Horn) (w : World) (hS : SysR w b vu vr u hs) :
    OpAt Try.prog (.func (.func 45) #[.pointer (some ⟨b, 0, none⟩)] #[]) u.length (fun s => (chainB hs (fun _ => true) s).1) w := by
  refine ⟨_, _, _, rfl, fun _ _ => by kernel_rfl, fun s hs => by rw [chainB_len, hs], fun W v s hE hv hl => ?_⟩
  refine (close_any b vu vr v u hs s W (hS.ext hE) hv hl).mono ?_
  rintro e w' ⟨g, rfl, hg, hA, hE'⟩
  exact ⟨g, by rw [hl], hA, hE'⟩

theorem Own.appended1 {α β : Type} {w w' : World} {base0 : Nat} {t : TypeId} {enc : α → Value} {v0 : Value} {l : List α} {base : Nat} {e : TypeId} {enc' : β → Value} {v : Value} {xs : List β} (h : Own w base0 t enc v0 l) (hg : w.grownBy w' v.ownBlock)
    (hown : Own w base e enc' v xs) (hne : e ≠ t) : Own w' base0 t enc v0 l := by
  refine World.ownsRow.kept h hg ?_
  rcases h.2 with ⟨rfl, _⟩ | ⟨g, cap, cur, rfl, _, hh, _⟩
  · exact .inl rfl
  · exact .inr fun he => own_blk_ne hown (g := g) (t := t) (cs := cur) hh hne he.symm

/-- a list of lists of names that the call owns -/
def OwnSS (w : World) (base : Nat) (v : Value) (L : List (List Nm)) : Prop :=
  ∃ qs : List Value, Own w base 22 id v qs ∧ qs.length = L.length ∧ ∀ (j : Nat) (q : Value) (l : List Nm), qs[j]? = some q → L[j]? = some l → Own w base 9 encS q l
theorem OwnSS.ext {w w' : World} {base : Nat} {v : Value} {L : List (List Nm)} (h : OwnSS w base v L) (he : Ext w w') : OwnSS w' base v L := by
  obtain ⟨qs, h1, h2, h3⟩ := h
  exact ⟨qs, h1.ext he, h2, fun j q l hq hl => (h3 j q l hq hl).ext he⟩
theorem Own.lenV {α : Type} {w : World} {base : Nat} {t : TypeId} {enc : α → Value} {v : Value} {l : List α} (h : Own w base t enc v l) : lenV v = l.length := by
  rcases h.2 with ⟨rfl, hn⟩ | ⟨g, cap, cur, rfl, _⟩
  · exact hn.symm
  · rfl
theorem OwnSS.lenV {w : World} {base : Nat} {v : Value} {L : List (List Nm)} (h : OwnSS w base v L) : lenV v = L.length := by
  obtain ⟨qs, h1, h2, h3⟩ := h
  rw [h1.lenV, h2]

def AllOk (u : List Nm) (rs : List RuleN) (w : World) (e : Ending) (w' : World) : Prop :=
  ∃ v, e = .returned (.tuple #[v, .int .i64 0]) ∧ OwnSS w' w.heap.size v (allN u rs) ∧ Ext w w'

set_option maxRecDepth 100000 in
set_option maxHeartbeats 400000 in
theorem all_arg (vu vs : Value) (u : List Nm) (rs : List RuleN) (lim : Int) (w : World) (hu : InU w vu u) (hr : InR w vs rs) (h0 : checkE u rs = 0) (hl : lim < 1) :
    Calls Try.prog 18 #[vu, vs, .int .i64 lim] w fun e w' => e = .returned (.tuple #[.slice none 0 0, .int .i64 1]) ∧ Ext w w' := by
  have HU := Lib.hid hu; clear hu
  have HR := Lib.hid hr; clear hr
  have H0 := Lib.hid h0; clear h0
  go_enter Try.func18, Try.ntmps18
  go_wp2_with (fail)
  refine (parse_ok _ _ u rs _ HU.out HR.out H0.out).mono ?_
  rintro e w1 ⟨b, vu', vr, rfl, hS⟩
  have HS := Lib.hid hS; clear hS
  go_wp2_with (fail)
  go_ret2
  exact ⟨rfl, HS.out.ext⟩

def AllPost (u : List Nm) (rs : List RuleN) (lim : Int) (w : World) (e : Ending) (w' : World) : Prop :=
  (lim < (allN u rs).length ∧ e = .returned (.tuple #[.slice none 0 0, .int .i64 6]) ∧ Ext w w') ∨ ((allN u rs).length ≤ lim ∧ AllOk u rs w e w')

set_option maxRecDepth 100000 in
set_option maxHeartbeats 2000000 in
theorem all_any (vu vs : Value) (u : List Nm) (rs : List RuleN) (lim : Int) (w : World) (hu : InU w vu u) (hr : InR w vs rs) (h0 : checkE u rs = 0) (hl : 1 ≤ lim) (hu8 : u.length ≤ 8) :
    Calls Try.prog 18 #[vu, vs, .int .i64 lim] w (AllPost u rs lim w) := by
  obtain ⟨i0, hi0, hz0, hz1, hz2⟩ := info_parts inf4
  obtain ⟨i1, hi1, hy0, hy1, hy2⟩ := info_parts inf22
  have hrd := hu.rd
  obtain ⟨A, n, c, rfl, hln, -, hcm, -⟩ := hrd
  unfold maxLen at hcm
  have hn8 : n ≤ 8 := by omega
  have HLN := Lib.hid hln; clear hln hu8
  have HU := Lib.hid hu; clear hu
  have HR := Lib.hid hr; clear hr
  have H0 := Lib.hid h0; clear h0
  go_enter Try.func18, Try.ntmps18
  go_wp2_with (fail)
  refine (parse_ok _ _ u rs _ HU.out HR.out H0.out).mono ?_
  rintro e w1 ⟨b, vu', vr, rfl, hS⟩
  have HE1 := Lib.hid hS.ext
  have HS := Lib.hid hS.read; clear hS
  go_wp2_with (at_make; refine wpList_make_arr rfl (.tmp 27) (.tmp 27) 74 4 rfl i0 _ 1 Try.underlying74 hi0 hz0 hz1 hz2 rfl n rfl rfl (by omega) (by unfold maxLen; omega) ?_; intro w2 g hblk hgb hE2)
  have hA2 : Arr w2 4 Value.bool g (List.replicate n false) := by unfold Arr; simpa using hblk
  have hrd2 := hA2.rd (by simp; unfold maxLen; omega)
  simp only [List.length_replicate] at hrd2
  have hE2' : Ext w1 w2 := ((Ext.refl _).alloc _).trans hE2
  have hown2 : Own w2 w1.heap.size 22 id (.slice (some ⟨w1.heap.size, 0, none⟩) 0 0) [] := (Own.empty w1 w1.heap.size 22 id (Nat.le_refl _)).ext hE2
  have HOWN2 : Hid (OwnSS w2 w1.heap.size (.slice (some ⟨w1.heap.size, 0, none⟩) 0 0) []) := ⟨[], hown2, rfl, by intro j q l hq; simp at hq⟩
  refine (close_any b vu' vr _ u _ (List.replicate n false) _ (HS.out.ext hE2') hrd2 (by simp [HLN.out])).mono ?_
  rintro e w3 ⟨g3, rfl, hg3, hA3, hE3⟩
  have hrd3 := hA3.rd (by rw [chainB_len]; simp; unfold maxLen; omega)
  rw [chainB_len] at hrd3
  simp only [List.length_replicate] at hrd3 ⊢
  have HA3 := Lib.hid hA3
  have HE3 : Hid (Ext w1 w3) := hE2'.trans hE3
  have HOWN3 : Hid (OwnSS w3 w1.heap.size (.slice (some ⟨w1.heap.size, 0, none⟩) 0 0) []) := HOWN2.out.ext hE3
  clear hE2 hE2' hE3 hA3 hrd3 hrd2 hA2 hblk hown2 HOWN2
  go_wp2_with (fail)
  have hpw : 2 ^ n ≤ 256 := Nat.pow_le_pow_right (by decide : 0 < 2) hn8
  have HPW := Lib.hid hpw; clear hpw
  have hallB : allB (closeO u rs) u.length = [] ++ allFrom (closeO u rs) (2 ^ n) (closeO u rs (List.replicate n false)) := by unfold allB; rw [HLN.out]; rfl
  have HALLB := Lib.hid hallB; clear hallB
  go_loopw [10, 11, 12] (fun v vset vok wr => ∃ (done : List (List Bool)) (ok : Bool), vok = .bool ok ∧ Ext w1 wr ∧ OwnSS wr w1.heap.size v (done.map (namesOf u)) ∧ (done.length : Int) ≤ lim ∧
    ((ok = false ∧ allB (closeO u rs) u.length = done ∧ done.length ≤ 2 ^ n) ∨ (ok = true ∧ ∃ s f, s.length = n ∧ (∃ gs, vset = .slice (some ⟨gs, 0, none⟩) n n ∧ Arr wr 4 Value.bool gs s) ∧ allB (closeO u rs) u.length = done ++ allFrom (closeO u rs) f s ∧ f + done.length = 2 ^ n ∧ done.length ≤ val s)))
    (fun v _ _ _ => 300 - lenV v)
  case atStart =>
    refine ⟨[], true, rfl, HE3.out, HOWN3.out, by simp; omega, .inr ⟨rfl, _, 2 ^ n, ?_, ⟨g3, rfl, HA3.out⟩, HALLB.out, by simp, Nat.zero_le _⟩⟩
    rw [chainB_len]; simp
  case round =>
    obtain ⟨done, ok, rfl, hE, hown, hdl, hmode⟩ := hrel
    have hlv := hown.lenV
    obtain ⟨qs, ho1, ho2, ho3⟩ := hown
    obtain ⟨Ao, no, co, rfl, hno, hnoc, hcoc, -⟩ := ho1.rd
    have hnd : no = done.length := by rw [← hno, ho2]; simp
    subst hnd
    unfold maxLen at hcoc
    have HO1 := Lib.hid ho1; clear ho1
    have HO2 := Lib.hid ho2; clear ho2
    have HO3 := Lib.hid ho3; clear ho3
    have HLV := Lib.hid hlv; clear hlv hno
    have HE := Lib.hid hE; clear hE
    rcases hmode with ⟨rfl, hfin, hd2⟩ | ⟨rfl, s, f, hsn, hrs, hall, hf, hvs⟩
    · have HFIN := Lib.hid hfin; clear hfin
      go_wp2_with (fail)
      go_ret2
      have hal : allN u rs = done.map (namesOf u) := by unfold allN; rw [HFIN.out]
      refine .inr ⟨by rw [hal]; simpa using hdl, _, rfl, ?_, HE1.out.trans HE.out⟩
      rw [hal]
      exact ⟨qs, HO1.out.up HE1.out.size, HO2.out, fun j q l hq hl => (HO3.out j q l hq hl).up HE1.out.size⟩
    · have hv1 := val_lt s
      rw [hsn] at hv1
      have hd256 : done.length < 256 := by have := HPW.out; omega
      obtain ⟨f', rfl⟩ : ∃ f', f = f' + 1 := ⟨f - 1, by have := HPW.out; omega⟩
      obtain ⟨gs, rfl, hAs⟩ := hrs
      have hrs := hAs.rd (by rw [hsn]; unfold maxLen; omega)
      rw [hsn] at hrs
      have HRS := Lib.hid hrs; clear hrs
      have HAS := Lib.hid hAs; clear hAs
      have HSN := Lib.hid hsn; clear hsn
      have HALL := Lib.hid hall; clear hall
      have HF := Lib.hid hf; clear hf
      have HVS := Lib.hid hvs; clear hvs hv1
      by_cases hlim : (done.length : Int) = lim
      · have hlb : ((done.length : Int) == lim) = true := by simpa using hlim
        have HLIM := Lib.hid hlim; clear hlim
        go_wp2_with (fail)
        go_ret2
        refine .inl ⟨?_, rfl, HE1.out.trans HE.out⟩
        unfold allN
        rw [HALL.out, allFrom]
        have := HLIM.out
        simp
        omega
      · have hlb : ((done.length : Int) == lim) = false := by simpa using hlim
        have hlim' : (done.length : Int) + 1 ≤ lim := by omega
        clear hlim
        have hR := HS.out.ext HE.out
        go_wp2_with (fail)
        refine (list_any b vu' _ u s _ hR.cu hR.ru HRS.out (by rw [HSN.out, HLN.out]) hR.szu).mono ?_
        rintro e w5 ⟨q, rfl, hq, hE5⟩
        have hq' := hq
        obtain ⟨Aq, nq, cq, rfl, -⟩ := hq'.rd
        have HQ := Lib.hid hq; clear hq hq' hR
        have HE5 := Lib.hid hE5; clear hE5
        have hqn : qs.length = done.length := by rw [HO2.out]; simp
        have HQN := Lib.hid hqn; clear hqn
        have how : Own w5 w1.heap.size 22 id (.slice Ao done.length co) qs := HO1.out.ext HE5.out
        have HOW := Lib.hid how; clear how
        have hone : (id (Value.slice Aq nq cq)).oneCell' = true := rfl
        have HONE := Lib.hid hone; clear hone
        go_wp2_with (at_builtin; go_must (refine wpList_append_one rfl (.tmp 42) (.tmp 46) 28 rfl 22 i1 _ 24 Try.underlying28 hi1 hy0 hy1 hy2 rfl id w1 ((HE.out.trans HE5.out).alloc _) _ qs rfl (HOW.out.ext ((Ext.refl _).alloc _)) w5.heap.size 1 (.slice Aq nq cq) rfl (cell_new1 _ _ _) HONE.out ?c1 ?c2 ?c3))
        case c1 => rw [HQN.out]; unfold maxLen; omega
        case c2 => rw [HQN.out]; omega
        case c3 =>
          intro v6 w6 hown6 hE6 hg6
          have hss6 : OwnSS w6 w1.heap.size v6 ((done ++ [s]).map (namesOf u)) := by
            refine ⟨qs ++ [.slice Aq nq cq], hown6, by simp [HQN.out], fun j q l hq hl => ?_⟩
            rw [List.map_append] at hl
            by_cases hj : j < qs.length
            · rw [List.getElem?_append_left hj] at hq
              rw [List.getElem?_append_left (by rw [← HO2.out]; exact hj)] at hl
              exact (((HO3.out j q l hq hl).ext HE5.out).ext ((Ext.refl _).alloc _)).appended1 hg6 (HOW.out.ext ((Ext.refl _).alloc _)) (by decide)
            · rw [List.getElem?_append_right (by omega)] at hq
              rw [List.getElem?_append_right (by rw [← HO2.out]; omega), ← HO2.out] at hl
              have h0 : j - qs.length = 0 := by
                have := (List.getElem?_eq_some_iff.1 hq).1
                simp at this; omega
              rw [h0] at hq hl
              simp only [List.getElem?_cons_zero, Option.some.injEq, List.map_cons, List.map_nil] at hq hl
              rw [← hq, ← hl]
              exact ((HQ.out.up HE.out.size).ext ((Ext.refl _).alloc _)).appended1 hg6 (HOW.out.ext ((Ext.refl _).alloc _)) (by decide)
          have hA6 : Arr w6 4 Value.bool gs s := ((HAS.out.ext HE5.out).ext ((Ext.refl _).alloc _)).appended hg6 (HOW.out.ext ((Ext.refl _).alloc _)) (by decide)
          have hrs6 := hA6.rd (by rw [HSN.out]; unfold maxLen; omega)
          rw [HSN.out] at hrs6
          have HRS6 := Lib.hid hrs6; clear hrs6 hA6 hg6 hown6
          have HSS6 := Lib.hid hss6; clear hss6
          have HE6 := Lib.hid hE6; clear hE6
          go_wp2_with (fail)
          refine (after_any _ _ s (closeO u rs) _ HRS6.out (by rw [HSN.out]; omega) (by rw [HSN.out, ← HLN.out]; exact close_use b vu' vr u _ _ (HS.out.ext HE6.out))).mono ?_
          rintro e w7 ⟨hE7, hm⟩
          have hss7 := HSS6.out.ext hE7
          have hlv7 := hss7.lenV
          have HSS7 := Lib.hid hss7; clear hss7
          have HE7 := Lib.hid (HE6.out.trans hE7); clear hE7
          have hallf := HALL.out
          rw [allFrom] at hallf
          cases haf : afterL (closeO u rs) s with
          | none =>
            rw [haf] at hm hallf
            simp only at hm hallf
            subst hm
            have HALLF := Lib.hid hallf; clear hallf haf
            have HLV7 := Lib.hid hlv7; clear hlv7
            go_wp2_with (fail)
            go_roundw
            case rel =>
              refine ⟨done ++ [s], false, rfl, HE7.out, HSS7.out, by simp; omega, .inl ⟨rfl, by rw [HALLF.out], by have := HF.out; simp; omega⟩⟩
            case measure =>
              have e1 := HLV7.out
              simp only [List.length_map, List.length_append, List.length_cons, List.length_nil] at e1
              have e2 : lenV (.slice Ao done.length co) = done.length := rfl
              simp only [e1, e2]
              omega
          | some nx =>
            rw [haf] at hm hallf
            simp only at hm hallf
            obtain ⟨g7, rfl, hA7⟩ := hm
            obtain ⟨hv7, hl7⟩ := afterL_val chainB_ext (fun t => chainB_len) haf
            have HALLF := Lib.hid hallf; clear hallf haf
            have HLV7 := Lib.hid hlv7; clear hlv7
            have HA7 := Lib.hid hA7; clear hA7
            rw [HSN.out] at hl7
            have HL7 := Lib.hid hl7; clear hl7
            rw [HSN.out]
            go_wp2_with (fail)
            go_roundw
            case rel =>
              refine ⟨done ++ [s], true, rfl, HE7.out, HSS7.out, by simp; omega, .inr ⟨rfl, nx, f', HL7.out, ⟨g7, rfl, HA7.out⟩, by rw [HALLF.out]; simp, ?_, ?_⟩⟩
              · have := HF.out; simp; omega
              · have := HVS.out; simp; omega
            case measure =>
              have e1 := HLV7.out
              simp only [List.length_map, List.length_append, List.length_cons, List.length_nil] at e1
              have e2 : lenV (.slice Ao done.length co) = done.length := rfl
              simp only [e1, e2]
              omega
end Go.Proofs.Ythgplaledmccgaa
