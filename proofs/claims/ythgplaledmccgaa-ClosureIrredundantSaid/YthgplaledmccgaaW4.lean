/-
  Contracts: closure at, every, fires, set, list.
-/
import Derived.Test.YthgplaledmccgaaW3
import Derived.Test.YthgplaledmccgaaMem
import Derived.Test.YthgplaledmccgaaMem2
namespace Go.Proofs.Ythgplaledmccgaa
open Go.RowKit


set_option maxHeartbeats 400000 in
theorem every_any (i : Int) (w : World) : Calls Try.prog 61 #[.int .i64 i] w fun e w' => e = .returned (.bool true) ∧ w = w' := by
  go_enter Try.func61, Try.ntmps61
  go_wp2
  go_ret
  exact ⟨rfl, rfl⟩

set_option maxHeartbeats 400000 in
theorem at_any (b : Nat) (vu : Value) (u : List Nm) (x : Nm) (w : World) (hc : w.cell? ⟨b, 0, none⟩ = some vu) (hu : RdS w vu u) (hs : ascB u = true) :
    Calls Try.prog 59 #[.pointer (some ⟨b, 0, none⟩), .string ⟨x.toArray⟩] w fun e w' => e = .returned (.int .i64 (ixI u x)) ∧ w = w' := by
  have hu' := hu
  obtain ⟨A, n, c, rfl, -⟩ := hu'
  have HU := Lib.hid hu; clear hu
  go_enter Try.func59, Try.ntmps59
  go_wp2_with (fail)
  refine (search_any _ u x w HU.out hs).mono ?_
  rintro e w' ⟨⟨i, f, rfl, hi, hy, hn⟩, rfl⟩
  cases f with
  | true =>
    have e1 := ixI_yes hs (hy rfl)
    have E1 := Lib.hid e1
    clear e1 hy hn
    go_wp2_with fail
    go_ret
    exact ⟨by rw [E1.out]; rfl, rfl⟩
  | false =>
    have e1 := ixI_no (hn rfl)
    have E1 := Lib.hid e1
    clear e1 hy hn
    go_wp2_with fail
    go_ret
    exact ⟨by rw [E1.out]; rfl, rfl⟩

set_option maxHeartbeats 400000 in
theorem fires_any (q vs : Value) (h : Horn) (s : List Bool) (w : World) (hq : Rd1 w encI q h.1) (hv : Rd1 w Value.bool vs s) (h2 : h.2 < s.length) (h1 : ∀ p ∈ h.1, p < s.length) :
    Calls Try.prog 56 #[.agg #[q, .int .i64 (h.2 : Int)], vs] w fun e w' => e = .returned (.bool (firesB s h)) ∧ Ext w w' := by
  obtain ⟨prem, th⟩ := h
  simp only at hq h2 h1 ⊢
  obtain ⟨A, n, c, rfl, hl, hnc, hcm, hcell⟩ := hq
  obtain ⟨A', n', c', rfl, hl', hnc', hcm', hcell'⟩ := hv
  unfold maxLen at hcm hcm'
  obtain ⟨b', off', rfl, hb', hc'⟩ := hcell' (by omega)
  have hth := hc' th s[th] (List.getElem?_eq_getElem h2)
  have HC' := Lib.hid hc'; clear hc' hcell'
  have hget : s.getD th false = s[th] := by rw [List.getD_eq_getElem?_getD, List.getElem?_eq_getElem h2]; rfl
  have HG := Lib.hid hget; clear hget
  have HL := Lib.hid hl; clear hl
  have HL' := Lib.hid hl'; clear hl'
  have HC := Lib.hid hcell; clear hcell
  have H1 := Lib.hid h1; clear h1
  have h2n : th < n' := by have := HL'.out; omega
  cases hst : s[th] with
  | true =>
    rw [hst] at hth
    have HST := Lib.hid hst; clear hst
    go_enter Try.func56, Try.ntmps56
    go_wp2
    go_ret
    exact ⟨ret_bool (by unfold firesB; simp only; rw [HG.out, HST.out]; rfl), (Ext.refl w).alloc _⟩
  | false =>
    rw [hst] at hth
    have HST := Lib.hid hst; clear hst
    go_enter Try.func56, Try.ntmps56
    go_wp2
    go_loop [15] (fun i => ∃ k : Nat, k ≤ n ∧ i = .int .i64 k ∧ ∀ p ∈ prem.take k, s.getD p false = true) (fun i => n - (intOf i).toNat)
    case atStart => exact ⟨0, Nat.zero_le _, rfl, by simp⟩
    case round =>
      obtain ⟨k, hk, rfl, hno⟩ := hrel
      have HNO := Lib.hid hno; clear hno
      by_cases hlt : k < n
      · obtain ⟨b, off, rfl, hb, hc⟩ := HC.out (by omega)
        have hkl : k < prem.length := by rw [HL.out]; exact hlt
        have hc1 := hc k prem[k] (List.getElem?_eq_getElem hkl)
        clear hc
        have hpk : prem[k] < s.length := H1.out _ (List.getElem_mem hkl)
        have hpn : prem[k] < n' := by have := HL'.out; omega
        have hc2 := HC'.out prem[k] s[prem[k]] (List.getElem?_eq_getElem hpk)
        have hgp : s.getD prem[k] false = s[prem[k]] := by rw [List.getD_eq_getElem?_getD, List.getElem?_eq_getElem hpk]; rfl
        have HGP := Lib.hid hgp; clear hgp
        generalize hpe : prem[k] = p at *
        have HPE := Lib.hid hpe; clear hpe
        cases hsp : s[p] with
        | true =>
          rw [hsp] at hc2
          have HSP := Lib.hid hsp; clear hsp
          go_wp2
          go_round
          case rel =>
            refine ⟨k + 1, by omega, by go_num, fun x hx => ?_⟩
            rw [List.take_succ_eq_append_getElem hkl, List.mem_append] at hx
            rcases hx with hx | hx
            · exact HNO.out x hx
            · rw [List.mem_singleton, HPE.out] at hx
              subst hx
              rw [HGP.out, HSP.out]
          case measure => simp [intOf]; omega
        | false =>
          rw [hsp] at hc2
          have HSP := Lib.hid hsp; clear hsp
          go_wp2
          go_ret
          refine ⟨ret_bool ?_, (Ext.refl w).alloc _⟩
          unfold firesB
          have : (prem.all fun p => s.getD p false) = false := by
            rw [List.all_eq_false]
            exact ⟨p, by rw [← HPE.out]; exact List.getElem_mem hkl, by rw [HGP.out, HSP.out]; decide⟩
          rw [this, Bool.and_false]
      · go_wp2
        go_ret
        refine ⟨ret_bool ?_, (Ext.refl w).alloc _⟩
        unfold firesB
        have hno := HNO.out
        rw [List.take_of_length_le (by have := HL.out; omega)] at hno
        rw [HG.out, HST.out, List.all_eq_true.2 hno]
        rfl
theorem inf4 : (Try.prog.info? 4).map (fun i => (i.zero, i.size, i.bytes)) = some (some (.bool false), 1, 1) := by kernel_rfl
theorem inf9 : (Try.prog.info? 9).map (fun i => (i.zero, i.size, i.bytes)) = some (some (.string ⟨#[]⟩), 1, 16) := by kernel_rfl
theorem inf3 : (Try.prog.info? 3).map (fun i => (i.zero, i.size, i.bytes)) = some (some (.int .i64 0), 1, 8) := by kernel_rfl

theorem memB_snoc (u l : List Nm) (x : Nm) (i : Nat) (hs : ascB u = true) (hi : u[i]? = some x) : (memB u l).set i true = memB u (l ++ [x]) := by
  unfold memB
  apply List.ext_getElem?
  intro j
  rw [List.getElem?_set]
  have hil : i < u.length := (List.getElem?_eq_some_iff.1 hi).1
  by_cases hij : i = j
  · subst hij
    have : u[i] = x := by rw [List.getElem?_eq_getElem hil] at hi; exact Option.some.inj hi
    simp [hil, this]
  · rw [if_neg hij]
    simp only [List.getElem?_map]
    cases hj : u[j]? with
    | none => rfl
    | some y =>
      simp only [Option.map_some, Option.some.injEq, List.mem_append, List.mem_singleton, decide_eq_decide]
      constructor
      · exact .inl
      · rintro (h | rfl)
        · exact h
        · exact absurd (ascB_inj hs hi hj) hij

def SetPost (u l : List Nm) (w : World) (e : Ending) (w' : World) : Prop :=
  ∃ g, e = .returned (.tuple #[.slice (some ⟨g, 0, none⟩) u.length u.length, .int .i64 0]) ∧ w.heap.size ≤ g ∧ Arr w' 4 Value.bool g (memB u l) ∧ Ext w w'

set_option maxRecDepth 100000 in
set_option maxHeartbeats 400000 in
theorem set_ok (b : Nat) (vu vl : Value) (u l : List Nm) (w : World) (hc : w.cell? ⟨b, 0, none⟩ = some vu) (hu : RdS w vu u) (hs : ascB u = true) (hl : RdS w vl l)
    (ha : ascB l = true) (hm : ∀ x ∈ l, x ∈ u) (hsz : u.length ≤ 1048576) :
    Calls Try.prog 53 #[.pointer (some ⟨b, 0, none⟩), vl] w (SetPost u l w) := by
  obtain ⟨i0, hi0, hz0, hz1, hz2⟩ := info_parts inf4
  have hu' := hu
  obtain ⟨A, n, c, rfl, hun, -, hcm, -⟩ := hu'
  have HL0 := Lib.hid hl
  obtain ⟨A', n', c', rfl, hl', hnc', hcm', hcell'⟩ := hl
  unfold maxLen at hcm hcm'
  have HU := Lib.hid hu; clear hu
  have HUN := Lib.hid hun; clear hun
  have HC := Lib.hid hcell'; clear hcell'
  have HL' := Lib.hid hl'; clear hl'
  have HM := Lib.hid hm; clear hm
  have hnsz : n ≤ 1048576 := by have := HUN.out; omega
  clear hsz
  have HA := Lib.hid ha; clear ha
  have HS := Lib.hid hs; clear hs
  go_enter Try.func53, Try.ntmps53
  go_wp2_with (first | (go_at_call 72; refine (sorted_any _ l _ HL0.out).mono ?_; rintro e w' ⟨rfl, m, rfl⟩; rw [HA.out]) | (at_make; refine wpList_make_arr rfl (.tmp 17) (.tmp 17) 74 4 rfl i0 _ 1 Try.underlying74 hi0 hz0 hz1 hz2 rfl n rfl rfl (by omega) (by unfold maxLen; omega) ?_; intro w1 g hblk hgb hE1))
  have hgb : w.heap.size ≤ g := hgb
  have hE : Ext w w1 := ((Ext.refl w).drewN m).trans hE1
  have hA0 : Arr w1 4 Value.bool g (memB u (l.take 0)) := by
    have e : (memB u (l.take 0)).map Value.bool = List.replicate n (.bool false) := by
      rw [List.eq_replicate_iff]
      refine ⟨by simp [memB, HUN.out], fun v hv => ?_⟩
      simp [memB] at hv
      exact hv.2.symm
    unfold Arr
    rw [e]
    simpa using hblk
  clear hE1 hblk
  have HE := Lib.hid hE; clear hE
  have HA0 := Lib.hid hA0; clear hA0
  go_loopw [21] (fun i wr => ∃ k : Nat, k ≤ n' ∧ i = .int .i64 k ∧ Ext w wr ∧ Arr wr 4 Value.bool g (memB u (l.take k))) (fun i _ => n' - (intOf i).toNat)
  case atStart => exact ⟨0, Nat.zero_le _, rfl, HE.out, HA0.out⟩
  case round =>
    obtain ⟨k, hk, rfl, hEr, hAr⟩ := hrel
    have HER := Lib.hid hEr; clear hEr
    have HAR := Lib.hid hAr; clear hAr
    by_cases hlt : k < n'
    · obtain ⟨bl, off, rfl, hbl, hcl⟩ := HC.out (by omega)
      have hkl : k < l.length := by rw [HL'.out]; exact hlt
      have hc1 := HER.out.cell (hcl k l[k] (List.getElem?_eq_getElem hkl))
      clear hcl
      have hcu := HER.out.cell hc
      obtain ⟨i, hix, hiu⟩ := ixI_mem HS.out (HM.out _ (List.getElem_mem hkl))
      have hil : i < n := by have := (List.getElem?_eq_some_iff.1 hiu).1; have := HUN.out; omega
      have HIX := Lib.hid hix; clear hix
      have HIU := Lib.hid hiu; clear hiu
      obtain ⟨ob, hold⟩ : ∃ ob, wr.cell? ⟨g, i, none⟩ = some (.bool ob) := ⟨_, HAR.out.cell (List.getElem?_eq_getElem (by rw [memB, List.length_map, HUN.out]; exact hil))⟩
      have hfz := HAR.out.frozen i
      go_wp2_with (go_at_call 59; refine (at_any b _ u l[k] _ hcu (HU.out.ext HER.out) HS.out).mono ?_; rintro e w' ⟨rfl, rfl⟩; rw [HIX.out])
      go_roundw
      case rel =>
        refine ⟨k + 1, by omega, by go_num, HER.out.setCell (p := ⟨g, i, none⟩) hgb _, ?_⟩
        rw [List.take_succ_eq_append_getElem hkl, ← memB_snoc _ _ _ _ HS.out HIU.out]
        exact HAR.out.set_ i true
      case measure => simp [intOf]; omega
    · go_wp2
      go_ret2
      have hk' : k = n' := by omega
      have har := HAR.out
      rw [List.take_of_length_le (by have := HL'.out; omega)] at har
      exact ⟨g, by rw [HUN.out]; rfl, hgb, har, HER.out⟩

set_option maxRecDepth 100000 in
set_option maxHeartbeats 400000 in
theorem set_asc (b : Nat) (vl : Value) (l : List Nm) (w : World) (hl : RdS w vl l) (ha : ascB l = false) :
    Calls Try.prog 53 #[.pointer (some ⟨b, 0, none⟩), vl] w fun e w' => e = .returned (.tuple #[.slice none 0 0, .int .i64 1]) ∧ Ext w w' := by
  have HL := Lib.hid hl; clear hl
  have HA := Lib.hid ha; clear ha
  go_enter Try.func53, Try.ntmps53
  go_wp2_with (go_at_call 72; refine (sorted_any _ l _ HL.out).mono ?_; rintro e w' ⟨rfl, m, rfl⟩; rw [HA.out])
  go_ret2
  exact ⟨rfl, (Ext.refl w).drewN m⟩

set_option maxRecDepth 100000 in
set_option maxHeartbeats 400000 in
theorem set_name (b : Nat) (vu vl : Value) (u l : List Nm) (w : World) (hc : w.cell? ⟨b, 0, none⟩ = some vu) (hu : RdS w vu u) (hs : ascB u = true) (hl : RdS w vl l)
    (ha : ascB l = true) (hm : ¬ ∀ x ∈ l, x ∈ u) (hsz : u.length ≤ 1048576) :
    Calls Try.prog 53 #[.pointer (some ⟨b, 0, none⟩), vl] w fun e w' => e = .returned (.tuple #[.slice none 0 0, .int .i64 3]) ∧ Ext w w' := by
  obtain ⟨i0, hi0, hz0, hz1, hz2⟩ := info_parts inf4
  have hu' := hu
  obtain ⟨A, n, c, rfl, hun, -, hcm, -⟩ := hu'
  have HL0 := Lib.hid hl
  obtain ⟨A', n', c', rfl, hl', hnc', hcm', hcell'⟩ := hl
  unfold maxLen at hcm hcm'
  have HU := Lib.hid hu; clear hu
  have HUN := Lib.hid hun; clear hun
  have HC := Lib.hid hcell'; clear hcell'
  have HL' := Lib.hid hl'; clear hl'
  have HM := Lib.hid hm; clear hm
  have hnsz : n ≤ 1048576 := by have := HUN.out; omega
  clear hsz
  have HA := Lib.hid ha; clear ha
  have HS := Lib.hid hs; clear hs
  go_enter Try.func53, Try.ntmps53
  go_wp2_with (first | (go_at_call 72; refine (sorted_any _ l _ HL0.out).mono ?_; rintro e w' ⟨rfl, m, rfl⟩; rw [HA.out]) | (at_make; refine wpList_make_arr rfl (.tmp 17) (.tmp 17) 74 4 rfl i0 _ 1 Try.underlying74 hi0 hz0 hz1 hz2 rfl n rfl rfl (by omega) (by unfold maxLen; omega) ?_; intro w1 g hblk hgb hE1))
  have hgb : w.heap.size ≤ g := hgb
  have hE : Ext w w1 := ((Ext.refl w).drewN m).trans hE1
  have hA0 : ∃ bs : List Bool, bs.length = n ∧ Arr w1 4 Value.bool g bs := ⟨List.replicate n false, by simp, by unfold Arr; simpa using hblk⟩
  clear hE1 hblk
  have HE := Lib.hid hE; clear hE
  have HA0 := Lib.hid hA0; clear hA0
  go_loopw [21] (fun i wr => ∃ k : Nat, k ≤ n' ∧ i = .int .i64 k ∧ Ext w wr ∧ (∃ bs : List Bool, bs.length = n ∧ Arr wr 4 Value.bool g bs) ∧ ∀ x ∈ l.take k, x ∈ u) (fun i _ => n' - (intOf i).toNat)
  case atStart => exact ⟨0, Nat.zero_le _, rfl, HE.out, HA0.out, by simp⟩
  case round =>
    obtain ⟨k, hk, rfl, hEr, ⟨bs, hbs, hAr⟩, hin⟩ := hrel
    have HER := Lib.hid hEr; clear hEr
    have HAR := Lib.hid hAr; clear hAr
    have HBS := Lib.hid hbs; clear hbs
    have HIN := Lib.hid hin; clear hin
    by_cases hlt : k < n'
    · obtain ⟨bl, off, rfl, hbl, hcl⟩ := HC.out (by omega)
      have hkl : k < l.length := by rw [HL'.out]; exact hlt
      have hc1 := HER.out.cell (hcl k l[k] (List.getElem?_eq_getElem hkl))
      clear hcl
      have hcu := HER.out.cell hc
      by_cases hmem : l[k] ∈ u
      · obtain ⟨i, hix, hiu⟩ := ixI_mem HS.out hmem
        have hil : i < n := by have := (List.getElem?_eq_some_iff.1 hiu).1; have := HUN.out; omega
        have HIX := Lib.hid hix; clear hix hiu
        have HMEM := Lib.hid hmem; clear hmem
        obtain ⟨ob, hold⟩ : ∃ ob, wr.cell? ⟨g, i, none⟩ = some (.bool ob) := ⟨_, HAR.out.cell (List.getElem?_eq_getElem (by rw [HBS.out]; exact hil))⟩
        have hfz := HAR.out.frozen i
        go_wp2_with (go_at_call 59; refine (at_any b _ u l[k] _ hcu (HU.out.ext HER.out) HS.out).mono ?_; rintro e w' ⟨rfl, rfl⟩; rw [HIX.out])
        go_roundw
        case rel =>
          refine ⟨k + 1, by omega, by go_num, HER.out.setCell (p := ⟨g, i, none⟩) hgb _, ⟨_, by rw [List.length_set]; exact HBS.out, HAR.out.set_ i true⟩, ?_⟩
          intro x hx
          rw [List.take_succ_eq_append_getElem hkl, List.mem_append] at hx
          rcases hx with hx | hx
          · exact HIN.out x hx
          · rw [List.mem_singleton] at hx
            subst hx
            exact HMEM.out
        case measure => simp [intOf]; omega
      · have hix := ixI_no hmem
        have HIX := Lib.hid hix; clear hix hmem
        go_wp2_with (go_at_call 59; refine (at_any b _ u l[k] _ hcu (HU.out.ext HER.out) HS.out).mono ?_; rintro e w' ⟨rfl, rfl⟩; rw [HIX.out])
        go_ret2
        exact ⟨rfl, HER.out⟩
    · exfalso
      refine HM.out fun x hx => HIN.out x ?_
      rwa [List.take_of_length_le (by have := HL'.out; omega)]

theorem namesOf_snoc (u : List Nm) (s : List Bool) (k : Nat) (h : k < s.length) (hu : k < u.length) :
    namesOf u (s.take (k + 1)) = namesOf u (s.take k) ++ (if s[k] = true then [u[k]] else []) := by
  unfold namesOf
  have e : u.zip (s.take (k + 1)) = u.zip (s.take k) ++ [(u[k], s[k])] := by
    apply List.ext_getElem?
    intro j
    rw [List.getElem?_append]
    have hlen : (u.zip (s.take k)).length = k := by simp; omega
    rw [hlen]
    by_cases hj : j < k
    · rw [if_pos hj]
      simp [List.zip, List.getElem?_zipWith, hj, Nat.lt_succ_of_lt hj]
    · rw [if_neg hj]
      by_cases hjk : j = k
      · subst hjk
        simp [List.zip, List.getElem?_zipWith, h, hu]
      · have : ¬ j < k + 1 := by omega
        have h2 : j - k = (j - k - 1) + 1 := by omega
        rw [h2]
        simp [List.zip, List.getElem?_zipWith, List.getElem?_take, this]
  rw [e, List.filterMap_append]
  cases s[k] <;> simp

theorem namesOf_len (u : List Nm) (s : List Bool) : (namesOf u s).length ≤ s.length := by
  unfold namesOf
  refine Nat.le_trans (List.length_filterMap_le _ _) ?_
  simp; omega
theorem Own.empty {α : Type} (w : World) (base : Nat) (t : TypeId) (enc : α → Value) (h : base ≤ w.heap.size) : Own (w.alloc (.cells #[] t)) base t enc (.slice (some ⟨w.heap.size, 0, none⟩) 0 0) [] :=
  World.ownsRow_made w #[] 0 h (Nat.zero_le _) rfl

def ListPost (l : List Nm) (w : World) (e : Ending) (w' : World) : Prop := ∃ v, e = .returned v ∧ Own w' w.heap.size 9 encS v l ∧ Ext w w'

set_option maxRecDepth 100000 in
set_option maxHeartbeats 400000 in
theorem list_any (b : Nat) (vu vs : Value) (u : List Nm) (s : List Bool) (w : World) (hc : w.cell? ⟨b, 0, none⟩ = some vu) (hu : RdS w vu u) (hv : Rd1 w Value.bool vs s) (hlen : s.length = u.length) (hsz : u.length ≤ 1048576) :
    Calls Try.prog 47 #[.pointer (some ⟨b, 0, none⟩), vs] w (ListPost (namesOf u s) w) := by
  obtain ⟨i0, hi0, hz0, hz1, hz2⟩ := info_parts inf9
  obtain ⟨A, n, c, rfl, hun, hnc, hcm, hcell⟩ := hu
  obtain ⟨A', n', c', rfl, hl', hnc', hcm', hcell'⟩ := hv
  obtain rfl : n = n' := by omega
  unfold maxLen at hcm hcm'
  have hnsz : n ≤ 1048576 := by omega
  clear hsz hlen
  have HC := Lib.hid hcell; clear hcell
  have HUN := Lib.hid hun; clear hun
  have HC' := Lib.hid hcell'; clear hcell'
  have HL' := Lib.hid hl'; clear hl'
  go_enter Try.func47, Try.ntmps47
  go_wp2_with (fail)
  go_loopw [5, 11] (fun v i wr => ∃ k : Nat, k ≤ n ∧ i = .int .i64 k ∧ Own wr w.heap.size 9 encS v (namesOf u (s.take k)) ∧ Ext w wr) (fun _ i _ => n - (intOf i).toNat)
  case atStart => exact ⟨0, Nat.zero_le _, rfl, by simpa [namesOf] using Own.empty w w.heap.size 9 encS (Nat.le_refl _), (Ext.refl w).alloc _⟩
  case round =>
    obtain ⟨k, hk, rfl, hown, hEr⟩ := hrel
    have HER := Lib.hid hEr; clear hEr
    have HOWN := Lib.hid hown; clear hown
    by_cases hlt : k < n
    · obtain ⟨bl, off, rfl, hbl, hcl⟩ := HC.out (by omega)
      obtain ⟨bl', off', rfl, hbl', hcl'⟩ := HC'.out (by omega)
      have hkl : k < u.length := by rw [HUN.out]; exact hlt
      have hkl' : k < s.length := by rw [HL'.out]; exact hlt
      have hc1 := HER.out.cell (hcl k u[k] (List.getElem?_eq_getElem hkl))
      have hc2 := HER.out.cell (hcl' k s[k] (List.getElem?_eq_getElem hkl'))
      clear hcl hcl'
      have hcu := HER.out.cell hc
      have hsn := namesOf_snoc u s k hkl' hkl
      have hln := namesOf_len u (s.take k)
      have hlt2 : (s.take k).length ≤ k := List.length_take_le _ _
      cases hs : s[k] with
      | true =>
        rw [hs] at hc2 hsn
        have HSN := Lib.hid hsn; clear hsn hs
        go_wp2_with (at_builtin; refine wpList_append_one rfl (.tmp 17) (.tmp 25) 22 rfl 9 i0 _ 16 Try.underlying22 hi0 hz0 hz1 hz2 rfl encS w (HER.out.alloc _) _ _ rfl (HOWN.out.ext ((Ext.refl _).alloc _)) wr.heap.size 1 u[k] rfl (cell_new1 _ _ _) rfl (by unfold maxLen; omega) (by omega) ?_; intro v' w' hown' hE' _)
        go_roundw
        case rel => exact ⟨k + 1, by omega, by go_num, by rw [HSN.out]; exact hown', hE'⟩
        case measure => simp [intOf]; omega
      | false =>
        rw [hs] at hc2 hsn
        have HSN := Lib.hid hsn; clear hsn hs
        go_wp2_with (fail)
        go_roundw
        case rel => exact ⟨k + 1, by omega, by go_num, by rw [HSN.out]; simpa using HOWN.out, HER.out⟩
        case measure => simp [intOf]; omega
    · go_wp2
      go_ret
      have hown := HOWN.out
      rw [List.take_of_length_le (by have := HL'.out; omega)] at hown
      exact ⟨_, rfl, hown, HER.out⟩
end Go.Proofs.Ythgplaledmccgaa
