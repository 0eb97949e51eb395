/-
  register.Names, out of the old contract: its result lies in a new block.
  register.Names over the layer, out of the old contract.
-/
import Derived.Test.YthldgioggjpnpaaGreatT10
import Derived.Test.YthldgioggjpnpaaGreatT5
import Derived.Test.YthldgioggjpnpaaGreatA4
namespace Go.Proofs.YthldgioggjpnpaaGreat.Old
open Go.RowKit Go.Maps
theorem own_base {α : Type} {w : World} {base : Nat} {t : TypeId} {enc : α → Value} {v : Value} {l : List α} (h : Own w base t enc v l) : ∀ b, v.ownBlock = some b → base ≤ b := fun b hb => by
  rcases h.2 with ⟨rfl, _⟩ | ⟨g, cap, cur, rfl, hg, _⟩
  · simp [Value.ownBlock] at hb
  · have : g = b := by simpa [Value.ownBlock] using hb
    omega
set_option maxRecDepth 100000 in
set_option maxHeartbeats 2000000 in
theorem rnames_new (v : Value) (N : Int) (nn np : Nat) (es : List En) (w : World) (h : RdV w v N nn np es) (hl0 : es.length ≤ 1048576) :
    Calls Tryz.prog 18 #[v] w fun e w' => ∃ u l, e = .returned u ∧ NamesOf es l ∧ RdS w' u l ∧ Ext w w' ∧ ∀ b, u.ownBlock = some b → w.heap.size ≤ b := by
  obtain ⟨i0, hi0, hz0, hz1, hz2⟩ := info_parts infS
  obtain ⟨An, cn, Ap, cp, ve, rfl, he⟩ := h
  have H := Lib.hid he
  obtain ⟨A, n, c, rfl, hl, hnc, hcm, -⟩ := he
  unfold maxLen at hcm
  have hn0 : n ≤ 1048576 := by omega
  have HL := Lib.hid hl; clear hl hl0
  have hmm := @run_makeMap Tryz.prog
  go_enter Tryz.func18, Tryz.ntmps18
  go_wp2_with (fail)
  obtain ⟨wa, hwa⟩ : ∃ wa, wa = (w.alloc (.cells #[.int .i64 N, .slice An nn cn, .slice Ap np cp, .slice A n c] 26)).alloc (.map #[] 0) := ⟨_, rfl⟩
  have hEa : Ext w wa := by rw [hwa]; exact ((Ext.refl w).alloc _).alloc _
  have hMa : wa.ownsMap Tryz.prog 9 (plainElem (H := Unit) Tryz.prog 4) (w.heap.size + 1) 0 (.map []) := by
    rw [hwa]
    have := World.ownsMap_made (w.alloc (.cells #[.int .i64 N, .slice An nn cn, .slice Ap np cp, .slice A n c] 26)) Tryz.prog 9 (plainElem (H := Unit) Tryz.prog 4)
    simpa using this
  rw [← hwa]
  clear hwa
  have hgs : w.heap.size ≤ w.heap.size + 1 := by omega
  obtain ⟨B, hB⟩ : ∃ B, B = w.heap.size + 1 := ⟨_, rfl⟩
  rw [← hB] at hMa hgs ⊢
  clear hB
  have HEA := Lib.hid hEa; clear hEa
  have HMA := Lib.hid hMa; clear hMa
  go_loopw [4, 11] (fun v i wr => ∃ (k : Nat) (D : DataW Unit), k ≤ n ∧ i = .int .i64 k ∧ Own wr w.heap.size 9 encS v (firsts (es.take k)) ∧ wr.ownsMap Tryz.prog 9 (plainElem (H := Unit) Tryz.prog 4) B k D ∧ (∀ y : Nm, D.atKey (.string y) (.lit (.bool false)) = .lit (.bool (decide (y ∈ firsts (es.take k))))) ∧ Ext w wr) (fun _ i _ => n - (intOf i).toNat)
  case atStart => exact ⟨0, .map [], Nat.zero_le _, rfl, Own.nil _ _ _ _, HMA.out, fun y => rfl, HEA.out⟩
  case round =>
    obtain ⟨k, D, hk, rfl, hO, hM, hD, hE⟩ := hrel
    have HO := Lib.hid hO; clear hO
    have HM := Lib.hid hM; clear hM
    have HD := Lib.hid hD; clear hD
    have HE := Lib.hid hE; clear hE
    have hfl : (firsts (es.take k)).length ≤ k := by
      have := namesFold_len (es.take k) []
      have h2 := List.length_take_le k es
      unfold firsts
      simp only [List.length_nil] at this
      omega
    have HFL := Lib.hid hfl; clear hfl
    by_cases hlt : k < n
    · obtain ⟨b, off, x, q, rfl, hb, hx, c0, c1, hq, hnl⟩ := RdE.at_ (H.out.ext HE.out) hlt
      have HX := Lib.hid hx; clear hx
      have hfs : firsts (es.take (k + 1)) = addN (firsts (es.take k)) x.2 := by
        obtain ⟨hkl, hke⟩ := List.getElem?_eq_some_iff.1 HX.out
        unfold firsts
        rw [List.take_succ_eq_append_getElem hkl, hke, List.foldl_append]
        rfl
      have HFS := Lib.hid hfs; clear hfs
      obtain ⟨Aq, nq, cq, rfl⟩ := hq.slice
      clear hq
      have hal := (Ext.refl wr).alloc (.cells #[.slice Aq nq cq, encS x.2] 64)
      have HM4 := Lib.hid (HM.out.alloc (.cells #[.slice Aq nq cq, encS x.2] 64))
      have HO4 := Lib.hid (HO.out.ext hal)
      have HE4 := Lib.hid (HE.out.trans hal)
      clear hal
      have hbw2 : b < (wr.alloc (.cells #[.slice none 0 0, .string ⟨#[]⟩] 64)).heap.size := by simp; omega
      have hkey : keyOf Tryz.prog 9 (encS x.2) = some (.string x.2) := WideMaps.keyOf_string_mk Tryz.underlying9 (by show x.2.toArray.size ≤ maxLen; simpa using hnl)
      have HK := Lib.hid hkey; clear hkey hnl
      by_cases hmem : x.2 ∈ firsts (es.take k)
      · have HA := Lib.hid (HD.out x.2)
        rw [decide_eq_true hmem] at HA
        have HF2 : Hid (firsts (es.take (k + 1)) = firsts (es.take k)) := Lib.hid (by rw [HFS.out, addN, if_pos hmem])
        clear hmem
        go_wp2_with (at_lookup; refine wpList_lookup_own_bool _ rfl _ _ 72 rfl 9 4 mapLaw Tryz.underlying72 Tryz.underlying4 (zeroB _) B k _ rfl HM4.out _ _ rfl HK.out true HA.out ?_; simp only [Act.put, List.setIfInBounds_toArray, List.set_cons_succ, List.set_cons_zero])
        go_roundw
        case rel => exact ⟨k + 1, D, by omega, by go_num, by rw [HF2.out]; exact HO4.out, HM4.out.mono (by omega), fun y => by rw [HF2.out]; exact HD.out y, HE4.out⟩
        case measure => simp [intOf]; omega
      · have HA := Lib.hid (HD.out x.2)
        rw [decide_eq_false hmem] at HA
        have HF2 : Hid (firsts (es.take (k + 1)) = firsts (es.take k) ++ [x.2]) := Lib.hid (by rw [HFS.out, addN, if_neg hmem])
        have HNM := Lib.hid hmem; clear hmem
        have hB0 : Blk (wr.alloc (.cells #[.slice Aq nq cq, encS x.2] 64)) wr.heap.size 64 #[.slice Aq nq cq, encS x.2] := Blk.new _ _ _
        have HB0 := Lib.hid hB0; clear hB0
        have hmB := HM.out.lt
        have hneB : wr.heap.size ≠ B := by omega
        go_wp2_with (first
          | (at_lookup; refine wpList_lookup_own_bool _ rfl _ _ 72 rfl 9 4 mapLaw Tryz.underlying72 Tryz.underlying4 (zeroB _) B k _ rfl HM4.out _ _ rfl HK.out false HA.out ?_)
          | (at_mapUpdate; (refine wpList_mapUpdate_own _ rfl _ _ _ 72 rfl 9 4 mapLaw Tryz.underlying72 _ B k _ rfl HM4.out (by unfold maxLen; omega) _ _ _ rfl rfl HK.out _ [] (plainElem_bool Tryz.underlying4 true) ?_); intro w5 hown5 hg5; have hb5 := hg5.block wr.heap.size HB0.out.lt (by simp; exact hneB); have d1 : w5.cell? ⟨wr.heap.size, 1, none⟩ = some (encS x.2) := (World.cell?_of_block hb5).trans (HB0.out.cell 1); have l5 := World.block_lt_of_cell? _ _ d1; clear hb5; have HM5 := Lib.hid hown5; clear hown5; have HO5 : Hid (Own w5 w.heap.size 9 encS _ (firsts (es.take k))) := Lib.hid (World.ownsRow.kept HO4.out hg5 (.inr (map_ne_row HM4.out HO4.out))); have HE5 : Hid (Ext w w5) := Lib.hid (HE4.out.grown hg5 (fun j hj => by cases hj; exact hgs)); clear hg5; simp only [Act.put])
          | (at_builtin; go_must (refine wpList_append_one rfl (.tmp 23) (.tmp 26) 22 rfl 9 i0 _ 16 Tryz.underlying22 hi0 hz0 hz1 hz2 rfl encS w (HE5.out.alloc _) _ (firsts (es.take k)) rfl (HO5.out.ext ((Ext.refl w5).alloc _)) w5.heap.size 1 x.2 rfl (cell_new1 w5 _ _) rfl (by have := HFL.out; unfold maxLen; omega) (by have := HFL.out; omega) ?_); intro v6 w6 hown6 hE6 hg6; have HM6 := Lib.hid ((HM5.out.alloc (.cells #[encS x.2] 9)).kept hg6 (fun h => map_ne_row (HM5.out.alloc (.cells #[encS x.2] 9)) (HO5.out.ext ((Ext.refl w5).alloc (.cells #[encS x.2] 9))) h.symm)); clear hg6; have HO6 := Lib.hid hown6; clear hown6; have HE6 := Lib.hid hE6; clear hE6))
        go_roundw
        case rel =>
          refine ⟨k + 1, _, by omega, by go_num, by rw [HF2.out]; exact HO6.out, HM6.out, fun y => ?_, HE6.out⟩
          rw [HF2.out]
          by_cases hy : y = x.2
          · rw [hy, atKey_put_same HM.out.isMap (by trivial)]
            simp
          · rw [atKey_put_other (by intro e; injection e with e; exact hy e), HD.out y]
            simp [hy]
        case measure => simp [intOf]; omega
    · have HF : Hid (firsts (es.take k) = firsts es) := Lib.hid (by rw [List.take_of_length_le (by have := HL.out; omega)])
      have HS := Lib.hid (sortS_any w wr _ (firsts (es.take k)) HO.out HE.out (by have := HFL.out; omega))
      go_wp2_with (go_at_call 43; refine HS.out.mono ?_; rintro e w8 ⟨rfl, hE8, hr8⟩; have HR8 := Lib.hid hr8; clear hr8)
      go_ret
      refine ⟨_, _, rfl, namesOf_sort es, ?_, hE8, own_base HO.out⟩
      rw [← HF.out]
      exact HR8.out
end Go.Proofs.YthldgioggjpnpaaGreat.Old

namespace Go.Proofs.YthldgioggjpnpaaGreat
open Go.RowKit
section
variable {w : World} {S : Nat → Nat → Prop}
theorem fr_p {v u : Value} (h : FR w S v (.p u)) : v = u := by cases h; rfl
theorem frT (hS : ∀ b o, S b o → b < w.heap.size) {v : Value} {l : List Tk} (h : FR w S v (tks l)) : Old.RdT w v l := by
  cases h with
  | sl A n c k _ b off f hl hn hc hA hk hcell h =>
    rw [List.length_map] at hl
    have e0 : ∀ (j : Nat) (x : Tk), l[j]? = some x → (l.map tkC)[j]? = some (tkC x) ∧ k = 2 := fun j x hj => by
      have e1 : (l.map tkC)[j]? = some (tkC x) := by rw [List.getElem?_map, hj]; rfl
      exact ⟨e1, (hk j _ e1).symm⟩
    refine ⟨A, n, c, rfl, hl, hn, hc, fun h0 => ⟨b, off, hA h0, ?_, fun j x hj i u hu => ?_⟩⟩
    · have hx : l[0]? = some l[0] := List.getElem?_eq_getElem (by omega)
      obtain ⟨e1, e2⟩ := e0 0 _ hx
      exact hS _ _ (hcell 0 _ 0 _ e1 rfl).1
    · obtain ⟨e1, e2⟩ := e0 j x hj
      subst e2
      match i, hu with
      | 0, hu =>
        cases hu
        have h2 := (hcell j _ 0 _ e1 rfl).2
        rw [fr_p (h j _ 0 _ e1 rfl)] at h2
        exact h2
      | 1, hu =>
        cases hu
        have h2 := (hcell j _ 1 _ e1 rfl).2
        rw [fr_p (h j _ 1 _ e1 rfl)] at h2
        exact h2
      | i + 2, hu => simp [Old.encT] at hu
theorem frE (hS : ∀ b o, S b o → b < w.heap.size) {v : Value} {l : List En} (hn0 : ∀ e ∈ l, e.2.length ≤ maxLen) (h : FR w S v (ens l)) : Old.RdE w v l := by
  cases h with
  | sl A n c k _ b off f hl hn hc hA hk hcell h =>
    rw [List.length_map] at hl
    have e0 : ∀ (j : Nat) (x : En), l[j]? = some x → (l.map enC)[j]? = some (enC x) ∧ k = 2 := fun j x hj => by
      have e1 : (l.map enC)[j]? = some (enC x) := by rw [List.getElem?_map, hj]; rfl
      exact ⟨e1, (hk j _ e1).symm⟩
    refine ⟨A, n, c, rfl, hl, hn, hc, fun h0 => ⟨b, off, hA h0, ?_, fun j x hj => ?_⟩⟩
    · have hx : l[0]? = some l[0] := List.getElem?_eq_getElem (by omega)
      obtain ⟨e1, e2⟩ := e0 0 _ hx
      exact hS _ _ (hcell 0 _ 0 _ e1 rfl).1
    · obtain ⟨e1, e2⟩ := e0 j x hj
      subst e2
      have h2 := (hcell j _ 1 _ e1 rfl).2
      rw [fr_p (h j _ 1 _ e1 rfl)] at h2
      exact ⟨f j 0, (hcell j _ 0 _ e1 rfl).2, h2, frT hS (h j _ 0 _ e1 rfl), hn0 x (List.mem_of_getElem? hj)⟩
theorem frV (hS : ∀ b o, S b o → b < w.heap.size) {v : Value} {x : Val} (hn0 : ∀ e ∈ x.es, e.2.length ≤ maxLen) (h : FR w S v (.agg (valL x))) : ∃ nn np, Old.RdV w v x.N nn np x.es := by
  cases h with
  | agg vs _ hl h =>
    obtain ⟨v0, v1, v2, v3, rfl⟩ : ∃ a b c d, vs = [a, b, c, d] := by
      match vs, hl with
      | [a, b, c, d], _ => exact ⟨a, b, c, d, rfl⟩
    have h0 := fr_p (h 0 v0 _ rfl rfl)
    have h1 := h 1 v1 _ rfl rfl
    have h2 := h 2 v2 _ rfl rfl
    have h3 := frE hS hn0 (h 3 v3 _ rfl rfl)
    subst h0
    cases h1 with
    | sl A1 n1 c1 => cases h2 with
      | sl A2 n2 c2 => exact ⟨n1, n2, A1, c1, A2, c2, v3, rfl, h3⟩
end
theorem rnames_fcb (x : Val) (l : List Nm) (hn0 : ∀ e ∈ x.es, e.2.length ≤ maxLen) (hl : x.es.length ≤ 1048576) (hu : ∀ l', Old.NamesOf x.es l' → l' = l) : FCb Tryz.prog 18 [.agg (valL x)] (svs l) := by
  intro w S vs hS hv
  obtain ⟨v, rfl⟩ : ∃ v, vs = [v] := by
    match vs, hv.1 with
    | [v], _ => exact ⟨v, rfl⟩
  obtain ⟨nn, np, hr⟩ := frV hS hn0 (hv.2 0 v _ rfl rfl)
  refine (Old.rnames_new v x.N nn np x.es w hr hl).mono ?_
  rintro e w' ⟨u, l', rfl, hN, hR, hE, hb⟩
  obtain rfl := hu l' hN
  obtain ⟨A, n, c, rfl, h1, h2, h3, h4⟩ := hR
  rcases Nat.eq_zero_or_pos n with h0 | h0
  · subst h0
    obtain rfl : l' = [] := List.eq_nil_of_length_eq_zero h1
    exact ⟨_, S, rfl, hE, fun _ _ h => h, fun _ _ h => .inl h, .nil _ _ _ _ h3⟩
  · obtain ⟨b, off, rfl, hbl, hc⟩ := h4 h0
    have hnew : w.heap.size ≤ b := hb b (by simp [Value.ownBlock])
    refine ⟨_, fun b' o => S b' o ∨ b' = b, rfl, hE, fun _ _ h => .inl h, fun b' o h => ?_, ?_⟩
    · rcases h with h | rfl
      · exact .inl h
      · exact .inr ⟨hnew, hbl⟩
    · refine .sl _ n c 1 _ b off (fun j _ => .string ⟨((l'.getD j [])).toArray⟩) (by simpa using h1) h2 h3 (fun _ => rfl) (fun j e hj => ?_) (fun j e i y hj hi => ?_) (fun j e i y hj hi => ?_)
      · rw [List.getElem?_map] at hj
        cases hx : l'[j]? with
        | none => rw [hx] at hj; cases hj
        | some s => rw [hx] at hj; cases hj; rfl
      · rw [List.getElem?_map] at hj
        cases hx : l'[j]? with
        | none => rw [hx] at hj; cases hj
        | some s =>
          rw [hx] at hj; cases hj
          have := hc j s hx
          match i, hi with
          | 0, _ => exact ⟨.inr rfl, by rw [Nat.mul_one, Nat.add_zero, this]; simp [List.getD, hx, Old.encS]⟩
          | i + 1, hi => simp [sv1] at hi
      · rw [List.getElem?_map] at hj
        cases hx : l'[j]? with
        | none => rw [hx] at hj; cases hj
        | some s =>
          rw [hx] at hj; cases hj
          match i, hi with
          | 0, hi =>
            cases hi
            simp only [List.getD, hx, Option.getD_some]
            exact .p _
          | i + 1, hi => simp [sv1] at hi
end Go.Proofs.YthldgioggjpnpaaGreat
