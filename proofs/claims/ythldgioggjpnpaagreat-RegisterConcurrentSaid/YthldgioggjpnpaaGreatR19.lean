/-
  Contract: register.Names: the names, ascending, each once.
-/
import Derived.Test.YthldgioggjpnpaaGreatR18
import Derived.Maps.OwnSet
import Derived.Maps.OwnOps
import Derived.StringKeys
namespace Go.Proofs.YthldgioggjpnpaaGreat
open Go.RowKit Go.Maps

theorem plainElem_bool_inv {H : Type} {P : Program} {e : TypeId} (he : P.underlying e = some .bool) {v : Value} {z : DataW H × List MemPlace} (h : plainElem P e v = some z) : ∃ x, v = .bool x ∧ z = (.lit (.bool x), []) := by
  unfold plainElem at h
  rw [he] at h
  cases v <;> simp at h
  exact ⟨_, rfl, h.symm⟩
theorem wpList_lookup_own_bool {H : Type} {P : Program} (w : World) {ops : Array Oper} {rest : List Oper} {o : Oper} {a : Act} {Q : Exit → Act → World → Prop}
    (hg : o.guard = none) (m x : Operand) (t : TypeId) (hop : o.op = Op.lookup t m x false)
    (k e : TypeId) (K : Keyed P k) (ht : P.underlying t = some (.map k e)) (he : P.underlying e = some .bool) (hz : (zeroValue e).run P w = .ok (.bool false) w) (b n : Nat) (D : DataW H)
    (hm : a.eval m = .map (some b)) (hown : w.ownsMap P k (plainElem P e) b n D) (key : Value) (kl : Lit) (hx : a.eval x = key) (hkey : keyOf P k key = some kl) (r : Bool) (hr : D.atKey kl (.lit (.bool false)) = .lit (.bool r))
    (hK : wpList P ops Q rest (a.put o.dst (.bool r)) w) :
    wpList P ops Q (o :: rest) a w := by
  refine wpList_plain hg fun K' hK' => ?_
  obtain ⟨v, ps, hrun, hv⟩ := hown.lookup K ht hz (plainElem_bool he false) hkey
  obtain ⟨y, rfl, hy⟩ := plainElem_bool_inv he hv
  rw [hr] at hy
  simp only [Prod.mk.injEq, DataW.lit.injEq, Lit.bool.injEq] at hy
  obtain ⟨rfl, -⟩ := hy
  unfold Oper.wp
  simp [execOp, hop, hm, hx, hrun, Result.andThen]
  exact hK' _ _ hK

theorem ltB_iff (x y : Nm) : x < y ↔ Lib.compareBytes x y < 0 := by
  induction x generalizing y with
  | nil => cases y <;> simp [Lib.compareBytes]
  | cons a ar ih =>
    cases y with
    | nil => simp [Lib.compareBytes]
    | cons b br =>
      rw [List.cons_lt_cons_iff, ih]
      simp only [Lib.compareBytes]
      by_cases h1 : a < b
      · simp [h1]
      · by_cases h2 : b < a
        · have : a ≠ b := fun e => by subst e; exact h1 h2
          simp [h1, h2, this]
        · have : a = b := by
            apply UInt8.toNat_inj.1
            rw [UInt8.lt_iff_toNat_lt] at h1 h2
            omega
          simp [this]
theorem leB_iff (x y : Nm) : x ≤ y ↔ Lib.compareBytes x y ≤ 0 := by
  rw [show (x ≤ y) = ¬ (y < x) from rfl, ltB_iff]
  have := compareBytes_ok.anti x y
  omega

def addN (acc : List Nm) (x : Nm) : List Nm := if x ∈ acc then acc else acc ++ [x]
def firsts (es : List En) : List Nm := es.foldl (fun acc e => addN acc e.2) []
theorem foldl_addN_mem (es : List En) (acc : List Nm) (x : Nm) : x ∈ es.foldl (fun acc e => addN acc e.2) acc ↔ x ∈ acc ∨ ∃ e ∈ es, e.2 = x := by
  induction es generalizing acc with
  | nil => simp
  | cons e r ih =>
    rw [List.foldl_cons, ih]
    unfold addN
    by_cases h : e.2 ∈ acc
    · rw [if_pos h]
      constructor
      · rintro (h1 | ⟨d, h1, h2⟩)
        · exact .inl h1
        · exact .inr ⟨d, List.mem_cons_of_mem _ h1, h2⟩
      · rintro (h1 | ⟨d, h1, h2⟩)
        · exact .inl h1
        · rcases List.mem_cons.1 h1 with rfl | h1
          · exact .inl (h2 ▸ h)
          · exact .inr ⟨d, h1, h2⟩
    · rw [if_neg h]
      constructor
      · rintro (h1 | ⟨d, h1, h2⟩)
        · rcases List.mem_append.1 h1 with h1 | h1
          · exact .inl h1
          · rw [List.mem_singleton] at h1; exact .inr ⟨e, List.mem_cons_self, h1.symm⟩
        · exact .inr ⟨d, List.mem_cons_of_mem _ h1, h2⟩
      · rintro (h1 | ⟨d, h1, h2⟩)
        · exact .inl (List.mem_append_left _ h1)
        · rcases List.mem_cons.1 h1 with rfl | h1
          · exact .inl (List.mem_append_right _ (by rw [h2]; simp))
          · exact .inr ⟨d, h1, h2⟩
theorem foldl_addN_nodup (es : List En) (acc : List Nm) (h : acc.Nodup) : (es.foldl (fun acc e => addN acc e.2) acc).Nodup := by
  induction es generalizing acc with
  | nil => exact h
  | cons e r ih =>
    rw [List.foldl_cons]
    refine ih _ ?_
    unfold addN
    by_cases h1 : e.2 ∈ acc
    · rw [if_pos h1]; exact h
    · rw [if_neg h1]
      rw [List.nodup_append]
      exact ⟨h, by simp, fun a ha b hb e1 => h1 (by rw [List.mem_singleton] at hb; rw [← hb, ← e1]; exact ha)⟩

/-- the names of entries: ascending, each once -/
def NamesOf (es : List En) (l : List Nm) : Prop := l.Pairwise (fun x y => Lib.compareBytes x y < 0) ∧ ∀ x, x ∈ l ↔ ∃ e ∈ es, e.2 = x
theorem namesOf_sort (es : List En) : NamesOf es ((firsts es).mergeSort fun x y => decide (x ≤ y)) := by
  have hp := List.mergeSort_perm (firsts es) (fun x y => decide (x ≤ y))
  have hs : ((firsts es).mergeSort fun x y => decide (x ≤ y)).Pairwise (fun x y => decide (x ≤ y) = true) := List.pairwise_mergeSort (fun a b c h1 h2 => by
    simp only [decide_eq_true_eq, leB_iff] at *
    exact compareBytes_ok.trans _ _ _ h1 h2) (fun a b => by
    simp only [Bool.or_eq_true, decide_eq_true_eq, leB_iff]
    have := compareBytes_ok.anti a b
    omega) _
  have hn := hp.nodup_iff.2 (foldl_addN_nodup es [] List.nodup_nil)
  refine ⟨?_, fun x => ?_⟩
  · refine (List.pairwise_and_iff.2 ⟨hs, hn⟩).imp ?_
    rintro a b ⟨h1, h2⟩
    simp only [decide_eq_true_eq, leB_iff] at h1
    rcases Int.lt_or_eq_of_le h1 with h | h
    · exact h
    · exact absurd (compareBytes_ok.eq _ _ h) h2
  · rw [hp.mem_iff]
    unfold firsts
    rw [foldl_addN_mem]
    simp

section sorts
open Go.Sort Go.Shelf
theorem Ext.putRow {α : Type} [Inhabited α] {w0 w : World} (h : Ext w0 w) (enc : α → Value) (blk off m : Nat) (d : Array α) (os : Array Obj) (hb : w0.heap.size ≤ blk) (hblk : blk < w.heap.size) :
    Ext w0 (grow (Sort.putRow enc (Sort.ahead w m) blk off d) os) := by
  have e : ∀ i, i < w0.heap.size → (grow (Sort.putRow enc (Sort.ahead w m) blk off d) os).heap[i]? = w.heap[i]? := fun i hi => by
    have h1 := h.size
    unfold Sort.putRow mapBlock grow Sort.ahead
    simp only
    rw [Array.getElem?_append, if_pos (by simp; omega), Array.getElem?_modify, if_neg (by omega)]
  exact ⟨h.os, h.tape, h.output, by have := h.size; unfold Sort.putRow mapBlock grow Sort.ahead; simp; omega, fun i hi => (e i hi).trans (h.block i hi)⟩

theorem sortS_any (w0 w : World) (v : Value) (l : List Nm) (h : Own w w0.heap.size 9 encS v l) (hE : Ext w0 w) (hn : l.length < 4611686018427387904) :
    Calls Tryz.prog 43 #[v] w fun e w' => e = .returned (.tuple #[]) ∧ Ext w0 w' ∧ RdS w' v (l.mergeSort fun x y => decide (x ≤ y)) := by
  have hrd := h.rd
  obtain ⟨h1, h2⟩ := h
  rcases h2 with ⟨rfl, hl0⟩ | ⟨g, cap, cur, rfl, hb, hh, hnc, hcm, hcs, htk⟩
  · have hl : l = [] := List.eq_nil_of_length_eq_zero hl0
    refine (shl_slices_Sort_string_none none 0 w).mono ?_
    rintro e w' ⟨rfl, rfl⟩
    refine ⟨rfl, hE, ?_⟩
    subst hl
    simpa using hrd
  · rcases Nat.eq_zero_or_pos l.length with h0 | h0
    · have hl : l = [] := List.eq_nil_of_length_eq_zero h0
      rw [h0]
      refine (shl_slices_Sort_string_none (some ⟨g, 0, none⟩) cap w).mono ?_
      rintro e w' ⟨rfl, rfl⟩
      refine ⟨rfl, hE, ?_⟩
      rw [h0] at hrd
      subst hl
      simpa using hrd
    · have hg : g < w.heap.size := (Array.getElem?_eq_some_iff.1 hh).1
      obtain ⟨A, n, c, hv, hl, -, -, hc⟩ := hrd
      injection hv with e1 e2 e3
      subst e1 e2 e3
      obtain ⟨b, off, hA, -, hcell⟩ := hc h0
      injection hA with hA
      injection hA with q1 q2
      subst q1 q2
      have hH : Holds encStr w g 0 l.toArray := fun j hj => by
        have hj' : j < l.length := by simpa using hj
        refine ⟨?_, Blk.frozen (show Blk w g 9 cur from hh) _⟩
        rw [getElem!_pos l.toArray j hj]
        have := hcell j l[j] (List.getElem?_eq_getElem hj')
        simpa using this
      refine (shl_slices_Sort_string g 0 cap l w hH hg hn).mono ?_
      rintro e w' ⟨rfl, n', os, rfl⟩
      have hp := List.mergeSort_perm l (fun x y => decide (x ≤ y))
      have hlen : (l.mergeSort fun x y => decide (x ≤ y)).length = l.length := hp.length_eq
      refine ⟨rfl, Ext.putRow hE _ _ _ _ _ _ hb hg, ?_⟩
      have hH' := holds_grow encStr _ os g 0 _ (by unfold Sort.putRow mapBlock Sort.ahead; simpa using hg) (holds_putRow encStr (Sort.ahead w n') g 0 l.toArray (l.mergeSort fun x y => decide (x ≤ y)).toArray hH (by simp))
      refine ⟨_, _, _, rfl, hlen, hnc, hcm, fun _ => ⟨g, 0, rfl, ?_, fun j x hj => ?_⟩⟩
      · unfold grow Sort.putRow mapBlock Sort.ahead; simp; omega
      · obtain ⟨hj', hx⟩ := List.getElem?_eq_some_iff.1 hj
        have := (hH' j (by simpa using hj')).1
        rw [getElem!_pos _ j (by simpa using hj')] at this
        simp only [List.getElem_toArray] at this
        rw [hx] at this
        exact this
end sorts

theorem infS : (Tryz.prog.info? 9).map (fun i => (i.zero, i.size, i.bytes)) = some (some (.string ⟨#[]⟩), 1, 16) := by kernel_rfl
theorem mapLaw : Keyed Tryz.prog 9 := string_keyed Tryz.underlying9
theorem zeroB (w : World) : (zeroValue 4).run Tryz.prog w = .ok (.bool false) w := by kernel_rfl

theorem namesFold_len (es : List En) (acc : List Nm) : (es.foldl (fun acc e => addN acc e.2) acc).length ≤ acc.length + es.length := by
  induction es generalizing acc with
  | nil => simp
  | cons e r ih =>
    rw [List.foldl_cons]
    have h1 := ih (addN acc e.2)
    have h2 : (addN acc e.2).length ≤ acc.length + 1 := by unfold addN; split <;> simp
    simp only [List.length_cons]
    omega

theorem map_ne_row {α : Type} {w : World} {P : Program} {k : TypeId} {R : Value → Option (DataW Unit × List MemPlace)} {B n : Nat} {D : DataW Unit} {base : Nat} {t : TypeId} {enc : α → Value} {v : Value} {l : List α}
    (hM : w.ownsMap P k R B n D) (hO : Own w base t enc v l) : v.ownBlock ≠ some B := by
  obtain ⟨es, clock, hb, -⟩ := hM
  rcases hO.2 with ⟨rfl, _⟩ | ⟨g, cap, cur, rfl, _, hh, _⟩
  · simp [Value.ownBlock]
  · intro he
    have : g = B := by simpa [Value.ownBlock] using he
    subst this
    rw [hb] at hh
    cases hh

set_option maxRecDepth 100000 in
set_option maxHeartbeats 2000000 in
theorem rnames_any (v : Value) (N : Int) (nn np : Nat) (es : List En) (w : World) (h : RdV w v N nn np es) (hl0 : es.length ≤ 1048576) :
    Calls Tryz.prog 18 #[v] w fun e w' => ∃ u l, e = .returned u ∧ NamesOf es l ∧ RdS w' u l ∧ Ext w w' := by
  obtain ⟨i0, hi0, hz0, hz1, hz2⟩ := info_parts infS
  obtain ⟨An, cn, Ap, cp, ve, rfl, he⟩ := h
  have H := Lib.hid he
  obtain ⟨A, n, c, rfl, hl, hnc, hcm, -⟩ := he
  unfold maxLen at hcm
  have hn0 : n ≤ 1048576 := by omega
  have HL := Lib.hid hl; clear hl hl0
  have hmm := @run_makeMap Tryz.prog
  go_enter Tryz.func18, Tryz.ntmps18
  go_wp2_with (fail)
  obtain ⟨wa, hwa⟩ : ∃ wa, wa = (w.alloc (.cells #[.int .i64 N, .slice An nn cn, .slice Ap np cp, .slice A n c] 26)).alloc (.map #[] 0) := ⟨_, rfl⟩
  have hEa : Ext w wa := by rw [hwa]; exact ((Ext.refl w).alloc _).alloc _
  have hMa : wa.ownsMap Tryz.prog 9 (plainElem (H := Unit) Tryz.prog 4) (w.heap.size + 1) 0 (.map []) := by
    rw [hwa]
    have := World.ownsMap_made (w.alloc (.cells #[.int .i64 N, .slice An nn cn, .slice Ap np cp, .slice A n c] 26)) Tryz.prog 9 (plainElem (H := Unit) Tryz.prog 4)
    simpa using this
  rw [← hwa]
  clear hwa
  have hgs : w.heap.size ≤ w.heap.size + 1 := by omega
  obtain ⟨B, hB⟩ : ∃ B, B = w.heap.size + 1 := ⟨_, rfl⟩
  rw [← hB] at hMa hgs ⊢
  clear hB
  have HEA := Lib.hid hEa; clear hEa
  have HMA := Lib.hid hMa; clear hMa
  go_loopw [4, 11] (fun v i wr => ∃ (k : Nat) (D : DataW Unit), k ≤ n ∧ i = .int .i64 k ∧ Own wr w.heap.size 9 encS v (firsts (es.take k)) ∧ wr.ownsMap Tryz.prog 9 (plainElem (H := Unit) Tryz.prog 4) B k D ∧ (∀ y : Nm, D.atKey (.string y) (.lit (.bool false)) = .lit (.bool (decide (y ∈ firsts (es.take k))))) ∧ Ext w wr) (fun _ i _ => n - (intOf i).toNat)
  case atStart => exact ⟨0, .map [], Nat.zero_le _, rfl, Own.nil _ _ _ _, HMA.out, fun y => rfl, HEA.out⟩
  case round =>
    obtain ⟨k, D, hk, rfl, hO, hM, hD, hE⟩ := hrel
    have HO := Lib.hid hO; clear hO
    have HM := Lib.hid hM; clear hM
    have HD := Lib.hid hD; clear hD
    have HE := Lib.hid hE; clear hE
    have hfl : (firsts (es.take k)).length ≤ k := by
      have := namesFold_len (es.take k) []
      have h2 := List.length_take_le k es
      unfold firsts
      simp only [List.length_nil] at this
      omega
    have HFL := Lib.hid hfl; clear hfl
    by_cases hlt : k < n
    · obtain ⟨b, off, x, q, rfl, hb, hx, c0, c1, hq, hnl⟩ := RdE.at_ (H.out.ext HE.out) hlt
      have HX := Lib.hid hx; clear hx
      have hfs : firsts (es.take (k + 1)) = addN (firsts (es.take k)) x.2 := by
        obtain ⟨hkl, hke⟩ := List.getElem?_eq_some_iff.1 HX.out
        unfold firsts
        rw [List.take_succ_eq_append_getElem hkl, hke, List.foldl_append]
        rfl
      have HFS := Lib.hid hfs; clear hfs
      obtain ⟨Aq, nq, cq, rfl⟩ := hq.slice
      clear hq
      have hal := (Ext.refl wr).alloc (.cells #[.slice Aq nq cq, encS x.2] 64)
      have HM4 := Lib.hid (HM.out.alloc (.cells #[.slice Aq nq cq, encS x.2] 64))
      have HO4 := Lib.hid (HO.out.ext hal)
      have HE4 := Lib.hid (HE.out.trans hal)
      clear hal
      have hbw2 : b < (wr.alloc (.cells #[.slice none 0 0, .string ⟨#[]⟩] 64)).heap.size := by simp; omega
      have hkey : keyOf Tryz.prog 9 (encS x.2) = some (.string x.2) := WideMaps.keyOf_string_mk Tryz.underlying9 (by show x.2.toArray.size ≤ maxLen; simpa using hnl)
      have HK := Lib.hid hkey; clear hkey hnl
      by_cases hmem : x.2 ∈ firsts (es.take k)
      · have HA := Lib.hid (HD.out x.2)
        rw [decide_eq_true hmem] at HA
        have HF2 : Hid (firsts (es.take (k + 1)) = firsts (es.take k)) := Lib.hid (by rw [HFS.out, addN, if_pos hmem])
        clear hmem
        go_wp2_with (at_lookup; refine wpList_lookup_own_bool _ rfl _ _ 72 rfl 9 4 mapLaw Tryz.underlying72 Tryz.underlying4 (zeroB _) B k _ rfl HM4.out _ _ rfl HK.out true HA.out ?_; simp only [Act.put, List.setIfInBounds_toArray, List.set_cons_succ, List.set_cons_zero])
        go_roundw
        case rel => exact ⟨k + 1, D, by omega, by go_num, by rw [HF2.out]; exact HO4.out, HM4.out.mono (by omega), fun y => by rw [HF2.out]; exact HD.out y, HE4.out⟩
        case measure => simp [intOf]; omega
      · have HA := Lib.hid (HD.out x.2)
        rw [decide_eq_false hmem] at HA
        have HF2 : Hid (firsts (es.take (k + 1)) = firsts (es.take k) ++ [x.2]) := Lib.hid (by rw [HFS.out, addN, if_neg hmem])
        have HNM := Lib.hid hmem; clear hmem
        have hB0 : Blk (wr.alloc (.cells #[.slice Aq nq cq, encS x.2] 64)) wr.heap.size 64 #[.slice Aq nq cq, encS x.2] := Blk.new _ _ _
        have HB0 := Lib.hid hB0; clear hB0
        have hmB := HM.out.lt
        have hneB : wr.heap.size ≠ B := by omega
        go_wp2_with (first
          | (at_lookup; refine wpList_lookup_own_bool _ rfl _ _ 72 rfl 9 4 mapLaw Tryz.underlying72 Tryz.underlying4 (zeroB _) B k _ rfl HM4.out _ _ rfl HK.out false HA.out ?_)
          | (at_mapUpdate; (refine wpList_mapUpdate_own _ rfl _ _ _ 72 rfl 9 4 mapLaw Tryz.underlying72 _ B k _ rfl HM4.out (by unfold maxLen; omega) _ _ _ rfl rfl HK.out _ [] (plainElem_bool Tryz.underlying4 true) ?_); intro w5 hown5 hg5; have hb5 := hg5.block wr.heap.size HB0.out.lt (by simp; exact hneB); have d1 : w5.cell? ⟨wr.heap.size, 1, none⟩ = some (encS x.2) := (World.cell?_of_block hb5).trans (HB0.out.cell 1); have l5 := World.block_lt_of_cell? _ _ d1; clear hb5; have HM5 := Lib.hid hown5; clear hown5; have HO5 : Hid (Own w5 w.heap.size 9 encS _ (firsts (es.take k))) := Lib.hid (World.ownsRow.kept HO4.out hg5 (.inr (map_ne_row HM4.out HO4.out))); have HE5 : Hid (Ext w w5) := Lib.hid (HE4.out.grown hg5 (fun j hj => by cases hj; exact hgs)); clear hg5; simp only [Act.put])
          | (at_builtin; go_must (refine wpList_append_one rfl (.tmp 23) (.tmp 26) 22 rfl 9 i0 _ 16 Tryz.underlying22 hi0 hz0 hz1 hz2 rfl encS w (HE5.out.alloc _) _ (firsts (es.take k)) rfl (HO5.out.ext ((Ext.refl w5).alloc _)) w5.heap.size 1 x.2 rfl (cell_new1 w5 _ _) rfl (by have := HFL.out; unfold maxLen; omega) (by have := HFL.out; omega) ?_); intro v6 w6 hown6 hE6 hg6; have HM6 := Lib.hid ((HM5.out.alloc (.cells #[encS x.2] 9)).kept hg6 (fun h => map_ne_row (HM5.out.alloc (.cells #[encS x.2] 9)) (HO5.out.ext ((Ext.refl w5).alloc (.cells #[encS x.2] 9))) h.symm)); clear hg6; have HO6 := Lib.hid hown6; clear hown6; have HE6 := Lib.hid hE6; clear hE6))
        go_roundw
        case rel =>
          refine ⟨k + 1, _, by omega, by go_num, by rw [HF2.out]; exact HO6.out, HM6.out, fun y => ?_, HE6.out⟩
          rw [HF2.out]
          by_cases hy : y = x.2
          · rw [hy, atKey_put_same HM.out.isMap (by trivial)]
            simp
          · rw [atKey_put_other (by intro e; injection e with e; exact hy e), HD.out y]
            simp [hy]
        case measure => simp [intOf]; omega
    · have HF : Hid (firsts (es.take k) = firsts es) := Lib.hid (by rw [List.take_of_length_le (by have := HL.out; omega)])
      have HS := Lib.hid (sortS_any w wr _ (firsts (es.take k)) HO.out HE.out (by have := HFL.out; omega))
      go_wp2_with (go_at_call 43; refine HS.out.mono ?_; rintro e w8 ⟨rfl, hE8, hr8⟩; have HR8 := Lib.hid hr8; clear hr8)
      go_ret
      refine ⟨_, _, rfl, namesOf_sort es, ?_, hE8⟩
      rw [← HF.out]
      exact HR8.out
end Go.Proofs.YthldgioggjpnpaaGreat
