/-
  Contract: register.Since.
-/
import Derived.Test.YthldgioggjpnpaaGreatR21
import Derived.Laws.CopyRow
import Derived.Laws.IdiomCopy
import Derived.Handy
namespace Go.Proofs.YthldgioggjpnpaaGreat
open Go.RowKit

/-- copy of elements of k cells into a row of the call's own -/
theorem run_copy_rowN {P : Program} (w : World) (dT sT ty elem : TypeId) (k : Nat) (g dLen dCap : Nat) (a : Addr) (sLen sCap : Nat) (cur : Array Value) (t : TypeId) (cs : List Value) (m : Nat)
    (hu : P.underlying dT = some (.slice elem)) (hs : (P.info? elem).map (·.size) = some k) (hm : m = Nat.min sLen dLen)
    (hg : w.heap[g]? = some (.cells cur t (0, 0))) (hn : cs.length = m * k)
    (hsrc : ∀ j v, cs[j]? = some v → w.cell? (a.add j) = some v) (hfit : cs.length ≤ cur.size) (h1 : ∀ v ∈ cs, v.oneCell' = true) :
    (Builtin.copy_ #[dT, sT] ty #[.slice (some ⟨g, 0, none⟩) dLen dCap, .slice (some a) sLen sCap]).run P w =
      .ok (goInt m) (w.setRow g (cs ++ cur.toList.drop cs.length).toArray) := by
  have hl := run_loadCells_list (P := P) w a cs hsrc
  have hst := run_storeCells_at P g 0 t cs 0 cur w hg (by simpa using hfit) h1
  simp only [Nat.add_zero, Nat.zero_add, List.take_zero, List.nil_append] at hst
  cases hq : P.info? elem with
  | none => simp [hq] at hs
  | some i =>
    have hi : i.size = k := by simpa [hq] using hs
    rw [hn] at hl
    simp [Builtin.copy_, run_underlying hu, Builtin.lenOf, Builtin.firstCells, sizeOf, typeInfo, hq, hi, ← hm, hl, hst]
theorem run_copy_noneN {P : Program} (w : World) (dT sT ty elem : TypeId) (k : Nat) (d a : Option Addr) (dLen dCap sLen sCap : Nat) (hu : P.underlying dT = some (.slice elem)) (hs : (P.info? elem).map (·.size) = some k) (hn : Nat.min sLen dLen = 0) :
    (Builtin.copy_ #[dT, sT] ty #[.slice d dLen dCap, .slice a sLen sCap]).run P w = .ok (goInt 0) w := by
  cases hq : P.info? elem with
  | none => simp [hq] at hs
  | some i =>
    have hl : ∀ (x : Addr), (loadCells x 0).run P w = .ok #[] w := fun x => by simpa using run_loadCells_list (P := P) w x [] (by simp)
    cases d <;> cases a <;> simp [Builtin.copy_, run_underlying hu, Builtin.lenOf, Builtin.firstCells, sizeOf, typeInfo, hq, hn, storeCells, hl]

theorem wpList_copy_N {P : Program} {w : World} {ops : Array Oper} {rest : List Oper} {o : Oper} {a : Act} {Q : Exit → Act → World → Prop} (hgd : o.guard = none) (d s : Operand) (T : TypeId)
    (ho : o.op = .call { callee := .builtin .copy, args := #[d, s], argTypes := #[T, T] }) (elem : TypeId) (k : Nat) (hk0 : 0 < k) (hu : P.underlying T = some (.slice elem)) (hsz : (P.info? elem).map (·.size) = some k)
    {α : Type} (enc : α → List Value) (hk : ∀ x, (enc x).length = k) (g : Nat) (cur : Array Value) (l : List α) (vs : Value) (n : Nat) (hd : a.eval d = .slice (some ⟨g, 0, none⟩) n n) (hs : a.eval s = vs) (hv : RdN w k enc vs l) (hA : Blk w g elem cur) (hcur : cur.size = n * k)
    (hn1 : l.length = n) (hnm : n ≤ maxLen) (h1 : ∀ x ∈ l, ∀ u ∈ enc x, u.oneCell' = true) (w0 : World) (hE : Ext w0 w) (hg : w0.heap.size ≤ g)
    (h : ∀ w', OwnN w' w0.heap.size elem k enc (.slice (some ⟨g, 0, none⟩) n n) l → Ext w0 w' → wpList P ops Q rest (a.put o.dst (goInt n)) w') : wpList P ops Q (o :: rest) a w := by
  obtain ⟨A, m, c, rfl, rfl, hr⟩ := hv.reads hk hk0
  rw [hn1] at hr hs
  have hfl : (l.flatMap enc).length = n * k := by rw [flatMap_len hk, hn1]
  have hin : (l.flatMap enc) ++ cur.toList.drop (l.flatMap enc).length = l.flatMap enc := by
    rw [List.drop_of_length_le (by rw [hfl, Array.length_toList, hcur]; exact Nat.le_refl _), List.append_nil]
  refine wpList_plain hgd fun K hK => ?_
  rcases Nat.eq_zero_or_pos n with h0 | h0
  · subst h0
    have hln : l = [] := List.eq_nil_of_length_eq_zero hn1
    subst hln
    have hrun := run_copy_noneN (P := P) w T T o.type elem k (some ⟨g, 0, none⟩) A 0 0 0 c hu hsz rfl
    unfold Oper.wp
    simp [execOp, ho, resolve, invoke, builtin, hd, hs, hrun, Result.andThen]
    refine hK _ _ (h w ?_ hE)
    exact ⟨by simp, .inr ⟨g, 0, cur, rfl, hg, hA, Nat.le_refl _, hnm, by simpa using hcur, by simp⟩⟩
  · obtain ⟨ad, rfl, -, hc⟩ := hr.2 h0
    have hrun := run_copy_rowN (P := P) w T T o.type elem k g n n ad n c cur elem (l.flatMap enc) n hu hsz (by simp) hA hfl hc (by omega) (fun u hu => by
      obtain ⟨x, hx, hu⟩ := List.mem_flatMap.1 hu
      exact h1 x hx u hu)
    rw [hin] at hrun
    unfold Oper.wp
    simp [execOp, ho, resolve, invoke, builtin, hd, hs, hrun, Result.andThen]
    have hg' : g < w.heap.size := Blk.lt hA
    refine hK _ _ (h _ ?_ (below_setRow hE hg _))
    refine ⟨by rw [hn1] ; exact hfl, .inr ⟨g, n, (l.flatMap enc).toArray, by rw [hn1], hg, setRow_heap w g cur _ elem _ hA, by omega, hnm, by simpa using hfl, ?_⟩⟩
    rw [List.take_of_length_le (by show (l.flatMap enc).length ≤ _; rw [hfl, hn1]; exact Nat.le_refl _)]

theorem wpList_make_N {P : Program} {w : World} {ops : Array Oper} {rest : List Oper} {o : Oper} {a : Act} {Q : Exit → Act → World → Prop} (hgd : o.guard = none) (ln cp : Operand) (t e : TypeId) (ho : o.op = .makeSlice t ln cp) (i : TypeInfo) (z : Value) (k bytes : Nat) (ht : P.underlying t = some (.slice e)) (hi : P.info? e = some i) (hz : i.zero = some z)
    (hz1 : i.size = k) (hby : i.bytes = bytes) (n : Nat) (hl : a.eval ln = .int .i64 n) (hc : a.eval cp = .int .i64 n) (hb : bytes * n ≤ 281474976710656) (h63 : n ≤ maxLen)
    (h : ∀ w1 g cur, Blk w1 g e cur → cur.size = n * k → w.heap.size ≤ g → Ext w w1 → wpList P ops Q rest (a.put o.dst (.slice (some ⟨g, 0, none⟩) n n)) w1) : wpList P ops Q (o :: rest) a w := by
  refine wpList_plain hgd fun K hK => ?_
  have hbI : (i.bytes : Int) * (n : Int) ≤ 281474976710656 := by
    have h0 : ((i.bytes * n : Nat) : Int) ≤ 281474976710656 := by rw [hby]; omega
    rwa [Int.natCast_mul] at h0
  have hrun := run_make (P := P) w t e i z ht hi hz .i64 .i64 (n : Int) (n : Int) (by omega) (by omega) hbI (by unfold maxLen at h63; omega)
  unfold Oper.wp
  simp [execOp, ho, hl, hc, hrun, Result.andThen]
  refine hK _ _ (h _ _ _ (Blk.new _ _ _) ?_ (Nat.le_refl _) ((Ext.refl w).alloc _))
  rw [size_madeCells, hz1]

theorem wpList_append_outN {P : Program} {w : World} {ops : Array Oper} {rest : List Oper} {o : Oper} {a : Act} {Q : Exit → Act → World → Prop} (hgd : o.guard = none) (s x : Operand) (t : TypeId) (ho : o.op = .call { callee := .builtin .append, args := #[s, x], argTypes := #[t, t] })
    (e : TypeId) (i : TypeInfo) (z : Value) (k bytes : Nat) (ht : P.underlying t = some (.slice e)) (hi : P.info? e = some i) (hz : i.zero = some z)
    (hz1 : i.size = k) (hby : i.bytes = bytes) (hcells : z.cells.size = k) (hk0 : 0 < k) {α : Type} (enc : α → List Value) (hk : ∀ x, (enc x).length = k) (w0 : World) (hE : Ext w0 w) (v : Value) (l : List α) (hs : a.eval s = v) (hown : OwnN w w0.heap.size e k enc v l)
    (g c : Nat) (y : α) (hx : a.eval x = .slice (some ⟨g, 0, none⟩) 1 c) (hcell : ∀ i u, (enc y)[i]? = some u → w.cell? ⟨g, i, none⟩ = some u) (h1 : ∀ u ∈ enc y, u.oneCell' = true)
    (hm : l.length + 1 ≤ maxLen) (hb : (l.length + 1) * bytes ≤ 140737488355328) (n' : Nat) (hn' : l.length + 1 = n')
    (h : ∀ g' cap' w', OwnN w' w0.heap.size e k enc (.slice (some ⟨g', 0, none⟩) n' cap') (l ++ [y]) → Ext w0 w' → w.grownBy w' v.ownBlock → wpList P ops Q rest (a.put o.dst (.slice (some ⟨g', 0, none⟩) n' cap')) w') : wpList P ops Q (o :: rest) a w :=
  wpList_plain hgd fun _ hK => wp_append_outN s x t ho e i z k bytes ht hi hz hz1 hby hcells hk0 enc hk w0 hE v l hs hown g c y hx hcell h1 hm hb n' hn' fun g' cap' w' h2 h3 h4 => hK _ _ (h g' cap' w' h2 h3 h4)

def sinceR (vs old : List En) : List En := vs.filter (fun x => !old.any (underE x))

set_option maxRecDepth 100000 in
set_option maxHeartbeats 4000000 in
theorem since_any (va vb : Value) (Na Nb : Int) (n1 p1 n2 p2 : Nat) (a b : List En) (w : World) (ha : RdV w va Na n1 p1 a) (hb : RdV w vb Nb n2 p2 b) (ga : ∀ x ∈ a, validT x.1 = true) (gb : ∀ x ∈ b, validT x.1 = true) (hla : a.length ≤ 1048576) :
    Calls Tryz.prog 23 #[va, vb] w fun e w' => ∃ u, e = .returned (.agg #[.int .i64 0, nilS, nilS, u]) ∧ RdE w' u (sinceR a b) ∧ Ext w w' := by
  obtain ⟨i0, hi0, hz0, hz1, hz2⟩ := info_parts infEn
  obtain ⟨i1, hi1, hy0, hy1, hy2⟩ := info_parts infTk
  have HCV := Lib.hid (fun W (hW : Ext w W) (x : En) (q : Value) (hq : RdT W q x.1) (gx : validT x.1 = true) => rcovered_any vb q Nb n2 p2 b x W (hb.ext hW) hq gx gb)
  obtain ⟨A1, c1, A2, c2, ve, rfl, he⟩ := ha
  obtain ⟨B1, k1, B2, k2, vf, rfl, hf⟩ := hb
  obtain ⟨Af, nf, cf, rfl⟩ := hf.slice
  have HF := Lib.hid he
  obtain ⟨Ae, n, ce, rfl, hl, hnc, hcm, -⟩ := he
  unfold maxLen at hcm
  have hn0 : n ≤ 1048576 := by omega
  have HL := Lib.hid hl; clear hl hla
  have HGA := Lib.hid ga; clear gb ga hf
  go_enter Tryz.func23, Tryz.ntmps23
  go_upto_region 1 with (fail)
  obtain ⟨w3, hw3⟩ : ∃ w3, w3 = ((w.alloc (.cells #[.int .i64 Na, .slice A1 n1 c1, .slice A2 p1 c2, .slice Ae n ce] 26)).alloc (.cells #[.int .i64 Nb, .slice B1 n2 k1, .slice B2 p2 k2, .slice Af nf cf] 26)).alloc (.cells #[.int .i64 0, nilS, nilS, nilS] 26) := ⟨_, rfl⟩
  have hE3 : Ext w w3 := by rw [hw3]; exact (((Ext.refl w).alloc _).alloc _).alloc _
  have hB0 : Blk w3 w.heap.size 26 #[.int .i64 Na, .slice A1 n1 c1, .slice A2 p1 c2, .slice Ae n ce] := by rw [hw3]; exact ((Blk.new _ _ _).alloc _).alloc _
  have hB1 : Blk w3 (w.heap.size + 1) 26 #[.int .i64 Nb, .slice B1 n2 k1, .slice B2 p2 k2, .slice Af nf cf] := by rw [hw3]; exact (Blk.new' _ _ _ _ (by simp)).alloc _
  have hB2 : Blk w3 (w.heap.size + 1 + 1) 26 #[.int .i64 0, nilS, nilS, nilS] := by rw [hw3]; exact Blk.new' _ _ _ _ (by simp)
  rw [← hw3]
  clear hw3
  have hgs : w.heap.size ≤ w.heap.size + 1 + 1 := by omega
  have l0 := hB0.lt
  have a3 : w3.cell? ⟨w.heap.size, 3, none⟩ = some (.slice Ae n ce) := hB0.cell 3
  have HB1 := Lib.hid hB1
  have HB2 := Lib.hid hB2
  have HE3 := Lib.hid hE3
  have lb2 := hB2.lt
  clear hB0 hB1 hB2 hE3
  generalize hG : w.heap.size = G at *
  go_upto_region 2 with (fail)
  obtain ⟨w4, hw4⟩ : ∃ w4, w4 = w3.alloc (.cells #[.int .i64 0, nilS, nilS, nilS] 26) := ⟨_, rfl⟩
  have hE34 : Ext w3 w4 := by rw [hw4]; exact (Ext.refl w3).alloc _
  have hH : Blk w4 w3.heap.size 26 #[.int .i64 0, nilS, nilS, nilS] := by rw [hw4]; exact Blk.new _ _ _
  rw [← hw4]
  clear hw4
  have hH1 : w3.heap.size ≠ G + 1 := by omega
  have hH2 : w3.heap.size ≠ G + 1 + 1 := by omega
  have hH3 : G ≤ w3.heap.size := by omega
  have a3' := hE34.cell a3
  have l0' := Nat.lt_of_lt_of_le l0 hE34.size
  have HB14 := Lib.hid (HB1.out.ext hE34)
  have HB24 := Lib.hid (HB2.out.ext hE34)
  have HE4 := Lib.hid (HE3.out.trans hE34)
  have HH := Lib.hid hH
  clear a3 l0 hE34 hH
  generalize w3.heap.size = H at *
  go_wp2_with (fail)
  go_loopw [13] (fun i wr => ∃ (k : Nat) (v : Value) (l : List QE), k ≤ n ∧ i = .int .i64 k ∧ Blk wr H 26 #[.int .i64 0, nilS, nilS, v] ∧ Blk wr (G + 1 + 1) 26 #[.int .i64 0, nilS, nilS, nilS] ∧ Blk wr (G + 1) 26 #[.int .i64 Nb, .slice B1 n2 k1, .slice B2 p2 k2, .slice Af nf cf] ∧ CopyE w wr v l ∧ l.map (·.2) = (a.take k).filter (fun x => !b.any (underE x)) ∧ Ext w wr ∧ (∃ A m c, v = .slice A m c)) (fun i _ => n - (intOf i).toNat)
  case atStart => exact ⟨0, nilS, [], Nat.zero_le _, rfl, HH.out, HB24.out, HB14.out, ⟨OwnN.nil _ _ _ _ _, by simp⟩, by simp, HE4.out, ⟨_, _, _, rfl⟩⟩
  case round =>
    obtain ⟨k, v, l, hk, rfl, hh, hr2, hb1, hC, hm, hE, hv⟩ := hrel
    obtain ⟨Av, nv, cv, rfl⟩ := hv
    have HM := Lib.hid hm; clear hm
    have HC := Lib.hid hC; clear hC
    have HE := Lib.hid hE; clear hE
    have hll : l.length ≤ n := by
      have h1 : (l.map (·.2)).length ≤ n := by
        rw [HM.out]
        have := filter_len (fun x => !b.any (underE x)) a k
        have := HL.out
        omega
      simpa using h1
    by_cases hlt : k < n
    · obtain ⟨bx, ox, x, q, rfl, hbx, hx, c0, c1, hq, hnl⟩ := RdE.at_ HF.out hlt
      have HX := Lib.hid hx
      have hgx := HGA.out x (List.mem_of_getElem? hx)
      have hxl : x.1.length ≤ 64 := validT_len _ hgx
      clear hx
      obtain ⟨Aq, cq, rfl⟩ := hq.lenv
      have HQ := Lib.hid hq; clear hq
      have HNL := Lib.hid hnl; clear hnl
      have c0 := HE.out.cell c0
      have c1 := HE.out.cell c1
      have hbw : bx < wr.heap.size := World.block_lt_of_cell? _ _ c0
      have hbw2 : bx < (wr.alloc (.cells #[.slice none 0 0, .string ⟨#[]⟩] 64)).heap.size := by simp; omega
      have hal := (Ext.refl wr).alloc (.cells #[.slice Aq x.1.length cq, encS x.2] 64)
      have HCC := Lib.hid (HCV.out _ (HE.out.trans hal) x (.slice Aq x.1.length cq) (HQ.out.ext (HE.out.trans hal)) hgx)
      have HBE := Lib.hid (Blk.new wr 64 #[.slice Aq x.1.length cq, encS x.2])
      have HH4 := Lib.hid (hh.ext hal)
      have HR4 := Lib.hid (hr2.ext hal)
      have HB4 := Lib.hid (hb1.ext hal)
      have HC4 := Lib.hid (HC.out.ext hal)
      have HEW := Lib.hid (HE.out.trans hal)
      have g0 : wr.cell? ⟨G + 1, 0, none⟩ = some (.int .i64 Nb) := hb1.cell 0
      have g1 : wr.cell? ⟨G + 1, 1, none⟩ = some (.slice B1 n2 k1) := hb1.cell 1
      have g2 : wr.cell? ⟨G + 1, 2, none⟩ = some (.slice B2 p2 k2) := hb1.cell 2
      have g3 : wr.cell? ⟨G + 1, 3, none⟩ = some (.slice Af nf cf) := hb1.cell 3
      have lg := hb1.lt
      clear hal hgx hh hr2 hb1
      have hkl := (List.getElem?_eq_some_iff.1 HX.out)
      have HKL := Lib.hid hkl; clear hkl
      cases hr : b.any (underE x) with
      | true =>
        rw [hr] at HCC
        have HR := Lib.hid hr; clear hr
        go_wp2_with (go_at_call 46; refine HCC.out.mono ?_; rintro e w5 ⟨rfl, hE5⟩; have HE5 := Lib.hid hE5; clear hE5)
        go_roundw
        case rel =>
          refine ⟨k + 1, _, l, by omega, by go_num, HH4.out.ext HE5.out, HR4.out.ext HE5.out, HB4.out.ext HE5.out, HC4.out.ext HE5.out, ?_, HEW.out.trans HE5.out, ⟨_, _, _, rfl⟩⟩
          rw [HM.out, filter_snoc _ _ _ _ HX.out, HR.out]
          simp
        case measure => simp [intOf]; omega
      | false =>
        rw [hr] at HCC
        have HR := Lib.hid hr; clear hr
        go_wp2_with (first
          | (go_at_call 46; refine HCC.out.mono ?_; rintro e w5 ⟨rfl, hE5⟩; have be := HBE.out.ext hE5; have e0 : w5.cell? ⟨wr.heap.size, 0, none⟩ = some (.slice Aq x.1.length cq) := (be.cell 0); have le := be.lt; have HBE5 := Lib.hid be; clear be; have HE5 := Lib.hid hE5; clear hE5)
          | (at_make; go_must (refine wpList_make_N rfl (.tmp 23) (.tmp 23) 37 40 rfl i1 _ 2 16 Tryz.underlying37 hi1 hy0 hy1 hy2 x.1.length rfl rfl (by omega) (by unfold maxLen; omega) ?_); intro w6 g6 cur6 hb6 hs6 hg6 hE6; have be := HBE5.out.ext hE6; have e0' : w6.cell? ⟨wr.heap.size, 0, none⟩ = some (.slice Aq x.1.length cq) := (be.cell 0); have le6 := be.lt; clear be; have HB6 := Lib.hid hb6; clear hb6; have HS6 := Lib.hid hs6; clear hs6; have HE56 := Lib.hid hE6; clear hE6)
          | (refine wpList_copy_N rfl (.tmp 25) (.tmp 27) 37 rfl 40 2 (by decide) Tryz.underlying37 (by rw [hi1]; simp [hy1]) encT (fun _ => rfl) g6 cur6 x.1 (.slice Aq x.1.length cq) x.1.length rfl rfl (HQ.out.ext ((HEW.out.trans HE5.out).trans HE56.out)) HB6.out HS6.out rfl (by unfold maxLen; omega) (fun y _ u hu => by simp only [encT, List.mem_cons, List.not_mem_nil, or_false] at hu; rcases hu with rfl | rfl <;> rfl) w5 HE56.out hg6 ?_; (intro w7 hown7 hE7; have be := HBE5.out.ext hE7; have e1' : w7.cell? ⟨wr.heap.size, 1, none⟩ = some (encS x.2) := (be.cell 1); have le7 := be.lt; clear be; have h7 := HH4.out.ext (HE5.out.trans hE7); have m7 : w7.cell? ⟨H, 3, none⟩ = some (.slice Av nv cv) := h7.cell 3; have lh7 := h7.lt; clear h7; have HOT := Lib.hid hown7; clear hown7; have HE7 := Lib.hid (HE5.out.trans hE7); clear hE7))
          | (at_builtin; go_must (refine wpList_append_outN rfl (.tmp 30) (.tmp 35) 24 rfl 64 i0 _ 2 40 Tryz.underlying24 hi0 hz0 hz1 hz2 rfl (by decide) encQE (fun _ => rfl) w ((HEW.out.trans HE7.out).alloc _) (.slice Av nv cv) l rfl (HC4.out.own.ext (HE7.out.alloc _)) w7.heap.size 1 (.slice (some ⟨g6, 0, none⟩) x.1.length x.1.length, x) rfl (cells_new _ _ _ _ rfl) (by intro u hu; simp only [encQE, List.mem_cons, List.not_mem_nil, or_false] at hu; rcases hu with rfl | rfl <;> rfl) (by unfold maxLen; omega) (by omega) (l.length + 1) rfl ?_); intro g8 cap8 w8 hown8 hE8 hg8; have hh8 : Blk w8 H 26 #[.int .i64 0, nilS, nilS, .slice Av nv cv] := Blk.appended (HH4.out.ext (HE7.out.alloc _)) hg8 (HC4.out.own.ext (HE7.out.alloc _)) (by decide); have hr8 : Blk w8 (G + 1 + 1) 26 #[.int .i64 0, nilS, nilS, nilS] := Blk.appended (HR4.out.ext (HE7.out.alloc _)) hg8 (HC4.out.own.ext (HE7.out.alloc _)) (by decide); have hb8 : Blk w8 (G + 1) 26 #[.int .i64 Nb, .slice B1 n2 k1, .slice B2 p2 k2, .slice Af nf cf] := Blk.appended (HB4.out.ext (HE7.out.alloc _)) hg8 (HC4.out.own.ext (HE7.out.alloc _)) (by decide); have l8 := hh8.lt; have f8 := hh8.frozen 3; have m8 : w8.cell? ⟨H, 3, none⟩ = some (.slice Av nv cv) := hh8.cell 3; have HH8 := Lib.hid hh8; have HR8 := Lib.hid hr8; have HB8 := Lib.hid hb8; clear hh8 hr8 hb8; have HG8 := Lib.hid hg8; clear hg8; have HO8 := Lib.hid hown8; clear hown8; have HE8 := Lib.hid hE8; clear hE8))
        have hC8 : CopyE w w8 (.slice (some ⟨g8, 0, none⟩) (l.length + 1) cap8) (l ++ [(.slice (some ⟨g6, 0, none⟩) x.1.length x.1.length, x)]) := ⟨HO8.out, fun p hp => by
          have hro := HC4.out.own.ext (HE7.out.alloc (.cells #[.slice (some ⟨g6, 0, none⟩) x.1.length x.1.length, encS x.2] 64))
          rcases List.mem_append.1 hp with hp | hp
          · have hcl := HC4.out.cl p hp
            exact ⟨hcl.1, OwnN.appendedN (hcl.2.1.ext (HE7.out.alloc _)) HG8.out hro (by decide), hcl.2.2⟩
          · rw [List.mem_singleton] at hp
            rw [hp]
            exact ⟨⟨_, _, _, rfl⟩, OwnN.appendedN ((HOT.out.up (HEW.out.trans HE5.out).size).ext ((Ext.refl w7).alloc _)) HG8.out hro (by decide), HNL.out⟩⟩
        have HC8 := Lib.hid hC8; clear hC8
        go_roundw
        case rel =>
          refine ⟨k + 1, _, _, by omega, by go_num, HH8.out.set_ 3 _, HR8.out.far (p := ⟨H, 3, none⟩) (by intro e; exact hH2 e.symm) _, HB8.out.far (p := ⟨H, 3, none⟩) (by intro e; exact hH1 e.symm) _, HC8.out.far (i := 3) HH8.out _, ?_, HE8.out.setCell (p := ⟨H, 3, none⟩) (by show w.heap.size ≤ H; omega) _, ⟨_, _, _, rfl⟩⟩
          rw [List.map_append, HM.out, filter_snoc _ _ _ _ HX.out, HR.out]
          simp
        case measure => simp [intOf]; omega
    · have HMM : Hid (l.map (·.2) = sinceR a b) := Lib.hid (by rw [HM.out, List.take_of_length_le (by have := HL.out; omega)]; rfl)
      have HR9 := Lib.hid hr2
      have lh := hh.lt
      have m0 : wr.cell? ⟨H, 0, none⟩ = some (.int .i64 0) := hh.cell 0
      have m1 : wr.cell? ⟨H, 1, none⟩ = some nilS := hh.cell 1
      have m2 : wr.cell? ⟨H, 2, none⟩ = some nilS := hh.cell 2
      have m3 : wr.cell? ⟨H, 3, none⟩ = some (.slice Av nv cv) := hh.cell 3
      have lg2 := hr2.lt
      have f0 := hr2.frozen 0
      have f1 := hr2.frozen 1
      have f2 := hr2.frozen 2
      have f3 := hr2.frozen 3
      have d0 : wr.cell? ⟨G + 1 + 1, 0, none⟩ = some (.int .i64 0) := hr2.cell 0
      have d1 : wr.cell? ⟨G + 1 + 1, 1, none⟩ = some nilS := hr2.cell 1
      have d2 : wr.cell? ⟨G + 1 + 1, 2, none⟩ = some nilS := hr2.cell 2
      have d3 : wr.cell? ⟨G + 1 + 1, 3, none⟩ = some nilS := hr2.cell 3
      clear hh hr2 hb1
      go_wp2_with (fail)
      obtain ⟨wz, hwz⟩ : ∃ wz, wz = ((((wr.setCell ⟨G + 1 + 1, 0, none⟩ (.int .i64 0)).setCell ⟨G + 1 + 1, 1, none⟩ nilS).setCell ⟨G + 1 + 1, 2, none⟩ nilS).setCell ⟨G + 1 + 1, 3, none⟩ (.slice Av nv cv)) := ⟨_, rfl⟩
      have hBz : Blk wz (G + 1 + 1) 26 #[.int .i64 0, nilS, nilS, .slice Av nv cv] := by rw [hwz]; exact HR9.out.store4 _ _ _ _
      have hEz : Ext w wz := by rw [hwz]; exact HE.out.store4 (by omega) _ _ _ _
      have hRz : RdE wz (.slice Av nv cv) (sinceR a b) := by
        rw [hwz, ← HMM.out]
        exact HC.out.rd.store4 ⟨_, _, _, _, _, _, _, _, _, _, _, HR9.out⟩ _ _ _ _
      rw [← hwz]
      clear hwz d0 d1 d2 d3
      have d0 : wz.cell? ⟨G + 1 + 1, 0, none⟩ = some (.int .i64 0) := hBz.cell 0
      have d1 : wz.cell? ⟨G + 1 + 1, 1, none⟩ = some nilS := hBz.cell 1
      have d2 : wz.cell? ⟨G + 1 + 1, 2, none⟩ = some nilS := hBz.cell 2
      have d3 : wz.cell? ⟨G + 1 + 1, 3, none⟩ = some (.slice Av nv cv) := hBz.cell 3
      clear hBz
      refine bodyPost_ret (v := .agg #[.int .i64 0, nilS, nilS, .slice Av nv cv]) (by simp [results, Tryz.results23, go_sem, d0, d1, d2, d3]) rfl ?_
      exact ⟨_, rfl, hRz, hEz⟩
end Go.Proofs.YthldgioggjpnpaaGreat
