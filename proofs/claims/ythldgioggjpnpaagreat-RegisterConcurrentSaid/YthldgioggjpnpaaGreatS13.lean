/-
  Contracts: the reference's Covered, Since, Covers of registers.
-/
import Derived.Test.YthldgioggjpnpaaGreatS9
namespace Go.Proofs.YthldgioggjpnpaaGreat
open Go.RowKit

/-- the reference's word: an entry is covered by another one -/
def covB (x y : En) : Bool := belowT x.1 y.1 || (x.2 == y.2 && decide (x.1 = y.1))

set_option maxRecDepth 100000 in
set_option maxHeartbeats 2000000 in
theorem rcov13_any (v qx : Value) (N : Int) (nn np : Nat) (es : List En) (x : En) (w : World) (h : RdV w v N nn np es) (hx : RdT w qx x.1) :
    Calls Tryz.prog 47 #[v, .agg #[qx, encS x.2]] w fun e w' => e = .returned (.bool (es.any (covB x))) ∧ Ext w w' := by
  obtain ⟨An, cn, Ap, cp, ve, rfl, he⟩ := h
  have H := Lib.hid he
  obtain ⟨A, n, c, rfl, hl, hnc, hcm, -⟩ := he
  unfold maxLen at hcm
  have HL := Lib.hid hl; clear hl
  have HQ := Lib.hid hx
  obtain ⟨ts, nm⟩ := x
  dsimp only at hx HQ ⊢
  obtain ⟨Aq, cq, rfl⟩ := hx.lenv
  clear hx
  go_enter Tryz.func47, Tryz.ntmps47
  go_upto_region 1 with (fail)
  obtain ⟨wa, hwa⟩ : ∃ wa, wa = (w.alloc (.cells #[.int .i64 N, .slice An nn cn, .slice Ap np cp, .slice A n c] 26)).alloc (.cells #[.slice Aq ts.length cq, encS nm] 64) := ⟨_, rfl⟩
  have HEA : Hid (Ext w wa) := Lib.hid (by rw [hwa]; exact ((Ext.refl w).alloc _).alloc _)
  have HB1 : Hid (Blk wa w.heap.size 26 #[.int .i64 N, .slice An nn cn, .slice Ap np cp, .slice A n c]) := Lib.hid (by rw [hwa]; exact (Blk.new _ _ _).alloc _)
  have HB2 : Hid (Blk wa (w.heap.size + 1) 64 #[.slice Aq ts.length cq, encS nm]) := Lib.hid (by rw [hwa]; exact Blk.new' _ _ _ _ (by simp))
  rw [← hwa]
  clear hwa
  generalize w.heap.size = G at *
  go_wp2_with (fail)
  go_loopw [5] (fun i wr => ∃ k : Nat, k ≤ n ∧ i = .int .i64 k ∧ (es.take k).any (covB (ts, nm)) = false ∧ Ext wa wr) (fun i _ => n - (intOf i).toNat)
  case atStart => exact ⟨0, Nat.zero_le _, rfl, by simp, Ext.refl _⟩
  case round =>
    obtain ⟨k, hk, rfl, hno, hE⟩ := hrel
    have HNO := Lib.hid hno; clear hno
    have b3 : wr.cell? ⟨G, 3, none⟩ = some (.slice A n c) := hE.cell (HB1.out.cell 3)
    have d0 : wr.cell? ⟨G + 1, 0, none⟩ = some (.slice Aq ts.length cq) := hE.cell (HB2.out.cell 0)
    have d1 : wr.cell? ⟨G + 1, 1, none⟩ = some (encS nm) := hE.cell (HB2.out.cell 1)
    have l1 := World.block_lt_of_cell? _ _ b3
    have l2 := World.block_lt_of_cell? _ _ d0
    have HE := Lib.hid hE; clear hE
    by_cases hlt : k < n
    · obtain ⟨b, off, y, qy, rfl, hb, hy, c0, c1, hqy, hnl⟩ := RdE.at_ (H.out.ext (HEA.out.trans HE.out)) hlt
      have HY := Lib.hid hy; clear hy hnl
      have HQY := Lib.hid hqy
      obtain ⟨tu, nu⟩ := y
      dsimp only at c0 c1 hqy HQY
      obtain ⟨Ay, cy, rfl⟩ := hqy.lenv
      clear hqy
      have hbw2 : b < (wr.alloc (.cells #[.slice none 0 0, .string ⟨#[]⟩] 64)).heap.size := by simp; omega
      have HBE := Lib.hid (Blk.new wr 64 #[.slice Ay tu.length cy, encS nu])
      have HE4 : Hid (Ext wr (wr.alloc (.cells #[.slice Ay tu.length cy, encS nu] 64))) := Lib.hid ((Ext.refl wr).alloc _)
      have HCB := Lib.hid (fun W (hW : Ext wr W) => rbelow_any _ _ ts tu W (HQ.out.ext ((HEA.out.trans HE.out).trans hW)) (HQY.out.ext hW))
      have HCS := Lib.hid (fun W (hW : Ext wr W) => rsame_any _ _ ts tu W (HQ.out.ext ((HEA.out.trans HE.out).trans hW)) (HQY.out.ext hW))
      have HST : Hid (covB (ts, nm) (tu, nu) = false → (es.take (k + 1)).any (covB (ts, nm)) = false) := Lib.hid (fun h => by
        obtain ⟨hkl, hke⟩ := List.getElem?_eq_some_iff.1 HY.out
        rw [List.take_succ_eq_append_getElem hkl, hke, List.any_append, HNO.out]
        simp [h])
      cases hr : belowT ts tu with
      | true =>
        have HR := Lib.hid hr; clear hr
        go_wp2_with (go_at_call 71; refine (HCB.out _ HE4.out).mono ?_; rintro e w1 ⟨rfl, hE1⟩; rw [HR.out]; have HE1 := Lib.hid hE1; clear hE1)
        go_ret
        refine ⟨ret_bool ?_, HEA.out.trans (HE.out.trans (HE4.out.trans HE1.out))⟩
        symm
        rw [List.any_eq_true]
        exact ⟨_, List.mem_of_getElem? HY.out, by simp [covB, HR.out]⟩
      | false =>
        have HR := Lib.hid hr; clear hr
        by_cases hn : nm = nu
        · subst hn
          have e0 : (nm == nm) = true := by simp
          by_cases ht : ts = tu
          · have HT : Hid (decide (ts = tu) = true) := Lib.hid (decide_eq_true ht)
            clear ht
            go_wp2_with (first
              | (go_at_call 71; refine (HCB.out _ HE4.out).mono ?_; rintro e w1 ⟨rfl, hE1⟩; rw [HR.out]; have be := HBE.out.ext hE1; have x0 : w1.cell? ⟨wr.heap.size, 0, none⟩ = some (.slice Ay tu.length cy) := be.cell 0; have x1 : w1.cell? ⟨wr.heap.size, 1, none⟩ = some (encS nm) := be.cell 1; have lx := be.lt; clear be; have f0 := (HE4.out.trans hE1).cell d0; have f1 := (HE4.out.trans hE1).cell d1; have lf := World.block_lt_of_cell? _ _ f0; have HE1 := Lib.hid (HE4.out.trans hE1); clear hE1)
              | (go_at_call 72; refine (HCS.out _ HE1.out).mono ?_; rintro e w2 ⟨rfl, hE2⟩; rw [HT.out]; have HE2 := Lib.hid (HE1.out.trans hE2); clear hE2))
            go_ret
            refine ⟨ret_bool ?_, HEA.out.trans (HE.out.trans HE2.out)⟩
            symm
            rw [List.any_eq_true]
            exact ⟨_, List.mem_of_getElem? HY.out, by simp [covB, of_decide_eq_true HT.out]⟩
          · have HT : Hid (decide (ts = tu) = false) := Lib.hid (decide_eq_false ht)
            clear ht
            go_wp2_with (first
              | (go_at_call 71; refine (HCB.out _ HE4.out).mono ?_; rintro e w1 ⟨rfl, hE1⟩; rw [HR.out]; have be := HBE.out.ext hE1; have x0 : w1.cell? ⟨wr.heap.size, 0, none⟩ = some (.slice Ay tu.length cy) := be.cell 0; have x1 : w1.cell? ⟨wr.heap.size, 1, none⟩ = some (encS nm) := be.cell 1; have lx := be.lt; clear be; have f0 := (HE4.out.trans hE1).cell d0; have f1 := (HE4.out.trans hE1).cell d1; have lf := World.block_lt_of_cell? _ _ f0; have HE1 := Lib.hid (HE4.out.trans hE1); clear hE1)
              | (go_at_call 72; refine (HCS.out _ HE1.out).mono ?_; rintro e w2 ⟨rfl, hE2⟩; rw [HT.out]; have HE2 := Lib.hid (HE1.out.trans hE2); clear hE2))
            go_roundw
            case rel => exact ⟨k + 1, by omega, by go_num, HST.out (by simp [covB, HR.out, HT.out]), HE.out.trans HE2.out⟩
            case measure => simp [intOf]; omega
        · have e0 : (nm == nu) = false := by simpa using hn
          have HN := Lib.hid e0
          clear hn
          go_wp2_with (go_at_call 71; refine (HCB.out _ HE4.out).mono ?_; rintro e w1 ⟨rfl, hE1⟩; rw [HR.out]; have be := HBE.out.ext hE1; have x0 : w1.cell? ⟨wr.heap.size, 0, none⟩ = some (.slice Ay tu.length cy) := be.cell 0; have x1 : w1.cell? ⟨wr.heap.size, 1, none⟩ = some (encS nu) := be.cell 1; have lx := be.lt; clear be; have f0 := (HE4.out.trans hE1).cell d0; have f1 := (HE4.out.trans hE1).cell d1; have lf := World.block_lt_of_cell? _ _ f0; have HE1 := Lib.hid (HE4.out.trans hE1); clear hE1)
          go_roundw
          case rel => exact ⟨k + 1, by omega, by go_num, HST.out (by simp [covB, HR.out, HN.out]), HE.out.trans HE1.out⟩
          case measure => simp [intOf]; omega
    · go_wp2_with (fail)
      go_ret
      refine ⟨ret_bool ?_, HEA.out.trans HE.out⟩
      have := HNO.out
      rw [List.take_of_length_le (by have := HL.out; omega)] at this
      exact this.symm
end Go.Proofs.YthldgioggjpnpaaGreat
