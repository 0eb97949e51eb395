/-
  Contracts: the reference's Merge, Leq, Below, Same.
-/
import Derived.Test.YthldgioggjpnpaaGreatS1
import Derived.Lib.MinMax
import Derived.StillTailTactics
namespace Go.Proofs.YthldgioggjpnpaaGreat
open Go.RowKit

section own
variable {α : Type} {w : World} {base : Nat} {t : TypeId} {enc : α → Value} {g n cap : Nat} {l : List α}
theorem Own.set_ (h : Own w base t enc (.slice (some ⟨g, 0, none⟩) n cap) l) (hn : n = l.length) (j : Nat) (x : α) :
    Own (w.setCell ⟨g, j, none⟩ (enc x)) base t enc (.slice (some ⟨g, 0, none⟩) n cap) (l.set j x) := by
  subst hn
  have := (World.ownsRow.stored (xs := l.map enc) h j (enc x)).1
  show World.ownsRow _ _ _ _ _ _ _
  rw [List.length_set, List.map_set]
  exact this
theorem Own.away (h : Own w base t enc (.slice (some ⟨g, 0, none⟩) n cap) l) {p : Addr} (hp : g ≠ p.block) (u : Value) : Own (w.setCell p u) base t enc (.slice (some ⟨g, 0, none⟩) n cap) l := by
  refine ⟨h.1, ?_⟩
  rcases h.2 with h2 | ⟨g', cap', cur, hv, hb, hh, r⟩
  · exact .inl h2
  · refine .inr ⟨g', cap', cur, hv, hb, ?_, r⟩
    injection hv with hv
    injection hv with hv
    injection hv with hv
    subst hv
    rw [heap_setCell_other w p g u hp]
    exact hh
theorem Own.drew (h : Own w base t enc (.slice (some ⟨g, 0, none⟩) n cap) l) : Own w.drew base t enc (.slice (some ⟨g, 0, none⟩) n cap) l := h.ext ((Ext.refl w).drew)
theorem Own.drewN (h : Own w base t enc (.slice (some ⟨g, 0, none⟩) n cap) l) (k : Nat) : Own (w.drewN k) base t enc (.slice (some ⟨g, 0, none⟩) n cap) l := h.ext ((Ext.refl w).drewN k)
theorem Own.at_ (h : Own w base t enc (.slice (some ⟨g, 0, none⟩) n cap) l) (hn : n = l.length) {i : Nat} {x : α} (hx : l[i]? = some x) : w.cell? ⟨g, i, none⟩ = some (enc x) := by
  subst hn
  have hi := (List.getElem?_eq_some_iff.1 hx).1
  rw [World.ownsRow.cellAt (xs := l.map enc) h i (by omega), List.getElem?_map, hx]
  rfl
theorem Own.thaw (h : Own w base t enc (.slice (some ⟨g, 0, none⟩) n cap) l) (hn : n = l.length) (i : Nat) : w.frozen? ⟨g, i, none⟩ = false := by
  subst hn
  exact World.ownsRow.frozenAt (xs := l.map enc) h i
end own

theorem rall2_any (v : Value) (ts : List Tk) (w : World) (h : RdT w v ts) (hg : validT ts = true) :
    Calls Tryz.prog 59 #[v] w fun e w' => ∃ g cap, e = .returned (.slice (some ⟨g, 0, none⟩) 64 cap) ∧ w.heap.size ≤ g ∧ g < w'.heap.size ∧ (64 ≤ cap ∧ cap ≤ maxLen) ∧ Own w' w.heap.size 2 encN (.slice (some ⟨g, 0, none⟩) 64 cap) (allT ts 64) ∧ Ext w w' := by
  refine (rall_any v ts w h hg).mono ?_
  rintro e w' ⟨u, rfl, hO, hE⟩
  obtain ⟨A, c, hu, hc1, hc2⟩ := hO.rd.form
  rw [allT_len] at hu hc1
  have h2 := hO
  unfold Own at h2
  rw [allT_len] at h2
  obtain ⟨g, cap, rfl, hb, hlt⟩ := World.ownsRow.form h2 (by omega)
  injection hu with _ _ hu
  subst hu
  exact ⟨g, cap, rfl, hb, hlt, ⟨hc1, hc2⟩, hO, hE⟩

def mixM (a b : List Tk) (k : Nat) : List Int := (List.range 64).map fun (j : Nat) => if j < k then max (getT a (j : Int)) (getT b (j : Int)) else getT a (j : Int)
theorem mixM_len (a b : List Tk) (k : Nat) : (mixM a b k).length = 64 := by simp [mixM]
theorem mixM_zero (a b : List Tk) : mixM a b 0 = allT a 64 := by simp [mixM, allT]
theorem mixM_succ (a b : List Tk) (k : Nat) (_hk : k < 64) : mixM a b (k + 1) = (mixM a b k).set k (max (getT a (k : Int)) (getT b (k : Int))) := by
  apply List.ext_getElem?
  intro j
  rw [List.getElem?_set, mixM_len]
  by_cases hj : j < 64
  · unfold mixM
    rw [List.getElem?_map, List.getElem?_map, List.getElem?_range hj]
    by_cases hjk : k = j
    · subst hjk
      simp [hj]
    · rw [if_neg hjk]
      simp only [Option.map_some]
      by_cases h2 : j < k
      · rw [if_pos (by omega), if_pos h2]
      · rw [if_neg (by omega), if_neg h2]
  · rw [List.getElem?_eq_none (by rw [mixM_len]; omega), if_neg (by omega), List.getElem?_eq_none (by rw [mixM_len]; omega)]
theorem mixM_at (a b : List Tk) (k : Nat) (hk : k < 64) : (mixM a b k)[k]? = some (getT a (k : Int)) := by
  unfold mixM; rw [List.getElem?_map, List.getElem?_range hk]; simp
theorem allT_at (a : List Tk) (k : Nat) (hk : k < 64) : (allT a 64)[k]? = some (getT a (k : Int)) := by
  unfold allT; rw [List.getElem?_map, List.getElem?_range hk]; simp
/-- the reference's merge -/
def mergeW (a b : List Tk) : List Tk := ofT 0 (mixM a b 64)

set_option maxRecDepth 100000 in
set_option maxHeartbeats 2000000 in
theorem rmerge_any (va vb : Value) (a b : List Tk) (w : World) (ha : RdT w va a) (hb : RdT w vb b) (ga : validT a = true) (gb : validT b = true) :
    Calls Tryz.prog 45 #[va, vb] w (OutT w (mergeW a b)) := by
  have HA := Lib.hid ha; clear ha
  have HB := Lib.hid hb; clear hb
  have GA := Lib.hid ga; clear ga
  have GB := Lib.hid gb; clear gb
  have TK1 : True := trivial
  go_enter Tryz.func45, Tryz.ntmps45
  go_wp2_with (first
    | (go_at_call 58; clear TK1; refine (rvalid_any va a _ HA.out).mono ?_; rintro e w1 ⟨rfl, hE1⟩; rw [GA.out]; have HE1 := Lib.hid hE1; clear hE1)
    | (go_at_call 58; refine (rvalid_any vb b _ (HB.out.ext HE1.out)).mono ?_; rintro e w2 ⟨rfl, hE2⟩; rw [GB.out]; have HE2 := Lib.hid (HE1.out.trans hE2); clear hE2))
  refine (rall2_any va a _ (HA.out.ext HE2.out) GA.out).mono ?_
  rintro e w3 ⟨gx, cx, rfl, hgx, hlx, ⟨hcx1, hcx2⟩, hO3, hE3⟩
  have HO3 := Lib.hid hO3
  clear hO3
  have HE3 := Lib.hid (HE2.out.trans hE3)
  have hgw := Nat.le_trans HE2.out.size hgx
  clear hE3
  go_wp2_with (fail)
  refine (rall2_any vb b _ (HB.out.ext HE3.out) GB.out).mono ?_
  rintro e w4 ⟨gy, cy, rfl, hgy, hly, ⟨hcy1, hcy2⟩, hO4, hE4⟩
  have HO4 := Lib.hid hO4
  clear hO4
  have HO5 := Lib.hid (HO3.out.ext hE4)
  have HE4 := Lib.hid (HE3.out.trans hE4)
  clear hE4
  have hne : gy ≠ gx := by omega
  unfold maxLen at hcx2 hcy2
  go_wp2_with (fail)
  have hwb : w.heap.size ≤ gx := hgw
  obtain ⟨bx, hbx⟩ : ∃ bx, bx = w2.heap.size := ⟨_, rfl⟩
  obtain ⟨bY, hbY⟩ : ∃ bY, bY = w3.heap.size := ⟨_, rfl⟩
  have HO5 := Lib.hid (show Own w4 bx 2 encN _ (mixM a b 0) by rw [hbx, mixM_zero]; exact HO5.out)
  have HO4 := Lib.hid (show Own w4 bY 2 encN _ _ by rw [hbY]; exact HO4.out)
  have hbxw : w.heap.size ≤ bx := by rw [hbx]; exact HE2.out.size
  clear hbx hbY hgx hgy hlx hly HO3 HE1 HE2 HE3
  go_loopw [7] (fun i wr => ∃ k : Nat, k ≤ 64 ∧ i = .int .i64 k ∧ Own wr bx 2 encN (.slice (some ⟨gx, 0, none⟩) 64 cx) (mixM a b k) ∧ Own wr bY 2 encN (.slice (some ⟨gy, 0, none⟩) 64 cy) (allT b 64) ∧ Ext w wr) (fun i _ => 64 - (intOf i).toNat)
  case atStart => exact ⟨0, by omega, rfl, HO5.out, HO4.out, HE4.out⟩
  case round =>
    obtain ⟨k, hk, rfl, hX, hY, hE⟩ := hrel
    clear HO5 HO4 HE4
    by_cases hlt : k < 64
    · obtain ⟨x, hx⟩ : ∃ x, getT a (k : Int) = x := ⟨_, rfl⟩
      obtain ⟨y, hy⟩ : ∃ y, getT b (k : Int) = y := ⟨_, rfl⟩
      have c0 : wr.cell? ⟨gx, k, none⟩ = some (.int .i64 x) := hX.at_ (mixM_len a b k).symm (by rw [mixM_at a b k hlt, hx])
      have c1 : wr.cell? ⟨gy, k, none⟩ = some (.int .i64 y) := hY.at_ (allT_len b 64).symm (by rw [allT_at b k hlt, hy])
      have f0 := hX.thaw (mixM_len a b k).symm k
      have l0 := World.block_lt_of_cell? _ _ c0
      have l1 := World.block_lt_of_cell? _ _ c1
      have HX1 : Hid (Own (wr.setCell ⟨gx, k, none⟩ (.int .i64 (max x y))) bx 2 encN (.slice (some ⟨gx, 0, none⟩) 64 cx) (mixM a b (k + 1))) := Lib.hid (by
        rw [mixM_succ a b k hlt, hx, hy]
        exact hX.set_ (mixM_len a b k).symm k (max x y))
      have HY1 : Hid (Own (wr.setCell ⟨gx, k, none⟩ (.int .i64 (max x y))) bY 2 encN (.slice (some ⟨gy, 0, none⟩) 64 cy) (allT b 64)) := Lib.hid (hY.away hne _)
      have HE1 : Hid (Ext w (wr.setCell ⟨gx, k, none⟩ (.int .i64 (max x y)))) := Lib.hid (hE.setCell (p := ⟨gx, k, none⟩) hwb _)
      clear hX hY hE hx hy
      go_wp2_with (fail)
      go_still_tail 12, (by kernel_rfl)
      go_wp2_with (fail)
      go_roundw
      case rel => exact ⟨k + 1, by omega, by go_num, by first | exact HX1.out.drew | exact HX1.out.drewN _ | exact HX1.out, by first | exact HY1.out.drew | exact HY1.out.drewN _ | exact HY1.out, by first | exact HE1.out.drew | exact HE1.out.drewN _ | exact HE1.out⟩
      case measure => simp [intOf]; omega
    · obtain rfl : k = 64 := by omega
      have HX := Lib.hid hX.rd; clear hX hY
      have HE := Lib.hid hE; clear hE
      go_wp2_with (go_at_call 60; refine (rof_any _ (mixM a b 64) _ HX.out (by rw [mixM_len]; omega)).mono ?_; rintro e w8 ⟨v8, rfl, hO8, hE8⟩; have HO8 := Lib.hid hO8; clear hO8; have HE8 := Lib.hid (HE.out.trans hE8); clear hE8)
      go_ret
      exact ⟨v8, rfl, HO8.out.up HE.out.size, HE8.out⟩

/-- no number of a is greater than that of b, up to a place -/
def leqT (a b : List Tk) : Bool := (List.range 64).all fun (j : Nat) => decide (getT a (j : Int) ≤ getT b (j : Int))
theorem leqT_iff (a b : List Tk) : leqT a b = true ↔ ∀ j : Nat, j < 64 → getT a (j : Int) ≤ getT b (j : Int) := by
  unfold leqT; rw [List.all_eq_true]; simp

set_option maxRecDepth 100000 in
set_option maxHeartbeats 2000000 in
theorem rleq_any (va vb : Value) (a b : List Tk) (w : World) (ha : RdT w va a) (hb : RdT w vb b) (ga : validT a = true) (gb : validT b = true) :
    Calls Tryz.prog 104 #[va, vb] w fun e w' => e = .returned (.bool (leqT a b)) ∧ Ext w w' := by
  have HA := Lib.hid ha; clear ha
  have HB := Lib.hid hb; clear hb
  have GA := Lib.hid ga; clear ga
  have GB := Lib.hid gb; clear gb
  have TK2 : True := trivial
  go_enter Tryz.func104, Tryz.ntmps104
  go_wp2_with (first
    | (go_at_call 59; clear TK2; refine (rall2_any va a _ HA.out GA.out).mono ?_; rintro e w3 ⟨gx, cx, rfl, hgx, hlx, ⟨hcx1, hcx2⟩, hO3, hE3⟩; have HO3 := Lib.hid hO3; clear hO3; have HE3 := Lib.hid hE3; clear hE3)
    | (go_at_call 59; refine (rall2_any vb b _ (HB.out.ext HE3.out) GB.out).mono ?_; rintro e w4 ⟨gy, cy, rfl, hgy, hly, ⟨hcy1, hcy2⟩, hO4, hE4⟩; have HO4 := Lib.hid hO4; clear hO4; have HO5 := Lib.hid (HO3.out.ext hE4); have HE4 := Lib.hid (HE3.out.trans hE4); clear hE4; unfold maxLen at hcx2 hcy2))
  clear HO3 HE3
  go_loopw [7] (fun i wr => ∃ k : Nat, k ≤ 64 ∧ i = .int .i64 k ∧ (∀ j : Nat, j < k → getT a (j : Int) ≤ getT b (j : Int)) ∧ Ext w4 wr) (fun i _ => 64 - (intOf i).toNat)
  case atStart => exact ⟨0, by omega, rfl, fun j hj => absurd hj (by omega), Ext.refl _⟩
  case round =>
    obtain ⟨k, hk, rfl, hL, hE⟩ := hrel
    have HL := Lib.hid hL; clear hL
    by_cases hlt : k < 64
    · obtain ⟨x, hx⟩ : ∃ x, getT a (k : Int) = x := ⟨_, rfl⟩
      obtain ⟨y, hy⟩ : ∃ y, getT b (k : Int) = y := ⟨_, rfl⟩
      have c0 : wr.cell? ⟨gx, k, none⟩ = some (.int .i64 x) := (HO5.out.ext hE).at_ (allT_len a 64).symm (by rw [allT_at a k hlt, hx])
      have c1 : wr.cell? ⟨gy, k, none⟩ = some (.int .i64 y) := (HO4.out.ext hE).at_ (allT_len b 64).symm (by rw [allT_at b k hlt, hy])
      have HX := Lib.hid hx; clear hx
      have HY := Lib.hid hy; clear hy
      by_cases hxy : y < x
      · go_wp2_with (fail)
        go_quiet (fail)
        go_wp2_with (fail)
        go_ret
        refine ⟨ret_bool ?_, by first | exact HE4.out.trans hE | exact (HE4.out.trans hE).drewN _⟩
        symm
        rw [Bool.eq_false_iff]
        intro h
        have := (leqT_iff a b).1 h k hlt
        rw [HX.out, HY.out] at this
        omega
      · go_wp2_with (fail)
        go_quiet (fail)
        go_wp2_with (fail)
        go_roundw
        case rel =>
          refine ⟨k + 1, by omega, by go_num, fun j hj => ?_, by first | exact hE | exact hE.drewN _⟩
          rcases Nat.lt_succ_iff_lt_or_eq.1 hj with h | rfl
          · exact HL.out j h
          · rw [HX.out, HY.out]; omega
        case measure => simp [intOf]; omega
    · obtain rfl : k = 64 := by omega
      go_wp2_with (fail)
      go_ret
      exact ⟨ret_bool ((leqT_iff a b).2 HL.out).symm, HE4.out.trans hE⟩

/-- both valid, a strictly below b -/
def belowT (a b : List Tk) : Bool := validT a && validT b && leqT a b && !leqT b a

set_option maxRecDepth 100000 in
set_option maxHeartbeats 2000000 in
theorem rbelow_any (va vb : Value) (a b : List Tk) (w : World) (ha : RdT w va a) (hb : RdT w vb b) :
    Calls Tryz.prog 71 #[va, vb] w fun e w' => e = .returned (.bool (belowT a b)) ∧ Ext w w' := by
  have HA := Lib.hid ha; clear ha
  have HB := Lib.hid hb; clear hb
  have TK1 : True := trivial
  have TK2 : True := trivial
  cases hga : validT a with
  | false =>
    have GA := Lib.hid hga
    have HR : Hid (belowT a b = false) := Lib.hid (by simp [belowT, hga])
    clear hga
    go_enter Tryz.func71, Tryz.ntmps71
    go_wp2_with (go_at_call 58; refine (rvalid_any va a _ HA.out).mono ?_; rintro e w1 ⟨rfl, hE1⟩; rw [GA.out]; have HE1 := Lib.hid hE1; clear hE1)
    go_ret
    exact ⟨ret_bool HR.out.symm, HE1.out⟩
  | true =>
    cases hgb : validT b with
    | false =>
      have GA := Lib.hid hga
      have GB := Lib.hid hgb
      have HR : Hid (belowT a b = false) := Lib.hid (by simp [belowT, hgb])
      clear hga hgb
      go_enter Tryz.func71, Tryz.ntmps71
      go_wp2_with (first
        | (go_at_call 58; clear TK1; refine (rvalid_any va a _ HA.out).mono ?_; rintro e w1 ⟨rfl, hE1⟩; rw [GA.out]; have HE1 := Lib.hid hE1; clear hE1)
        | (go_at_call 58; refine (rvalid_any vb b _ (HB.out.ext HE1.out)).mono ?_; rintro e w2 ⟨rfl, hE2⟩; rw [GB.out]; have HE2 := Lib.hid (HE1.out.trans hE2); clear hE2))
      go_ret
      exact ⟨ret_bool HR.out.symm, HE2.out⟩
    | true =>
      have GA := Lib.hid hga
      have GB := Lib.hid hgb
      have HR : Hid (belowT a b = (leqT a b && !leqT b a)) := Lib.hid (by simp [belowT, hga, hgb])
      clear hga hgb
      cases hl : leqT a b with
      | false =>
        have HL := Lib.hid hl; clear hl
        go_enter Tryz.func71, Tryz.ntmps71
        go_wp2_with (first
          | (go_at_call 58; clear TK1; refine (rvalid_any va a _ HA.out).mono ?_; rintro e w1 ⟨rfl, hE1⟩; rw [GA.out]; have HE1 := Lib.hid hE1; clear hE1)
          | (go_at_call 58; refine (rvalid_any vb b _ (HB.out.ext HE1.out)).mono ?_; rintro e w2 ⟨rfl, hE2⟩; rw [GB.out]; have HE2 := Lib.hid (HE1.out.trans hE2); clear hE2)
          | (go_at_call 104; clear TK2; refine (rleq_any va vb a b _ (HA.out.ext HE2.out) (HB.out.ext HE2.out) GA.out GB.out).mono ?_; rintro e w3 ⟨rfl, hE3⟩; rw [HL.out]; have HE3 := Lib.hid (HE2.out.trans hE3); clear hE3))
        go_ret
        exact ⟨ret_bool (by rw [HR.out, HL.out]; rfl), HE3.out⟩
      | true =>
        have HL := Lib.hid hl; clear hl
        obtain ⟨r, hr⟩ : ∃ r, leqT b a = r := ⟨_, rfl⟩
        have HL2 := Lib.hid hr; clear hr
        go_enter Tryz.func71, Tryz.ntmps71
        go_wp2_with (first
          | (go_at_call 58; clear TK1; refine (rvalid_any va a _ HA.out).mono ?_; rintro e w1 ⟨rfl, hE1⟩; rw [GA.out]; have HE1 := Lib.hid hE1; clear hE1)
          | (go_at_call 58; refine (rvalid_any vb b _ (HB.out.ext HE1.out)).mono ?_; rintro e w2 ⟨rfl, hE2⟩; rw [GB.out]; have HE2 := Lib.hid (HE1.out.trans hE2); clear hE2)
          | (go_at_call 104; clear TK2; refine (rleq_any va vb a b _ (HA.out.ext HE2.out) (HB.out.ext HE2.out) GA.out GB.out).mono ?_; rintro e w3 ⟨rfl, hE3⟩; rw [HL.out]; have HE3 := Lib.hid (HE2.out.trans hE3); clear hE3)
          | (go_at_call 104; refine (rleq_any vb va b a _ (HB.out.ext HE3.out) (HA.out.ext HE3.out) GB.out GA.out).mono ?_; rintro e w4 ⟨rfl, hE4⟩; rw [HL2.out]; have HE4 := Lib.hid (HE3.out.trans hE4); clear hE4))
        go_ret
        exact ⟨ret_bool (by rw [HR.out, HL.out, HL2.out]; rfl), HE4.out⟩

set_option maxRecDepth 100000 in
set_option maxHeartbeats 2000000 in
theorem rsame_any (va vb : Value) (a b : List Tk) (w : World) (ha : RdT w va a) (hb : RdT w vb b) :
    Calls Tryz.prog 72 #[va, vb] w fun e w' => e = .returned (.bool (decide (a = b))) ∧ Ext w w' := by
  have HA := Lib.hid ha
  have HB := Lib.hid hb
  obtain ⟨A, n, c, rfl, hla, hnc, hcm, -⟩ := ha
  obtain ⟨B, m, d, rfl, hlb, hmd, hdm, -⟩ := hb
  unfold maxLen at hcm hdm
  have HLA := Lib.hid hla; clear hla
  have HLB := Lib.hid hlb; clear hlb
  by_cases hnm : n = m
  · subst hnm
    have e0 : ((n : Int) != n) = false := by simp
    go_enter Tryz.func72, Tryz.ntmps72
    go_wp2_with (fail)
    go_loopw [5] (fun i wr => ∃ k : Nat, k ≤ n ∧ i = .int .i64 k ∧ a.take k = b.take k ∧ Ext w wr) (fun i _ => n - (intOf i).toNat)
    case atStart => exact ⟨0, Nat.zero_le _, rfl, rfl, Ext.refl _⟩
    case round =>
      obtain ⟨k, hk, rfl, ht, hE⟩ := hrel
      have HT := Lib.hid ht; clear ht
      by_cases hlt : k < n
      · obtain ⟨b1, o1, t1, rfl, hb1, ht1, c0, c1⟩ := RdT.tick (HA.out.ext hE) hlt
        obtain ⟨b2, o2, t2, rfl, hb2, ht2, c2, c3⟩ := RdT.tick (HB.out.ext hE) hlt
        obtain ⟨p, q⟩ := t1
        obtain ⟨r, s⟩ := t2
        dsimp only at c0 c1 c2 c3
        have HT1 := Lib.hid ht1; clear ht1
        have HT2 := Lib.hid ht2; clear ht2
        by_cases hpq : p = r ∧ q = s
        · obtain ⟨rfl, rfl⟩ := hpq
          have e1 : (p == p) = true := by simp
          have e2 : (q == q) = true := by simp
          have e3 : (p != p) = false := by simp
          have e4 : (q != q) = false := by simp
          go_wp2_with (fail)
          go_quiet (fail)
          go_wp2_with (fail)
          go_roundw
          case rel =>
            refine ⟨k + 1, by omega, by go_num, ?_, by first | exact hE | exact hE.drewN _⟩
            obtain ⟨h1, h2⟩ := List.getElem?_eq_some_iff.1 HT1.out
            obtain ⟨h3, h4⟩ := List.getElem?_eq_some_iff.1 HT2.out
            rw [List.take_succ_eq_append_getElem h1, List.take_succ_eq_append_getElem h3, HT.out, h2, h4]
          case measure => simp [intOf]; omega
        · have HN := Lib.hid hpq
          by_cases hp : p = r
          · subst hp
            have e1 : (p == p) = true := by simp
            have e2 : (q == s) = false := by
              rw [Bool.eq_false_iff]
              intro h
              exact hpq ⟨rfl, by simpa using h⟩
            clear hpq
            go_wp2_with (fail)
            go_quiet (fail)
            go_wp2_with (fail)
            all_goals
              go_ret
              refine ⟨ret_bool ?_, by first | exact hE | exact hE.drewN _⟩
              symm
              rw [decide_eq_false_iff_not]
              intro h
              subst h
              have := HT1.out.symm.trans HT2.out
              injection this with this
              injection this with h1 h2
              exact HN.out (by first | exact ⟨h1, h2⟩ | exact ⟨trivial, h2⟩)
          · have e1 : (p == r) = false := by simpa using hp
            clear hpq hp
            go_wp2_with (fail)
            go_quiet (fail)
            go_wp2_with (fail)
            all_goals
              go_ret
              refine ⟨ret_bool ?_, by first | exact hE | exact hE.drewN _⟩
              symm
              rw [decide_eq_false_iff_not]
              intro h
              subst h
              have := HT1.out.symm.trans HT2.out
              injection this with this
              injection this with h1 h2
              exact HN.out (by first | exact ⟨h1, h2⟩ | exact ⟨trivial, h2⟩)
      · go_wp2_with (fail)
        go_ret
        refine ⟨ret_bool ?_, hE⟩
        symm
        rw [decide_eq_true_eq]
        have := HT.out
        rw [List.take_of_length_le (by have := HLA.out; omega), List.take_of_length_le (by have := HLB.out; omega)] at this
        exact this
  · have e0 : ((n : Int) != m) = true := by simp; omega
    have HN := Lib.hid hnm; clear hnm
    go_enter Tryz.func72, Tryz.ntmps72
    go_wp2_with (fail)
    go_ret
    refine ⟨ret_bool ?_, Ext.refl _⟩
    symm
    rw [decide_eq_false_iff_not]
    intro h
    subst h
    exact HN.out (HLA.out.symm.trans HLB.out)
end Go.Proofs.YthldgioggjpnpaaGreat
