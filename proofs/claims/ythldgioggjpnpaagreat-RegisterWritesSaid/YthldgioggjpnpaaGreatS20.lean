/-
  Contracts: the reference's room and Small: the size of a value.
-/
import Derived.Test.YthldgioggjpnpaaGreatS12
import Derived.Test.YthldgioggjpnpaaGreatS9
namespace Go.Proofs.YthldgioggjpnpaaGreat
open Go.RowKit

def entN (es : List En) : Nat := (es.map (fun e => 1 + e.1.length)).sum
mutual
def nodesV : Val → Nat
  | .mk _ nm ps es => 1 + nm.length + entN es + nodesL ps
def nodesL : List Val → Nat
  | [] => 0
  | a :: r => nodesV a + nodesL r
end
theorem nodesV_eq (x : Val) : nodesV x = 1 + x.nm.length + entN x.es + nodesL x.ps := by
  cases x with
  | mk N nm ps es => rw [nodesV]; rfl
theorem nodesL_append : ∀ (a b : List Val), nodesL (a ++ b) = nodesL a + nodesL b
  | [], b => by simp [nodesL]
  | x :: r, b => by rw [List.cons_append, nodesL, nodesL, nodesL_append r b]; omega
theorem entN_append (a b : List En) : entN (a ++ b) = entN a + entN b := by simp [entN]
theorem entN_take {es : List En} {k : Nat} {e : En} (h : es[k]? = some e) : entN (es.take (k + 1)) = entN (es.take k) + (1 + e.1.length) := by
  obtain ⟨hk, rfl⟩ := List.getElem?_eq_some_iff.1 h
  rw [List.take_succ_eq_append_getElem hk, entN_append]
  simp [entN]
theorem nodesL_take {ps : List Val} {k : Nat} {e : Val} (h : ps[k]? = some e) : nodesL (ps.take (k + 1)) = nodesL (ps.take k) + nodesV e := by
  obtain ⟨hk, rfl⟩ := List.getElem?_eq_some_iff.1 h
  rw [List.take_succ_eq_append_getElem hk, nodesL_append]
  simp [nodesL]
theorem entN_le (es : List En) (k : Nat) : entN (es.take k) ≤ entN es := by
  have h := entN_append (es.take k) (es.drop k)
  rw [List.take_append_drop] at h
  omega
theorem nodesL_le (ps : List Val) (k : Nat) : nodesL (ps.take k) ≤ nodesL ps := by
  have h := nodesL_append (ps.take k) (ps.drop k)
  rw [List.take_append_drop] at h
  omega
/-- what room returns -/
def roomV (x : Val) (m : Int) : Int := if (nodesV x : Int) ≤ m then m - nodesV x else -1
theorem roomV_neg {x : Val} {m : Int} (h : m < nodesV x) : roomV x m = -1 := by unfold roomV; rw [if_neg (by omega)]
theorem roomV_pos {x : Val} {m : Int} (h : (nodesV x : Int) ≤ m) : roomV x m = m - nodesV x := by unfold roomV; rw [if_pos h]

set_option maxRecDepth 100000 in
set_option maxHeartbeats 4000000 in
theorem rroom_any : ∀ (d : Nat) (cs : List Value) (x : Val) (m : Int) (w : World), m ≤ 1000000 → 0 ≤ m → RdVal d w cs x →
    Calls Tryz.prog 33 #[.agg cs.toArray, .int .i64 m] w fun e w' => e = .returned (.int .i64 (roomV x m)) ∧ Ext w w' := by
  intro d
  induction d with
  | zero => intro cs x m w _ _ hx; exact hx.elim
  | succ d ih =>
    intro cs x m w hm hm0 hx
    have IH := Lib.hid ih; clear ih
    obtain ⟨An, nn, cn, Ap, np, cp, ve, rfl, hS, -, hE, hpl, hp1, hp2, hp3⟩ := hx
    obtain ⟨Ae, ne, ce, rfl⟩ := hE.slice
    have HEn := Lib.hid hE
    have HP := Lib.hid hp3
    have HPL := Lib.hid hpl
    obtain ⟨hsl, hs1, hs2⟩ := Rd1.facts hS
    have HSL := Lib.hid hsl
    unfold maxLen at hs2 hp2
    obtain ⟨_, _, _, hv, hel, he1, he2, -⟩ := hE
    injection hv with q1 q2 q3
    subst q1 q2 q3
    unfold maxLen at he2
    have HEL := Lib.hid hel
    clear hS hp3 hpl hsl hel
    have HNV : Hid ((nodesV x : Int) = 1 + (nn : Int) + (entN x.es : Int) + (nodesL x.ps : Int)) := Lib.hid (by rw [nodesV_eq, HSL.out]; omega)
    go_enter Tryz.func33, Tryz.ntmps33
    go_upto_region 1 with (fail)
    obtain ⟨wa, hwa⟩ : ∃ wa, wa = w.alloc (.cells #[.int .i64 x.N, .slice An nn cn, .slice Ap np cp, .slice Ae ne ce] 26) := ⟨_, rfl⟩
    have HEA : Hid (Ext w wa) := Lib.hid (by rw [hwa]; exact (Ext.refl w).alloc _)
    have HB1 : Hid (Blk wa w.heap.size 26 #[.int .i64 x.N, .slice An nn cn, .slice Ap np cp, .slice Ae ne ce]) := Lib.hid (by rw [hwa]; exact Blk.new _ _ _)
    rw [← hwa]
    clear hwa
    generalize w.heap.size = G at *
    have HX : Hid (∀ W, Ext wa W → (W.cell? ⟨G, 1, none⟩ = some (.slice An nn cn) ∧ W.cell? ⟨G, 2, none⟩ = some (.slice Ap np cp) ∧ W.cell? ⟨G, 3, none⟩ = some (.slice Ae ne ce)) ∧ G < W.heap.size) := Lib.hid (fun W hW => ⟨⟨hW.cell (HB1.out.cell 1), hW.cell (HB1.out.cell 2), hW.cell (HB1.out.cell 3)⟩, Nat.lt_of_lt_of_le HB1.out.lt hW.size⟩)
    obtain ⟨⟨a1, a2, a3⟩, lG⟩ := HX.out wa (Ext.refl _)
    by_cases hm1 : m < 1
    · have HRT : Hid (roomV x m = -1) := Lib.hid (roomV_neg (by have := HNV.out; omega))
      go_wp2_with (fail)
      go_ret
      exact ⟨by rw [HRT.out]; rfl, HEA.out⟩
    · have hw1 : IntKind.i64.wrap (m - 1) = m - 1 := IntWalk.i64_in _ (by omega)
      by_cases hn : m - 1 < (nn : Int)
      · have HRT : Hid (roomV x m = -1) := Lib.hid (roomV_neg (by have := HNV.out; omega))
        go_wp2_with (fail)
        go_ret
        exact ⟨by rw [HRT.out]; rfl, HEA.out⟩
      · have hw2 : IntKind.i64.wrap (1 + (nn : Int)) = 1 + (nn : Int) := IntWalk.i64_in _ (by omega)
        have hw3 : IntKind.i64.wrap (m - (1 + (nn : Int))) = m - (1 + (nn : Int)) := IntWalk.i64_in _ (by omega)
        have HMN : Hid (0 ≤ m - (1 + (nn : Int))) := Lib.hid (by omega)
        go_wp2_with (fail)
        go_loopw [1, 5] (fun v i wr => ∃ (k : Nat) (q : Int), k ≤ ne ∧ i = .int .i64 k ∧ v = .int .i64 q ∧ q = m - (1 + (nn : Int)) - (entN (x.es.take k) : Int) ∧ 0 ≤ q ∧ Ext wa wr) (fun _ i _ => ne - (intOf i).toNat)
        case atStart => exact ⟨0, _, Nat.zero_le _, rfl, rfl, by simp [entN], HMN.out, Ext.refl _⟩
        case round =>
          clear a1 a2 a3 lG
          obtain ⟨k, q, hk, rfl, rfl, hq, hq0, hE⟩ := hrel
          obtain ⟨⟨a1, a2, a3⟩, lG⟩ := HX.out wr hE
          have HEr := Lib.hid hE; clear hE
          have HQ := Lib.hid hq; clear hq
          have hqm : q ≤ m := by have := HQ.out; omega
          by_cases hlt : k < ne
          · obtain ⟨p1, o1, z1, q1, rfl, hp1', hz1, c0, c1, hq1', hn1'⟩ := RdE.at_ (HEn.out.ext (by repeat (first | exact Ext.refl _ | refine Ext.drew ?_ | refine Ext.drewN ?_ _ | refine Ext.alloc ?_ _ | refine Ext.trans ?_ (Hid.out (by assumption)))) : RdE wr _ _) hlt
            have HTK := Lib.hid (entN_take hz1)
            have HLE := Lib.hid (entN_le x.es (k + 1))
            obtain ⟨Aq1, cq1, rfl⟩ := hq1'.lenv
            clear hq1' hz1 hn1' c1
            generalize hzl : z1.1.length = zl at *
            clear hzl
            by_cases hq1 : q < 1
            · have HRT : Hid (roomV x m = -1) := Lib.hid (roomV_neg (by have := HNV.out; have := HQ.out; have := HTK.out; have := HLE.out; omega))
              go_wp2_with (fail)
              go_ret
              exact ⟨by rw [HRT.out]; rfl, HEA.out.trans HEr.out⟩
            · have hw4 : IntKind.i64.wrap (q - 1) = q - 1 := IntWalk.i64_in _ (by omega)
              by_cases hzl : q - 1 < (zl : Int)
              · have HRT : Hid (roomV x m = -1) := Lib.hid (roomV_neg (by have := HNV.out; have := HQ.out; have := HTK.out; have := HLE.out; omega))
                go_wp2_with (fail)
                go_ret
                exact ⟨by rw [HRT.out]; rfl, HEA.out.trans HEr.out⟩
              · have hw5 : IntKind.i64.wrap (1 + (zl : Int)) = 1 + (zl : Int) := IntWalk.i64_in _ (by omega)
                have hw6 : IntKind.i64.wrap (q - (1 + (zl : Int))) = q - (1 + (zl : Int)) := IntWalk.i64_in _ (by omega)
                go_wp2_with (fail)
                go_roundw
                case rel => exact ⟨k + 1, _, by omega, by go_num, rfl, by have := HQ.out; have := HTK.out; omega, by omega, HEr.out⟩
                case measure => simp [intOf]; omega
          · obtain rfl : k = ne := by omega
            have HQ2 : Hid (q = m - (1 + (nn : Int)) - (entN x.es : Int)) := Lib.hid (by have h := HQ.out; rw [List.take_of_length_le (by have := HEL.out; omega)] at h; exact h)
            clear hlt HQ
            go_wp2_with (fail)
            go_loopw [1, 6] (fun v i wr => ∃ (k : Nat) (r : Int), k ≤ np ∧ i = .int .i64 k ∧ v = .int .i64 r ∧ r = q - (nodesL (x.ps.take k) : Int) ∧ 0 ≤ r ∧ Ext wa wr) (fun _ i _ => np - (intOf i).toNat)
            case atStart => exact ⟨0, _, Nat.zero_le _, rfl, rfl, by simp [nodesL], hq0, HEr.out⟩
            case round =>
              clear a1 a2 a3 lG HEr
              obtain ⟨j, r, hj, rfl, rfl, hr, hr0, hE⟩ := hrel
              obtain ⟨⟨a1, a2, a3⟩, lG⟩ := HX.out wr hE
              have HEr := Lib.hid hE; clear hE
              have HR := Lib.hid hr; clear hr
              have hrm : r ≤ 1000000 := by have := HR.out; omega
              by_cases hlt : j < np
              · obtain ⟨p1, o1, rfl, hp1', hc1⟩ := HP.out (by omega)
                have hx1 := List.getElem?_eq_getElem (show j < x.ps.length by have := HPL.out; omega)
                obtain ⟨ds1, hd1, hu1, hr1⟩ := hc1 j _ hx1
                have HTK := Lib.hid (nodesL_take hx1)
                have HLE := Lib.hid (nodesL_le x.ps (j + 1))
                clear hx1 hc1
                generalize x.ps[j]'(by have := HPL.out; omega) = z1 at *
                obtain ⟨u0, u1, u2, u3, rfl⟩ : ∃ a b c d, ds1 = [a, b, c, d] := by
                  match ds1, hd1 with
                  | [a, b, c, d], _ => exact ⟨a, b, c, d, rfl⟩
                have HEw : Hid (Ext w wr) := Lib.hid (by repeat (first | exact Ext.refl _ | refine Ext.drew ?_ | refine Ext.drewN ?_ _ | refine Ext.alloc ?_ _ | refine Ext.trans ?_ (Hid.out (by assumption))))
                have k0 : wr.cell? ⟨p1, o1 + j * 4, none⟩ = some u0 := HEw.out.cell (by simpa using hu1 0 _ rfl)
                have k1 : wr.cell? ⟨p1, o1 + j * 4 + 1, none⟩ = some u1 := HEw.out.cell (by simpa using hu1 1 _ rfl)
                have k2 : wr.cell? ⟨p1, o1 + j * 4 + 2, none⟩ = some u2 := HEw.out.cell (by simpa using hu1 2 _ rfl)
                have k3 : wr.cell? ⟨p1, o1 + j * 4 + 3, none⟩ = some u3 := HEw.out.cell (by simpa using hu1 3 _ rfl)
                have lp := World.block_lt_of_cell? _ _ k0
                obtain ⟨s, hs⟩ : ∃ s, roomV z1 r = s := ⟨_, rfl⟩
                have CE : Hid (∀ W, Ext wr W → Calls Tryz.prog 33 #[.agg #[u0, u1, u2, u3], .int .i64 r] W fun e w' => e = .returned (.int .i64 s) ∧ Ext W w') := Lib.hid (fun W hW => by
                  have := IH.out _ z1 r W hrm hr0 (hr1.ext (HEw.out.trans hW))
                  rw [hs] at this
                  exact this)
                have HS2 := Lib.hid hs
                clear hs hr1 hd1 hu1 hp1'
                by_cases hz : s < 0
                · have HRT : Hid (roomV x m = -1) := Lib.hid (roomV_neg (by
                    have h1 : r < nodesV z1 := by
                      have h2 := HS2.out
                      unfold roomV at h2
                      split at h2 <;> omega
                    have := HNV.out; have := HQ2.out; have := HR.out; have := HTK.out; have := HLE.out; omega))
                  go_wp2_with (go_at_call 33; refine (CE.out _ (Ext.refl _)).mono ?_; rintro e w1 ⟨rfl, hE1⟩; have HE1 := Lib.hid hE1; clear hE1)
                  go_ret
                  exact ⟨by rw [HRT.out]; rfl, (by repeat (first | exact Ext.refl _ | refine Ext.drew ?_ | refine Ext.drewN ?_ _ | refine Ext.alloc ?_ _ | refine Ext.trans ?_ (Hid.out (by assumption))))⟩
                · have HZ : Hid (s = r - nodesV z1 ∧ 0 ≤ s) := Lib.hid (by
                    have h2 := HS2.out
                    unfold roomV at h2
                    split at h2 <;> omega)
                  go_wp2_with (go_at_call 33; refine (CE.out _ (Ext.refl _)).mono ?_; rintro e w1 ⟨rfl, hE1⟩; have HE1 := Lib.hid hE1; clear hE1)
                  go_roundw
                  case rel => exact ⟨j + 1, _, by omega, by go_num, rfl, by have := HR.out; have := HTK.out; have := HZ.out.1; omega, HZ.out.2, HEr.out.trans HE1.out⟩
                  case measure => simp [intOf]; omega
              · obtain rfl : j = np := by omega
                have HRT : Hid (roomV x m = r) := Lib.hid (by
                  have h := HR.out
                  rw [List.take_of_length_le (by have := HPL.out; omega)] at h
                  have := HNV.out; have := HQ2.out
                  rw [roomV_pos (by omega)]
                  omega)
                go_wp2_with (fail)
                go_ret
                exact ⟨by rw [HRT.out]; rfl, HEA.out.trans HEr.out⟩

def smallV (x : Val) (m : Int) : Bool := decide ((nodesV x : Int) ≤ m)
set_option maxRecDepth 100000 in
set_option maxHeartbeats 1000000 in
theorem rsmall_any (d : Nat) (cs : List Value) (x : Val) (m : Int) (w : World) (hm : m ≤ 1000000) (hm0 : 0 ≤ m) (hx : RdVal d w cs x) :
    Calls Tryz.prog 11 #[.agg cs.toArray, .int .i64 m] w fun e w' => e = .returned (.bool (smallV x m)) ∧ Ext w w' := by
  have HC := Lib.hid (fun W (hW : Ext w W) => rroom_any d cs x m W hm hm0 (hx.ext hW))
  cases d with
  | zero => exact hx.elim
  | succ d =>
    obtain ⟨An, nn, cn, Ap, np, cp, ve, rfl, -⟩ := hx
    have HE2 : Hid (Ext w (w.alloc (.cells #[.int .i64 x.N, .slice An nn cn, .slice Ap np cp, ve] 26))) := Lib.hid ((Ext.refl w).alloc _)
    obtain ⟨r, hr⟩ : ∃ r, roomV x m = r := ⟨_, rfl⟩
    have HSM : Hid (smallV x m = decide (0 ≤ r)) := Lib.hid (by
      unfold smallV
      unfold roomV at hr
      rw [Bool.eq_iff_iff, decide_eq_true_eq, decide_eq_true_eq]
      split at hr <;> omega)
    rw [hr] at HC
    clear hr
    by_cases h0 : 0 ≤ r
    · have HR : Hid (decide (0 ≤ r) = true) := Lib.hid (decide_eq_true h0)
      go_enter Tryz.func11, Tryz.ntmps11
      go_wp2_with (go_at_call 33; refine (HC.out _ HE2.out).mono ?_; rintro e w1 ⟨rfl, hE1⟩; have HE1 := Lib.hid hE1; clear hE1)
      go_ret
      exact ⟨ret_bool (by rw [HSM.out]; first | done | rfl | (rw [HR.out]; first | done | rfl)), HE2.out.trans HE1.out⟩
    · have HR : Hid (decide (0 ≤ r) = false) := Lib.hid (decide_eq_false h0)
      go_enter Tryz.func11, Tryz.ntmps11
      go_wp2_with (go_at_call 33; refine (HC.out _ HE2.out).mono ?_; rintro e w1 ⟨rfl, hE1⟩; have HE1 := Lib.hid hE1; clear hE1)
      go_ret
      exact ⟨ret_bool (by rw [HSM.out]; first | done | rfl | (rw [HR.out]; first | done | rfl)), HE2.out.trans HE1.out⟩
end Go.Proofs.YthldgioggjpnpaaGreat
