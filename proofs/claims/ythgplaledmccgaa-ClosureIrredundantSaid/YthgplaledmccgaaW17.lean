/-
  Contract: the law awake: the program answers the example.
-/
import Derived.Test.YthgplaledmccgaaW16
namespace Go.Proofs.Ythgplaledmccgaa
open Go.RowKit

theorem Rd1.lit {α : Type} (w : World) (t : TypeId) (enc : α → Value) (l : List α) (cs : Array Value) (g n : Nat) (hcs : cs = (l.map enc).toArray) (hg : g = w.heap.size) (hn : n = l.length) (hm : l.length ≤ maxLen) :
    Rd1 (w.alloc (.cells cs t)) enc (.slice (some ⟨g, 0, none⟩) n n) l := by
  subst hg
  exact (Own.lit w w.heap.size t enc l cs n hcs hn (Nat.le_refl _) hm).rd

def uA : List Nm := [[97], [98], [99]]
def rsA : List RuleN := [([[97]], [98]), ([[98]], [99])]
theorem awake1 : check2E uA rsA [[97]] = 0 := by decide +kernel
theorem awake2 : closeN uA rsA [[97]] = uA := by decide +kernel
theorem awake3 : checkE uA rsA = 0 := by decide +kernel
theorem awake4 : (allN uA rsA).length = 4 := by decide +kernel

theorem rdr2 {W : World} {g : Nat} {t : TypeId} {q1 q2 : Value} {r1 r2 : RuleN} (hB : Blk W g t #[q1, encS r1.2, q2, encS r2.2]) (h1 : RdS W q1 r1.1) (h2 : RdS W q2 r2.1) : RdR W (.slice (some ⟨g, 0, none⟩) 2 2) [r1, r2] := by
  refine ⟨_, _, _, rfl, rfl, Nat.le_refl _, by unfold maxLen; omega, fun _ => ⟨g, 0, rfl, hB.lt, fun j r hj => ?_⟩⟩
  match j with
  | 0 =>
    simp only [List.getElem?_cons_zero, Option.some.injEq] at hj
    subst hj
    exact ⟨q1, hB.cell 0, hB.cell 1, h1⟩
  | 1 =>
    simp only [List.getElem?_cons_succ, List.getElem?_cons_zero, Option.some.injEq] at hj
    subst hj
    exact ⟨q2, hB.cell 2, hB.cell 3, h2⟩
  | j + 2 => simp at hj

set_option maxRecDepth 100000 in
set_option maxHeartbeats 1000000 in
theorem awake_any (w : World) : Calls Try.prog 15 #[] w fun e w' => e = .returned (.bool true) ∧ Ext w w' := by
  have A1 := Lib.hid awake1
  have A2 := Lib.hid awake2
  have A3 := Lib.hid awake3
  have A4 := Lib.hid awake4
  have hm1 : ∀ x ∈ uA, x.length ≤ maxLen := by intro x hx; simp [uA] at hx; unfold maxLen; rcases hx with rfl | rfl | rfl <;> simp
  have HM1 := Lib.hid hm1; clear hm1
  go_enter Try.func15, Try.ntmps15
  go_wp2_with (fail)
  let W1 := w.alloc (.cells #[encS [97]] 9)
  let W2 := W1.alloc (.cells #[encS [98]] 9)
  let W3 := W2.alloc (.cells #[.slice (some ⟨w.heap.size, 0, none⟩) 1 1, encS [98], .slice (some ⟨w.heap.size + 1, 0, none⟩) 1 1, encS [99]] 35)
  have hr3 : RdR W3 (.slice (some ⟨w.heap.size + 1 + 1, 0, none⟩) 2 2) rsA := by
    refine rdr2 (Blk.new' _ _ _ _ (by simp [W2, W1])) ?_ ?_
    · exact (Rd1.lit w 9 encS [[97]] _ _ _ rfl rfl rfl (by unfold maxLen; simp)).ext (((Ext.refl _).alloc _).alloc _)
    · exact (Rd1.lit W1 9 encS [[98]] _ _ _ rfl (by simp [W1]) rfl (by unfold maxLen; simp)).ext ((Ext.refl _).alloc _)
  have hR3 : InR W3 (.slice (some ⟨w.heap.size + 1 + 1, 0, none⟩) 2 2) rsA := ⟨hr3, by decide, by decide⟩
  have hE3 : Ext w W3 := (((Ext.refl _).alloc _).alloc _).alloc _
  have hz3 : W3.heap.size = w.heap.size + 1 + 1 + 1 := by simp [W3, W2, W1]
  have hu4 : RdS (W3.alloc (.cells #[encS [97], encS [98], encS [99]] 9)) (.slice (some ⟨w.heap.size + 1 + 1 + 1, 0, none⟩) 3 3) uA :=
    Rd1.lit W3 9 encS uA _ _ _ rfl hz3.symm rfl (by unfold maxLen; simp [uA])
  have hs5 : RdS ((W3.alloc (.cells #[encS [97], encS [98], encS [99]] 9)).alloc (.cells #[encS [97]] 9)) (.slice (some ⟨w.heap.size + 1 + 1 + 1 + 1, 0, none⟩) 1 1) [[97]] :=
    Rd1.lit _ 9 encS [[97]] _ _ _ rfl (by simp [hz3]) rfl (by unfold maxLen; simp)
  refine Calls.mono (close_ok _ _ _ uA rsA [[97]] _ ⟨hu4.ext ((Ext.refl _).alloc _), HM1.out, by decide⟩ (hR3.ext (((Ext.refl _).alloc _).alloc _)) hs5 A1.out) ?_
  rintro e w6 ⟨v6, rfl, hv6, hE6⟩
  have hR6 := Lib.hid (hR3.ext ((((Ext.refl _).alloc _).alloc _).trans hE6))
  have hEw6 : Ext w w6 := ((hE3.alloc _).alloc _).trans hE6
  have HE6 := Lib.hid hEw6
  have HV6 := Lib.hid hv6
  clear hr3 hR3 hE3 hz3 hu4 hs5 hE6 hEw6 hv6
  clear W1 W2 W3
  go_wp2_with (fail)
  have hu7 : RdS (w6.alloc (.cells #[encS [97], encS [98], encS [99]] 9)) (.slice (some ⟨w6.heap.size, 0, none⟩) 3 3) uA :=
    Rd1.lit w6 9 encS uA _ _ _ rfl rfl rfl (by unfold maxLen; simp [uA])
  refine Calls.mono (all_any _ _ uA rsA 9 _ ⟨hu7, HM1.out, by decide⟩ (hR6.out.ext ((Ext.refl _).alloc _)) A3.out (by decide) (by decide)) ?_
  rintro e w8 (⟨hlt, -⟩ | ⟨-, v8, rfl, hss8, hE8⟩)
  · rw [A4.out] at hlt
    exact absurd hlt (by decide)
  have HE8 := Lib.hid (((Ext.refl w6).alloc _).trans hE8)
  obtain ⟨qs8, h81, h82, -⟩ := hss8
  obtain ⟨A8, n8, c8, rfl, hn8, -⟩ := h81.rd
  obtain rfl : n8 = 4 := by rw [← hn8, h82, A4.out]
  clear hu7 hE8 h81 h82 hn8
  have hs9 : RdS (w8.alloc (.cells #[encS [97], encS [98], encS [99]] 9)) (.slice (some ⟨w8.heap.size, 0, none⟩) 3 3) uA :=
    Rd1.lit w8 9 encS uA _ _ _ rfl rfl rfl (by unfold maxLen; simp [uA])
  have hv8 : RdS (w8.alloc (.cells #[encS [97], encS [98], encS [99]] 9)) v6 (closeN uA rsA [[97]]) := HV6.out.ext (HE8.out.alloc _)
  rw [A2.out] at hv8
  have HS9 := Lib.hid hs9; clear hs9
  have HV8 := Lib.hid hv8; clear hv8
  go_wp2_with (go_at_call 20; refine (same_any _ _ uA uA _ HV8.out HS9.out).mono ?_; rintro e w' ⟨rfl, m, rfl⟩; rw [decide_eq_true (rfl : uA = uA)])
  go_ret
  exact ⟨rfl, ((HE6.out.trans HE8.out).alloc _).drewN _⟩
end Go.Proofs.Ythgplaledmccgaa
