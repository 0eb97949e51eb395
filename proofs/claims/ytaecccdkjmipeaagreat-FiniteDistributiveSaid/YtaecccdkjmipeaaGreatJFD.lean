/-
  The law FiniteDistributive returns true for every input, and its arguments read afterwards as they read before.
  Conditions: none.
-/
import Derived.Test.YtaecccdkjmipeaaGreatF24
import Derived.Test.YtaecccdkjmipeaaGreatF3
import Derived.OpenShut
namespace Go.Proofs.YtaecccdkjmipeaaGreat
open Go.ChangeShapes Go.WideShapes Go.ChangeAt Go.RowKit
theorem Qrz : ownKnob Tryz.prog.godebug = none := by kernel_rfl
theorem QkJ : laidOutB Tryz.prog = true := by kernel_rfl
set_option maxRecDepth 100000 in
theorem finiteDistributive_lifted (os : Os) (started : os.Started) (H : Type) (enc : TypeId × Value → H) :
    ReturnsInHanded {} Tryz.checked os 8 .any (Rows.finiteDistributiveSpec.pre6 enc Tryz.prog Tryz.f8 Rows.finiteDistributiveRow.domain false) (Rows.finiteDistributiveSpec.post enc Tryz.prog Tryz.f8 false true false false) := by
  refine returnsInHanded_of_change (C := Tryz.checked) Qrz started (by kernel_rfl) Tryz.func8
    (ChangeSpec.witness6 (enc := enc) (C := Tryz.checked) false ⟨#[], #[.slice none 0 0, .agg #[.int .i64 0, .int .i64 0, .int .i64 0, .slice none 0 0, .slice none 0 0, .slice none 0 0]], []⟩ 8 (by kernel_rfl) (by kernel_rfl) (by kernel_rfl) (by kernel_rfl)) ?_
  intro W base args ds gs before hval0 hW hcnd _
  have hval : ∀ (j : Nat) t v, Tryz.f8.params[j]? = some t → args[j]? = some v → Value.okWide Tryz.prog W .any base t v := hval0
  have hW' := hW
  obtain ⟨p, q, hA0, hV, rfl, hfz, hnd⟩ := hW
  have hA : DataW.TrodAll enc Tryz.prog W 0 (fun _ => true) true Tryz.f8.params.toList args.toList ds p := hA0
  rw [Tryz.params8] at hA hval
  obtain ⟨v0, vs0, d0, ds0, p0, q0, hargs, rfl, rfl, h0, r0⟩ := trodAll_cons hA
  obtain ⟨v1, vs1, d1, ds1, p1, q1, rfl, rfl, rfl, h1, r1⟩ := trodAll_cons r0
  obtain ⟨rfl, rfl, rfl⟩ := trodAll_nil r1
  obtain rfl : args = #[v0, v1] := by cases args; simp_all
  obtain ⟨rfl, rfl⟩ := trodVars_none hV
  obtain ⟨A0, n0, c0, rfl, -⟩ := okWide_slice Tryz.underlying44 (hval 0 44 v0 rfl rfl)
  have k0 := h0
  have lt0 : ∀ x ∈ p0, x.block < W.heap.size := by obtain ⟨m, hm⟩ := k0; exact DataW.trod_lt m _ _ _ hm
  obtain ⟨fuel0, hf0⟩ := h0
  obtain ⟨y0, hy0⟩ := Qs4 (by simpa [Value.cells] using hf0)
  obtain ⟨cs1, rfl, -⟩ := okWide_struct Tryz.underlying26 (hval 1 26 v1 rfl rfl)
  have k1 := h1
  have lt1 : ∀ x ∈ p1, x.block < W.heap.size := by obtain ⟨m, hm⟩ := k1; exact DataW.trod_lt m _ _ _ hm
  obtain ⟨fuel1, hf1⟩ := h1
  obtain ⟨l1, y1, hy1⟩ := QvH fuel1 cs1.toList _ (by simpa [Value.cells] using hf1)
  clear hA0 hval0
  refine (QsD (QlO y0 y1) W [(.slice A0 n0 c0), (.agg cs1)] rfl (fun i v x hi hx => ?_)).mono fun e W' ⟨he, bel⟩ => ?_
  · match i, hi, hx with
    | 0, hi, hx => simp at hi hx; subst hi hx; exact hy0
    | 1, hi, hx => simp at hi hx; subst hi hx; exact QtZ (l1.trans rfl) hy1
    | i + 2, hi, _ => simp at hi
  subst he
  exact ⟨_, rfl, _, _, _, [], _, [], hW', trodAll_mk1 (shut_bool Tryz.underlying4 _),
    (trodAll_cons_mk (Below.trod QkJ (by kernel_rfl) (of_decide_eq_true (by kernel_rfl)) k0 bel lt0) (trodAll_cons_mk (Below.trod QkJ (by kernel_rfl) (of_decide_eq_true (by kernel_rfl)) k1 bel lt1) trodAll_mk0)), rfl, bel.frame _, fun h => by cases h⟩
theorem Qb0 : Rows.finiteDistributiveRow.holds Tryz.pinned (OpenSpec.ofChange Rows.finiteDistributiveSpec) :=
  OpenClaim.holds_of_wide 8 Tryz.f8 rfl rfl rfl rfl rfl rfl rfl ⟨rfl, rfl, rfl, rfl, rfl⟩ rfl rfl rfl rfl rfl (by kernel_rfl) Tryz.func8 (by kernel_rfl)
    (of_decide_eq_true (by kernel_rfl)) (by unfold Func.isWrapper; first | (rw [if_pos (by decide +kernel)]; kernel_rfl) | (rw [if_neg (by decide +kernel)]; exact ⟨rfl, rfl⟩))
    (fun os started H enc _ => finiteDistributive_lifted os started H enc)
theorem finiteDistributive_proved : Rows.FiniteDistributiveSaid := Qb0
#print axioms finiteDistributive_proved
end Go.Proofs.YtaecccdkjmipeaaGreat
