/-
  Contracts: the reference's Equal; values with entries alone.
-/
import Derived.Test.YthldgioggjpnpaaGreatS15
import Derived.Test.YthldgioggjpnpaaGreatS14
namespace Go.Proofs.YthldgioggjpnpaaGreat
open Go.RowKit

set_option maxRecDepth 100000 in
set_option maxHeartbeats 1000000 in
theorem requal_any (d : Nat) (cs ds : List Value) (x y : Val) (w : World) (hx : RdVal d w cs x) (hy : RdVal d w ds y) :
    Calls Tryz.prog 16 #[.agg cs.toArray, .agg ds.toArray] w fun e w' => e = .returned (.bool (decide (cmpVal x y = 0))) ∧ Ext w w' := by
  have HC := Lib.hid (fun W (hW : Ext w W) => rcompare_any d cs ds x y W (hx.ext hW) (hy.ext hW))
  cases d with
  | zero => exact hx.elim
  | succ d =>
    obtain ⟨An, nn, cn, Ap, np, cp, ve, rfl, -⟩ := hx
    obtain ⟨Bn, mn, dn, Bp, mp, dp, vf, rfl, -⟩ := hy
    have HE2 : Hid (Ext w ((w.alloc (.cells #[.int .i64 x.N, .slice An nn cn, .slice Ap np cp, ve] 26)).alloc (.cells #[.int .i64 y.N, .slice Bn mn dn, .slice Bp mp dp, vf] 26))) := Lib.hid (((Ext.refl w).alloc _).alloc _)
    obtain ⟨r, hr⟩ : ∃ r, cmpVal x y = r := ⟨_, rfl⟩
    rw [hr] at HC ⊢
    clear hr
    by_cases h0 : r = 0
    · have e0 : (r == 0) = true := by simp [h0]
      have HR : Hid (decide (r = 0) = true) := Lib.hid (decide_eq_true h0)
      clear h0
      go_enter Tryz.func16, Tryz.ntmps16
      go_wp2_with (go_at_call 42; refine (HC.out _ HE2.out).mono ?_; rintro e w1 ⟨rfl, hE1⟩; have HE1 := Lib.hid hE1; clear hE1)
      go_ret
      exact ⟨ret_bool HR.out.symm, HE2.out.trans HE1.out⟩
    · have e0 : (r == 0) = false := by simpa using h0
      have HR : Hid (decide (r = 0) = false) := Lib.hid (decide_eq_false h0)
      clear h0
      go_enter Tryz.func16, Tryz.ntmps16
      go_wp2_with (go_at_call 42; refine (HC.out _ HE2.out).mono ?_; rintro e w1 ⟨rfl, hE1⟩; have HE1 := Lib.hid hE1; clear hE1)
      go_ret
      exact ⟨ret_bool HR.out.symm, HE2.out.trans HE1.out⟩

theorem RdE.val {w : World} {u : Value} {es : List En} (h : RdE w u es) : RdVal 1 w [.int .i64 0, nilS, nilS, u] (.mk 0 [] [] es) :=
  ⟨none, 0, 0, none, 0, 0, u, rfl, ⟨none, 0, 0, rfl, rfl, Nat.le_refl _, Nat.zero_le _, fun h => absurd h (by omega)⟩, by simp [Val.nm], h, rfl, Nat.le_refl _, Nat.zero_le _, fun h => absurd h (by omega)⟩
theorem cmpEs_ok : CmpOk cmpEs := by
  have : cmpEs = lexL cmpEn := by funext a b; exact cmpEs_lex a b
  rw [this]
  exact lexL_ok cmpEn_ok
theorem cmpVal_es (a b : List En) : cmpVal (.mk 0 [] [] a) (.mk 0 [] [] b) = 0 ↔ a = b := by
  rw [cmpVal_eq]
  simp only [Val.N, Val.nm, Val.ps, Val.es, lexL, ne_eq, not_true_eq_false, if_false]
  rw [← cmpEs_lex]
  exact ⟨fun h => cmpEs_ok.eq _ _ h, fun h => by rw [h]; exact cmpEs_ok.refl _⟩
theorem requalE_any (u v : Value) (a b : List En) (w : World) (ha : RdE w u a) (hb : RdE w v b) :
    Calls Tryz.prog 16 #[.agg #[.int .i64 0, nilS, nilS, u], .agg #[.int .i64 0, nilS, nilS, v]] w fun e w' => e = .returned (.bool (decide (a = b))) ∧ Ext w w' := by
  have h := requal_any 1 _ _ _ _ w ha.val hb.val
  have e : decide (cmpVal (.mk 0 [] [] a) (.mk 0 [] [] b) = 0) = decide (a = b) := by rw [Bool.eq_iff_iff, decide_eq_true_eq, decide_eq_true_eq]; exact cmpVal_es a b
  rw [e] at h
  exact h

/-- under valid clocks the reference's word is the program's -/
theorem covB_under {x y : En} (hx : validT x.1 = true) (hy : validT y.1 = true) : covB x y = underE x y := by
  unfold covB underE
  rw [belowT_cmp hx hy]
  by_cases h1 : cmpT x.1 y.1 = 1
  · rw [if_pos h1, h1]; rfl
  · rw [if_neg h1]
    by_cases h0 : cmpT x.1 y.1 = 0
    · have e := (cmpT_zero hx hy).1 h0
      rw [if_pos h0, h0, e]
      simp
    · have e : x.1 ≠ y.1 := fun e => h0 ((cmpT_zero hx hy).2 e)
      rw [if_neg h0]
      simp [h1, e]
theorem any_cov {x : En} {es : List En} (hx : validT x.1 = true) (hy : ∀ y ∈ es, validT y.1 = true) : es.any (covB x) = es.any (underE x) := by
  induction es with
  | nil => rfl
  | cons y r ih =>
    rw [List.any_cons, List.any_cons, covB_under hx (hy y List.mem_cons_self), ih (fun z hz => hy z (List.mem_cons_of_mem _ hz))]
theorem since_eq {a b : List En} (ha : ∀ x ∈ a, validT x.1 = true) (hb : ∀ x ∈ b, validT x.1 = true) : sinceW a b = sinceR a b := by
  unfold sinceW sinceR
  refine List.filter_congr fun x hx => ?_
  rw [any_cov (ha x hx) hb]
theorem covers_eq {a b : List En} (ha : ∀ x ∈ a, validT x.1 = true) (hb : ∀ x ∈ b, validT x.1 = true) : coversW a b = coversB a b := by
  unfold coversW coversB
  rw [since_eq hb ha, Bool.eq_iff_iff, decide_eq_true_eq, List.all_eq_true]
  unfold sinceR
  rw [List.length_eq_zero_iff, List.filter_eq_nil_iff]
  refine ⟨fun h x hx => ?_, fun h x hx => ?_⟩
  · have := h x hx
    simpa using this
  · rw [h x hx]; simp
end Go.Proofs.YthldgioggjpnpaaGreat
