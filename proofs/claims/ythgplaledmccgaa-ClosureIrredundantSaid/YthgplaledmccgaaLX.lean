/-
  The walk of the law ClosureIrredundant: it returns true, whatever comes in.
-/
import Derived.Test.YthgplaledmccgaaSpec21
import Derived.Test.YthgplaledmccgaaLR
import Derived.Test.YthgplaledmccgaaW20
import Derived.Test.YthgplaledmccgaaSpec11
import Derived.Deep.RegionLaw
import Derived.BigQuiet
import Derived.Deep.DeepCutAuto
namespace Go.Proofs.Ythgplaledmccgaa
open Go.RowKit

theorem rdR_toN {w : World} {v : Value} {rs : List RuleN} (h : RdR w v rs) : ∃ qs : List (Value × Nm), RdN w 2 encQS' v qs ∧ qs.map (·.2) = rs.map (·.2) ∧
    ∀ (j : Nat) (p : Value × Nm) (r : RuleN), qs[j]? = some p → rs[j]? = some r → RdS w p.1 r.1 := by
  obtain ⟨A, n, c, rfl, hl, hnc, hcm, hcell⟩ := h
  by_cases hn : 0 < n
  · obtain ⟨b, off, rfl, hb, hc⟩ := hcell hn
    refine ⟨rs.mapIdx fun j r => ((w.cell? ⟨b, off + j * 2, none⟩).getD (.bool false), r.2), ?_, ?_, ?_⟩
    · refine ⟨_, _, _, rfl, by simpa using hl, hnc, hcm, fun _ => ⟨b, off, rfl, hb, fun j x hj i v hi => ?_⟩⟩
      rw [List.getElem?_mapIdx] at hj
      cases hr : rs[j]? with
      | none => rw [hr] at hj; cases hj
      | some r =>
        rw [hr] at hj
        injection hj with hj
        subst hj
        obtain ⟨q, c0, c1, -⟩ := hc j r hr
        rcases i with _ | _ | i
        · injection hi with hi
          rw [c0, Option.getD_some] at hi
          subst hi
          simpa using c0
        · injection hi with hi
          subst hi
          simpa [Nat.add_assoc] using c1
        · cases hi
    · apply List.ext_getElem?
      intro j
      simp only [List.getElem?_map, List.getElem?_mapIdx, Option.map_map]
      rfl
    · intro j p r hp hr
      rw [List.getElem?_mapIdx, hr] at hp
      injection hp with hp
      subst hp
      obtain ⟨q, c0, -, g⟩ := hc j r hr
      rw [c0]; exact g
  · obtain rfl : n = 0 := by omega
    obtain rfl : rs = [] := by cases rs <;> simp_all
    exact ⟨[], ⟨_, _, _, rfl, rfl, hnc, hcm, fun h => absurd h hn⟩, rfl, fun j p r h => by simp at h⟩

/-- nothing in these rules can go -/
structure Irr (u : NmL) (rs gs : List RuleN) : Prop where
  eqe : eqE u rs gs = 0
  eqb : eqB u rs gs = true
  len : gs.length ≤ rs.length
  ce : ∀ i (hi : i < gs.length), entE u (gs.take i ++ gs.drop (i + 1)) gs[i] = 0
  cb : ∀ i (hi : i < gs.length), entB u (gs.take i ++ gs.drop (i + 1)) gs[i] = false
  te : ∀ r ∈ gs, ∀ k, k < r.1.length → entE u gs (r.1.take k ++ r.1.drop (k + 1), r.2) = 0
  tb : ∀ r ∈ gs, ∀ k, k < r.1.length → entB u gs (r.1.take k ++ r.1.drop (k + 1), r.2) = false
theorem Irr.of {u : NmL} {rs : List RuleN} (h0 : checkE u rs = 0) : Irr u rs (reduceR u rs) := by
  have hok := reduceR_ok h0
  have hg := check_of h0 hok
  have hr0 : rulesE u (reduceR u rs) = 0 := rulesE_ok.2 hok
  have hk : ∀ i, ∀ r ∈ (reduceR u rs).take i ++ (reduceR u rs).drop (i + 1), okRule u r := fun i r hr => hok r (by
    rcases List.mem_append.1 hr with h | h
    · exact List.mem_of_mem_take h
    · exact List.mem_of_mem_drop h)
  refine ⟨by unfold eqE; rw [if_pos h0]; exact hr0, by rw [eqB_eq h0 hr0]; exact reduceR_eq h0, reduceR_len u rs, ?_, ?_, ?_, ?_⟩
  · intro i hi
    unfold entE
    rw [if_pos (check_of h0 (hk i))]
    exact ruleE_ok.2 (hok _ (List.getElem_mem hi))
  · intro i hi
    have := entB_eq (check_of h0 (hk i)) (hok _ (List.getElem_mem hi))
    rw [this]
    exact reduceR_irr h0 hi
  · intro r hr k hk
    unfold entE
    rw [if_pos hg]
    exact ruleE_ok.2 (less_ok (hok r hr) k)
  · intro r hr k hk
    rw [entB_eq hg (less_ok (hok r hr) k)]
    exact reduceR_tight h0 hr hk
theorem reduceR_pr {u : NmL} {rs : List RuleN} {m : Nat} (h : ∀ r ∈ rs, r.1.length ≤ m) : ∀ r ∈ reduceR u rs, r.1.length ≤ m := by
  intro r hr
  obtain ⟨s, hs, rfl⟩ := List.mem_map.1 (reduceR_mem r hr)
  exact Nat.le_trans (shortR_sub u rs s).length_le (h s hs)
end Go.Proofs.Ythgplaledmccgaa
