/-
  Plain laws: chains and maximal elements.
-/
import Derived.Test.YtciojbjoijedjaaGreatB21
import Derived.Test.YtciojbjoijedjaaGreatB16
namespace Go.Proofs.YtciojbjoijedjaaGreat
open Go.RowKit

/-- a list in which what p holds of comes first -/
theorem part_of {α : Type} {p : α → Bool} : ∀ {l : List α}, l.Pairwise (fun x y => p y = true → p x = true) → (∀ x ∈ l.take (l.countP p), p x = true) ∧ ∀ x ∈ l.drop (l.countP p), p x = false
 | [], _ => by simp
 | x :: r, h => by
  obtain ⟨h1, h2⟩ := List.pairwise_cons.1 h
  obtain ⟨i1, i2⟩ := part_of h2
  cases hp : p x with
  | true =>
   rw [List.countP_cons_of_pos hp]
   refine ⟨fun y hy => ?_, fun y hy => i2 y (by simpa using hy)⟩
   rcases List.mem_cons.1 (by simpa using hy : y ∈ x :: r.take (r.countP p)) with rfl | hy
   ·exact hp
   exact i1 y hy
  | false =>
   have hr : ∀ y ∈ r, p y = false := fun y hy => by
    cases hy2 : p y
    ·rfl
    rw [h1 y hy hy2] at hp; cases hp
   have h0 : (x :: r).countP p = 0 := by
    rw [List.countP_eq_zero]
    intro y hy
    rcases List.mem_cons.1 hy with rfl | hy
    ·simp [hp]
    simp [hr y hy]
   rw [h0]
   refine ⟨by simp, fun y hy => ?_⟩
   rcases List.mem_cons.1 (by simpa using hy : y ∈ x :: r) with rfl | hy
   ·exact hp
   exact hr y hy
structure GoodC (l : Lat) (vs : List Val) (k : Nat) (out : List Int) : Prop where
 mem : ∀ y, y ∈ out ↔ 0 ≤ y ∧ y < k
 nd : out.Nodup
 pw : out.Pairwise (fun x y => leqB l (getV vs x) (getV vs y) = true)
theorem getV_of {vs : List Val} {k : Nat} {v : Val} (h : vs[k]? = some v) : getV vs (k : Int) = v := by
 unfold getV
 simp [h]
section
variable {l : Lat} {vs : List Val} (hO : OkL l) (hel : ∀ v ∈ vs, elemB v l = true)
include hO hel
omit hO in
theorem getV_el {y : Int} {k : Nat} (h : 0 ≤ y ∧ y < k) (hk : k ≤ vs.length) : elemB (getV vs y) l = true := hel _ (List.mem_of_getElem? (getV_at h hk))
theorem chain_good : ∀ (k : Nat) (out : List Int), k ≤ vs.length → chainN l vs k = some out → GoodC l vs k out
 | 0, out, _, h => by cases h; exact ⟨fun y => ⟨fun h => by simp at h, fun h => by omega⟩, List.nodup_nil, List.Pairwise.nil⟩
 | k + 1, out, hk, h => by
  obtain ⟨v, hv⟩ := get_lt (show k < vs.length by omega)
  cases hc : chainN l vs k with
  | none => have := chainN_none hc 1; rw [h] at this; cases this
  | some o1 =>
   rw [chainN_succ hc hv, chainStep] at h
   obtain ⟨m, nd, pw⟩ := chain_good k o1 (by omega) hc
   split at h
   ·rename_i hall
    cases h
    have hve := hel v (List.mem_of_getElem? hv)
    have ge : ∀ {y}, y ∈ o1 → elemB (getV vs y) l = true := fun hy => getV_el hel ((m _).1 hy) (by omega)
    have hp : o1.Pairwise (fun x y => lowAt l vs v y = true → lowAt l vs v x = true) := by
     refine List.Pairwise.imp_of_mem (fun {x y} hx hy hxy hl => ?_) pw
     exact leq_trans l hO _ _ _ (ge hx) (ge hy) hve hxy hl
    obtain ⟨t1, t2⟩ := part_of hp
    have perm : (insL o1 (o1.countP (lowAt l vs v)) (k : Int)).Perm ((k : Int) :: o1) := by
     unfold insL
     refine List.perm_middle.trans ?_
     rw [List.take_append_drop]
    have hkn : (k : Int) ∉ o1 := fun hm => by have := ((m _).1 hm).2; omega
    refine ⟨fun y => ?_, perm.nodup_iff.2 (List.nodup_cons.2 ⟨hkn, nd⟩), ?_⟩
    ·rw [insL_mem, m]; omega
    unfold insL
    have pw' : (o1.take (o1.countP (lowAt l vs v)) ++ o1.drop (o1.countP (lowAt l vs v))).Pairwise (fun x y => leqB l (getV vs x) (getV vs y) = true) := by rw [List.take_append_drop]; exact pw
    obtain ⟨q1, q2, q3⟩ := List.pairwise_append.1 pw'
    refine List.pairwise_append.2 ⟨q1, List.pairwise_cons.2 ⟨fun y hy => ?_, q2⟩, fun x hx y hy => ?_⟩
    ·rw [getV_of hv]
     have h1 := t2 y hy
     have h2 := List.all_eq_true.1 hall y (List.mem_of_mem_drop hy)
     unfold cmpAt at h2
     unfold lowAt at h1
     rw [h1, Bool.false_or] at h2
     exact h2
    rcases List.mem_cons.1 hy with rfl | hy
    ·rw [getV_of hv]; exact t1 x hx
    exact q3 x hx y hy
   cases h
theorem chain_all (h : ∀ (i j : Nat) (x y : Val), j < i → vs[i]? = some x → vs[j]? = some y → (leqB l x y || leqB l y x) = true) : ∀ k, k ≤ vs.length → ∃ out, chainN l vs k = some out
 | 0, _ => ⟨[], rfl⟩
 | k + 1, hk => by
  obtain ⟨o1, h1⟩ := chain_all h k (by omega)
  obtain ⟨v, hv⟩ := get_lt (show k < vs.length by omega)
  have m := (chain_good hO hel k o1 (by omega) h1).mem
  suffices hall : o1.all (cmpAt l vs v) = true from ⟨_, by rw [chainN_succ h1 hv, chainStep, if_pos hall]⟩
  rw [List.all_eq_true]
  intro y hy
  have hy2 := (m y).1 hy
  have := h k y.toNat v (getV vs y) (by omega) hv (getV_at hy2 (by omega))
  unfold cmpAt
  rw [Bool.or_comm]; exact this
end
theorem cmpJ_on {l : Lat} {a b : Val} (hc : checkX l = 0) (ha : elemB a l = true) (hb : elemB b l = true) : cmpJ l a b = (leqB l a b || leqB l b a) := cmpJ_of (checkJ_of hc (by simp [ha, hb])) rfl

/-! ### maximal elements -/
section
variable {l : Lat} {vs : List Val}
variable (hO : OkL l) (hel : ∀ v ∈ vs, elemB v l = true)
include hO hel
end
end Go.Proofs.YtciojbjoijedjaaGreat
