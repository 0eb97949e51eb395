/-
  Plain words: meets; joins of lists; maximal elements; chains.
  Contracts: meets; joins of lists; maximal elements.
-/
import Derived.Test.YtnjmbgnaplomaaaGreatB12
import Derived.Test.YtnjmbgnaplomaaaGreatA4
namespace Go.Proofs.YtnjmbgnaplomaaaGreat
open Go.RowKit

mutual
/-- the greatest lower bound of two elements -/
def meetV : Lat → Val → Val → Val
 | .mk k lo hi nm ps rs, a, b =>
  if k == 4 || k == 10 then .mk 0 (itr a.nm b.nm) [] []
  else if k == 5 then .mk 0 ((meetM ps (a.nm.zip a.ps) b).map Prod.fst) ((meetM ps (a.nm.zip a.ps) b).map Prod.snd) []
  else if k == 6 then .mk 0 [] (meetZ ps a.ps b.ps) []
  else match (if k == 7 then meetX ps a.ps b.ps else none) with
   | some v => v
   | none => if leqB (.mk k lo hi nm ps rs) a b then a else if leqB (.mk k lo hi nm ps rs) b a then b else Val.zero
def meetM : List Lat → List (Nm × Val) → Val → List (Nm × Val)
 | [], _, _ => []
 | q :: _, l, b => l.filterMap fun x => match partOf b x.1 with
  | none => none
  | some y => if eqV (meetV q x.2 y) (bottomC q).1 then none else some (x.1, meetV q x.2 y)
def meetZ : List Lat → List Val → List Val → List Val
 | q :: r, x :: a, y :: b => meetV q x y :: meetZ r a b
 | _, _, _ => []
def meetX : List Lat → List Val → List Val → Option Val
 | [_, q], [x1, x2], [y1, y2] => if eqV x1 y1 then some (.mk 0 [] [x1, meetV q x2 y2] []) else none
 | _, _, _ => none
end
def meetF (q : Lat) (b : Val) (x : Nm × Val) : Option (Nm × Val) := match partOf b x.1 with
 | none => none
 | some y => if eqV (meetV q x.2 y) (bottomC q).1 then none else some (x.1, meetV q x.2 y)
theorem meetM_map (q : Lat) (r : List Lat) (l : List (Nm × Val)) (b : Val) : meetM (q :: r) l b = l.filterMap (meetF q b) := by rw [meetM]; rfl
theorem meetV_eq (l : Lat) (a b : Val) : meetV l a b =
  if l.k == 4 || l.k == 10 then .mk 0 (itr a.nm b.nm) [] []
  else if l.k == 5 then .mk 0 ((meetM l.ps (a.nm.zip a.ps) b).map Prod.fst) ((meetM l.ps (a.nm.zip a.ps) b).map Prod.snd) []
  else if l.k == 6 then .mk 0 [] (meetZ l.ps a.ps b.ps) []
  else match (if l.k == 7 then meetX l.ps a.ps b.ps else none) with
   | some v => v
   | none => if leqB l a b then a else if leqB l b a then b else Val.zero := by
 cases l with
 | mk k lo hi nm ps rs => rw [meetV]; rfl
section
variable {q : Lat} {b : Val} {x : Nm} {p y : Val}
end
theorem fm_step {α β : Type} {F : α → Option β} {l : List α} {k : Nat} {x : α} (h : l[k]? = some x) : (l.take (k + 1)).filterMap F = (l.take k).filterMap F ++ (F x).toList := by
 rw [List.take_add_one, h, List.filterMap_append]
 cases hf : F x <;> simp [hf]
theorem cgM {tt : TypeId} {a d : AV} {es es' fs fs' : List (List AV)} {tk tk2 : Option Nat} (h : es = es') (h2 : fs = fs') : some (AObj.var tt [a, .sl es tk, .sl fs tk2, d]) = some (AObj.var tt [a, .sl es' tk, .sl fs' tk2, d]) := by rw [h, h2]
theorem chunk_val (v : Val) : chunkA 4 1 (valL v) = [valC v] := by rw [valC_eq]; rfl
theorem mz_len : ∀ {ls : List Lat} {xs ys : List Val}, xs.length = ls.length → ys.length = ls.length → (meetZ ls xs ys).length = ls.length
 | [], [], [], _, _ => by simp [meetZ]
 | q :: r, x :: a, y :: b, h1, h2 => by rw [meetZ]; simp [mz_len (ls := r) (by simpa using h1) (by simpa using h2)]
 | [], _ :: _, _, h, _ => by simp at h
 | [], [], _ :: _, _, h => by simp at h
 | _ :: _, [], _, h, _ => by simp at h
 | _ :: _, _ :: _, [], _, h => by simp at h
theorem mz_get : ∀ {ls : List Lat} {xs ys : List Val} {k : Nat} {q : Lat} {x y : Val}, ls[k]? = some q → xs[k]? = some x → ys[k]? = some y → (meetZ ls xs ys)[k]? = some (meetV q x y)
 | q :: r, x :: a, y :: b, 0, q', x', y', h1, h2, h3 => by simp at h1 h2 h3; subst h1 h2 h3; rw [meetZ]; rfl
 | q :: r, x :: a, y :: b, k + 1, q', x', y', h1, h2, h3 => by rw [meetZ]; exact mz_get (ls := r) (by simpa using h1) (by simpa using h2) (by simpa using h3)
 | [], _, _, _, _, _, _, h, _, _ => by simp at h
 | _ :: _, [], _, _, _, _, _, _, h, _ => by simp at h
 | _ :: _, _ :: _, [], _, _, _, _, _, _, h => by simp at h
theorem meetV_else {l : Lat} {a b : Val} (h4 : l.k ≠ 4) (h10 : l.k ≠ 10) (h5 : l.k ≠ 5) (h6 : l.k ≠ 6) (hx : l.k = 7 → meetX l.ps a.ps b.ps = none) :
  meetV l a b = if leqB l a b then a else if leqB l b a then b else Val.zero := by
 rw [meetV_eq]
 simp only [beq_eq_false_iff_ne.2 h4, beq_eq_false_iff_ne.2 h10, beq_eq_false_iff_ne.2 h5, beq_eq_false_iff_ne.2 h6, Bool.or_self, Bool.false_eq_true, if_false]
 by_cases h7 : l.k = 7
 ·rw [if_pos (beq_iff_eq.2 h7), hx h7]
 ·rw [if_neg (by simpa using h7)]

/-- a register somewhere? -/
def regsB : Lat → Bool
 | .mk k _ _ _ ps _ => k == 9 || regsL ps
where regsL : List Lat → Bool
 | [] => false
 | p :: r => regsB p || regsL r
theorem regsL_any : ∀ l : List Lat, regsB.regsL l = l.any regsB
 | [] => rfl
 | p :: r => by rw [regsB.regsL, List.any_cons, regsL_any r]
theorem regsB_eq (l : Lat) : regsB l = (l.k == 9 || l.ps.any regsB) := by
 cases l with
 | mk k lo hi nm ps rs => rw [regsB, regsL_any]; rfl

/-- joins of lists -/
def foldJ (l : Lat) (vs : List Val) : Val := vs.foldl (joinV l) (bottomV l)
theorem foldJ_succ {l : Lat} {vs : List Val} {k : Nat} {x : Val} (h : vs[k]? = some x) : foldJ l (vs.take (k + 1)) = joinV l (foldJ l (vs.take k)) x := by
 unfold foldJ; rw [List.take_add_one, h]; simp
def joinAllV (l : Lat) (vs : List Val) : Val × Int := if checkJ l vs = 0 then (foldJ l vs, 0) else (Val.zero, checkJ l vs)
/-- all joins of the list's beginnings are short elements -/
def FoldOk (l : Lat) (vs : List Val) : Prop := JoL l ∧ (∀ v ∈ vs, SmV 500000 v) ∧ ∀ k, k ≤ vs.length → elemB (foldJ l (vs.take k)) l = true ∧ SmV 500000 (foldJ l (vs.take k))
theorem all_take {α : Type} {p : α → Bool} {l : List α} {k : Nat} {x : α} (h : l[k]? = some x) : (l.take (k + 1)).all p = ((l.take k).all p && p x) := by
 rw [List.take_add_one, h]; simp
theorem cgVal {tt : TypeId} {v w : Val} (h : v = w) : some (AObj.var tt (valL v)) = some (AObj.var tt (valL w)) := by rw [h]
end Go.Proofs.YtnjmbgnaplomaaaGreat

namespace Go.Proofs.YtnjmbgnaplomaaaGreat
open Go.RowKit
/-- checked all the way down -/
inductive ChL : Lat → Prop
 | mk (l : Lat) (h : checkX l = 0) (hp : ∀ p ∈ l.ps, ChL p) : ChL l
theorem ChL.ok {l : Lat} (h : ChL l) : checkX l = 0 := by cases h; assumption
theorem ChL.part {l : Lat} (h : ChL l) : ∀ p ∈ l.ps, ChL p := by cases h; assumption
end Go.Proofs.YtnjmbgnaplomaaaGreat
