/-
  Plain words: meets; joins of lists; maximal elements; chains.
  Contracts: meets; joins of lists; maximal elements.
-/
import Derived.Test.YtciojbjoijedjaaGreatB12
import Derived.Test.YtciojbjoijedjaaGreatA4
namespace Go.Proofs.YtciojbjoijedjaaGreat
open Go.RowKit

mutual
/-- the greatest lower bound of two elements -/
def meetV : Lat → Val → Val → Val
 | .mk k lo hi nm ps rs, a, b =>
  if k == 4 || k == 10 then .mk 0 (itr a.nm b.nm) [] []
  else if k == 5 then .mk 0 ((meetM ps (a.nm.zip a.ps) b).map Prod.fst) ((meetM ps (a.nm.zip a.ps) b).map Prod.snd) []
  else if k == 6 then .mk 0 [] (meetZ ps a.ps b.ps) []
  else match (if k == 7 then meetX ps a.ps b.ps else none) with
   | some v => v
   | none => if leqB (.mk k lo hi nm ps rs) a b then a else if leqB (.mk k lo hi nm ps rs) b a then b else Val.zero
def meetM : List Lat → List (Nm × Val) → Val → List (Nm × Val)
 | [], _, _ => []
 | q :: _, l, b => l.filterMap fun x => match partOf b x.1 with
  | none => none
  | some y => if eqV (meetV q x.2 y) (bottomC q).1 then none else some (x.1, meetV q x.2 y)
def meetZ : List Lat → List Val → List Val → List Val
 | q :: r, x :: a, y :: b => meetV q x y :: meetZ r a b
 | _, _, _ => []
def meetX : List Lat → List Val → List Val → Option Val
 | [_, q], [x1, x2], [y1, y2] => if eqV x1 y1 then some (.mk 0 [] [x1, meetV q x2 y2] []) else none
 | _, _, _ => none
end
def meetF (q : Lat) (b : Val) (x : Nm × Val) : Option (Nm × Val) := match partOf b x.1 with
 | none => none
 | some y => if eqV (meetV q x.2 y) (bottomC q).1 then none else some (x.1, meetV q x.2 y)
theorem meetM_map (q : Lat) (r : List Lat) (l : List (Nm × Val)) (b : Val) : meetM (q :: r) l b = l.filterMap (meetF q b) := by rw [meetM]; rfl
theorem meetV_eq (l : Lat) (a b : Val) : meetV l a b =
  if l.k == 4 || l.k == 10 then .mk 0 (itr a.nm b.nm) [] []
  else if l.k == 5 then .mk 0 ((meetM l.ps (a.nm.zip a.ps) b).map Prod.fst) ((meetM l.ps (a.nm.zip a.ps) b).map Prod.snd) []
  else if l.k == 6 then .mk 0 [] (meetZ l.ps a.ps b.ps) []
  else match (if l.k == 7 then meetX l.ps a.ps b.ps else none) with
   | some v => v
   | none => if leqB l a b then a else if leqB l b a then b else Val.zero := by
 cases l with
 | mk k lo hi nm ps rs => rw [meetV]; rfl
section
variable {q : Lat} {b : Val} {x : Nm} {p y : Val}
theorem mf_no (h : partOf b x = none) : meetF q b (x, p) = none := by unfold meetF; rw [h]
theorem mf_bot (h : partOf b x = some y) (h2 : eqV (meetV q p y) (bottomC q).1 = true) : meetF q b (x, p) = none := by unfold meetF; rw [h]; simp only; rw [if_pos h2]
theorem mf_yes (h : partOf b x = some y) (h2 : eqV (meetV q p y) (bottomC q).1 = false) : meetF q b (x, p) = some (x, meetV q p y) := by unfold meetF; rw [h]; simp only; rw [if_neg (by rw [h2]; decide)]
end
theorem fm_step {α β : Type} {F : α → Option β} {l : List α} {k : Nat} {x : α} (h : l[k]? = some x) : (l.take (k + 1)).filterMap F = (l.take k).filterMap F ++ (F x).toList := by
 rw [List.take_add_one, h, List.filterMap_append]
 cases hf : F x <;> simp [hf]
theorem cgM {tt : TypeId} {a d : AV} {es es' fs fs' : List (List AV)} {tk tk2 : Option Nat} (h : es = es') (h2 : fs = fs') : some (AObj.var tt [a, .sl es tk, .sl fs tk2, d]) = some (AObj.var tt [a, .sl es' tk, .sl fs' tk2, d]) := by rw [h, h2]
theorem chunk_val (v : Val) : chunkA 4 1 (valL v) = [valC v] := by rw [valC_eq]; rfl
theorem mz_len : ∀ {ls : List Lat} {xs ys : List Val}, xs.length = ls.length → ys.length = ls.length → (meetZ ls xs ys).length = ls.length
 | [], [], [], _, _ => by simp [meetZ]
 | q :: r, x :: a, y :: b, h1, h2 => by rw [meetZ]; simp [mz_len (ls := r) (by simpa using h1) (by simpa using h2)]
 | [], _ :: _, _, h, _ => by simp at h
 | [], [], _ :: _, _, h => by simp at h
 | _ :: _, [], _, h, _ => by simp at h
 | _ :: _, _ :: _, [], _, h => by simp at h
theorem mz_get : ∀ {ls : List Lat} {xs ys : List Val} {k : Nat} {q : Lat} {x y : Val}, ls[k]? = some q → xs[k]? = some x → ys[k]? = some y → (meetZ ls xs ys)[k]? = some (meetV q x y)
 | q :: r, x :: a, y :: b, 0, q', x', y', h1, h2, h3 => by simp at h1 h2 h3; subst h1 h2 h3; rw [meetZ]; rfl
 | q :: r, x :: a, y :: b, k + 1, q', x', y', h1, h2, h3 => by rw [meetZ]; exact mz_get (ls := r) (by simpa using h1) (by simpa using h2) (by simpa using h3)
 | [], _, _, _, _, _, _, h, _, _ => by simp at h
 | _ :: _, [], _, _, _, _, _, _, h, _ => by simp at h
 | _ :: _, _ :: _, [], _, _, _, _, _, _, h => by simp at h
theorem meetV_else {l : Lat} {a b : Val} (h4 : l.k ≠ 4) (h10 : l.k ≠ 10) (h5 : l.k ≠ 5) (h6 : l.k ≠ 6) (hx : l.k = 7 → meetX l.ps a.ps b.ps = none) :
  meetV l a b = if leqB l a b then a else if leqB l b a then b else Val.zero := by
 rw [meetV_eq]
 simp only [beq_eq_false_iff_ne.2 h4, beq_eq_false_iff_ne.2 h10, beq_eq_false_iff_ne.2 h5, beq_eq_false_iff_ne.2 h6, Bool.or_self, Bool.false_eq_true, if_false]
 by_cases h7 : l.k = 7
 ·rw [if_pos (beq_iff_eq.2 h7), hx h7]
 ·rw [if_neg (by simpa using h7)]

/-- a register somewhere? -/
def regsB : Lat → Bool
 | .mk k _ _ _ ps _ => k == 9 || regsL ps
where regsL : List Lat → Bool
 | [] => false
 | p :: r => regsB p || regsL r
theorem regsL_any : ∀ l : List Lat, regsB.regsL l = l.any regsB
 | [] => rfl
 | p :: r => by rw [regsB.regsL, List.any_cons, regsL_any r]
theorem regsB_eq (l : Lat) : regsB l = (l.k == 9 || l.ps.any regsB) := by
 cases l with
 | mk k lo hi nm ps rs => rw [regsB, regsL_any]; rfl

/-- joins of lists -/
def foldJ (l : Lat) (vs : List Val) : Val := vs.foldl (joinV l) (bottomV l)
theorem foldJ_succ {l : Lat} {vs : List Val} {k : Nat} {x : Val} (h : vs[k]? = some x) : foldJ l (vs.take (k + 1)) = joinV l (foldJ l (vs.take k)) x := by
 unfold foldJ; rw [List.take_add_one, h]; simp
def joinAllV (l : Lat) (vs : List Val) : Val × Int := if checkJ l vs = 0 then (foldJ l vs, 0) else (Val.zero, checkJ l vs)
/-- all joins of the list's beginnings are short elements -/
def FoldOk (l : Lat) (vs : List Val) : Prop := JoL l ∧ (∀ v ∈ vs, SmV 500000 v) ∧ ∀ k, k ≤ vs.length → elemB (foldJ l (vs.take k)) l = true ∧ SmV 500000 (foldJ l (vs.take k))
def meetErr (l : Lat) (a b : Val) : Int := if checkJ l [a, b] ≠ 1 ∧ regsB l = true then 14 else checkJ l [a, b]
def meetJ (l : Lat) (a b : Val) : Val × Int := if meetErr l a b = 0 then (meetV l a b, 0) else (Val.zero, meetErr l a b)
def cmpJ (l : Lat) (a b : Val) : Bool := checkJ l [a, b] == 0 && (leqB l a b || leqB l b a)
/-- does the element x leave v, the one at i, its place? -/
def keepP (l : Lat) (v : Val) (i : Nat) (x : Val × Nat) : Bool := !((!eqV v x.1 && leqB l v x.1) || (eqV v x.1 && decide (x.2 < i)))
/-- is the element at i kept? -/
def keepM (l : Lat) (vs : List Val) (v : Val) (i : Nat) : Bool := vs.zipIdx.all (keepP l v i)
def mxl (l : Lat) (vs : List Val) (k : Nat) : List Int := ((vs.zipIdx.take k).filter fun x => keepM l vs x.1 x.2).map fun x => (x.2 : Int)
def maximalV (l : Lat) (vs : List Val) : List Int × Int := if checkJ l vs = 0 then (mxl l vs vs.length, 0) else ([], checkJ l vs)
theorem zipV_get {l : List Val} {k : Nat} {x : Val} (h : l[k]? = some x) : l.zipIdx[k]? = some (x, k) := by simp [h]
theorem mxl_succ {l : Lat} {vs : List Val} {k : Nat} {x : Val} (h : vs[k]? = some x) : mxl l vs (k + 1) = mxl l vs k ++ (if keepM l vs x k then [(k : Int)] else []) := by
 unfold mxl
 rw [List.take_add_one, zipV_get h, List.filter_append, List.map_append]
 cases hk : keepM l vs x k <;> simp [hk]
theorem mxl_len (l : Lat) (vs : List Val) (k : Nat) : (mxl l vs k).length ≤ k := by
 unfold mxl
 rw [List.length_map]
 exact Nat.le_trans (List.length_filter_le _ _) (by simp; omega)
theorem all_take {α : Type} {p : α → Bool} {l : List α} {k : Nat} {x : α} (h : l[k]? = some x) : (l.take (k + 1)).all p = ((l.take k).all p && p x) := by
 rw [List.take_add_one, h]; simp
theorem cgVal {tt : TypeId} {v w : Val} (h : v = w) : some (AObj.var tt (valL v)) = some (AObj.var tt (valL w)) := by rw [h]
end Go.Proofs.YtciojbjoijedjaaGreat

namespace Go.Proofs.YtciojbjoijedjaaGreat
open Go.RowKit
set_option maxRecDepth 100000 in
set_option maxHeartbeats 1000000 in
theorem idxFL_fc {f : FuncId} [TFn Tryz.prog f] {q : Lat → Bool} (l : List Lat) (hc : ∀ y ∈ l, FC Tryz.prog f [.agg (latL y)] (bl (q y))) : FC Tryz.prog 100 [lats l, .fn f []] (i64 (idxF q l 0)) := by
 refine fc_of_awp [4] Tryz.func100 rfl rfl 19 Tryz.ntmps100 (Nat.le_of_ble_eq_true rfl) ?_
 intro E hN
 refine a_lm 0 rfl (fun hl0 => ?_)
 refine zG ?_
 refine zT ?_
 refine zH ?_
 refine zM ?_
 refine zE ?_
 refine zV ?_
 refine awp_block ?_
 refine awp_loop (fun x : {k : Nat // k ≤ (l).length ∧ idxF q (l.drop k) k = idxF q l 0} => ⟨[(0, lats l), (1, .fn f []), (7, i64 l.length), (8, i64 (x.1 : Nat))], [], 0⟩) (fun x => (l).length - x.1) (⟨0, Nat.zero_le _, by simp⟩) ?_ ?_
 ·
  exact weak_scrub' rfl (zz2 ⟨(cgI (by simp)), rfl, (zz1 trivial)⟩) trivial
 rintro ⟨k, hk, hg⟩
 dsimp only
 refine zG ?_
 refine zB ?_
 refine zN ?_
 refine awp_seq ?_
 refine c_cond rfl (fun h8 => ?_) (fun h8 => ?_)
 ·
  have hlt : k < (l).length := by simpa using h8
  obtain ⟨x, hx⟩ := get_lt hlt
  have hs : idxF q l 0 = if q x then (k : Int) else idxF q (l.drop (k + 1)) (k + 1) := by rw [← hg, drop_get hx]; rfl
  refine zW ?_
  refine awp_seq ?_
  refine awp_block ?_
  refine zG ?_
  refine zM ?_
  refine zS ?_
  refine zA ?_
  refine zM ?_
  refine zM ?_
  refine zM ?_
  refine zP (q_elem rfl rfl rfl k rfl _ (lat_get hx) rfl) ?_
  refine zL ?_
  refine zP (q_callv (hc x (List.mem_of_getElem? hx)) rfl rfl rfl rfl) ?_
  refine zN ?_
  refine c_cond rfl (fun h11 => ?_) (fun h11 => ?_)
  ·
   have h4 := h11
   refine zG ?_
   refine zM ?_
   refine zS ?_
   refine zQ ?_
   exact retI (by rw [hs, if_pos (by simp_all)])
  have hn : idxF q (l.drop (k + 1)) (k + 1) = idxF q l 0 := by rw [hs, if_neg (by simp_all)]
  refine awp_skip ?_
  change AWP _ _ _ _  _
  refine awp_region ?_
  refine zP (q_addi rfl rfl rfl (by omega)) ?_
  refine zM ?_
  refine aops_nil ?_
  exact ⟨⟨k + 1, hlt, hn⟩, weak_scrub' rfl (zz3 ⟨(cgI (by dsimp only; omega)), rfl, trivial⟩) trivial, by dsimp only; omega⟩
 have hge : (l).length ≤ k := by simpa using h8
 refine awp_exit ?_
 change AWP _ _ _ _  _
 refine zG ?_
 refine zS ?_
 refine zQ ?_
 exact retI (by rw [← hg, List.drop_of_length_le hge]; rfl)
set_option maxRecDepth 100000 in
set_option maxHeartbeats 1000000 in
theorem anyFL_fc {f : FuncId} [TFn Tryz.prog f] {q : Lat → Bool} (l : List Lat) (hc : ∀ y ∈ l, FC Tryz.prog f [.agg (latL y)] (bl (q y))) : FC Tryz.prog 60 [lats l, .fn f []] (bl (l.any q)) := by
 refine fc_of_awp [4] Tryz.func60 rfl rfl 9 Tryz.ntmps60 (Nat.le_of_ble_eq_true rfl) ?_
 intro E hN
 refine zG ?_
 refine zS ?_
 refine zA ?_
 refine zM ?_
 refine zM ?_
 refine zP (q_call (idxFL_fc l hc) rfl rfl rfl) ?_
 refine zB ?_
 refine zS ?_
 refine zQ ?_
 exact retB (idxF_any q l 0)
set_option maxRecDepth 100000 in
set_option maxHeartbeats 1000000 in
theorem registers_s (l : Lat) (ih : ∀ q ∈ l.ps, FC Tryz.prog 46 [.agg (latL q)] (bl (regsB q))) : FC Tryz.prog 46 [.agg (latL l)] (bl (regsB l)) := by
 refine fc_of_awp [2] Tryz.func46 rfl rfl 11 Tryz.ntmps46 (Nat.le_of_ble_eq_true rfl) ?_
 intro E hN
 refine zG ?_
 refine zX ?_
 refine zS ?_
 refine zA ?_
 refine zF ?_
 refine zL ?_
 refine zB ?_
 refine zM ?_
 refine s_case 6 rfl (fun h5 => ?_) (fun h5 => ?_)
 ·
  refine uK (w10 h5) ?_
  refine uK (w10 h5) ?_
  refine uK (w10 h5) ?_
  refine zP (q_pick1 rfl rfl h5 rfl) ?_
  refine zS ?_
  refine zQ ?_
  exact retB (by rw [regsB_eq]; simp_all)
 refine uF (w00 h5) ?_
 refine uL (w00 h5) ?_
 refine uP (w00 h5) (q_call (anyFL_fc l.ps ih) rfl rfl rfl) ?_
 refine zP (q_pick0 rfl rfl h5 rfl) ?_
 refine zS ?_
 refine zQ ?_
 exact retB (by rw [regsB_eq]; simp_all)
theorem registers_fc (l : Lat) : FC Tryz.prog 46 [.agg (latL l)] (bl (regsB l)) := registers_s l (fun q hq => registers_fc q)
termination_by l
decreasing_by exact Lat.sizeOf_ps ‹_›
/-- checked all the way down -/
inductive ChL : Lat → Prop
 | mk (l : Lat) (h : checkX l = 0) (hp : ∀ p ∈ l.ps, ChL p) : ChL l
theorem ChL.ok {l : Lat} (h : ChL l) : checkX l = 0 := by cases h; assumption
theorem ChL.part {l : Lat} (h : ChL l) : ∀ p ∈ l.ps, ChL p := by cases h; assumption
set_option maxRecDepth 100000 in
set_option maxHeartbeats 1000000 in
theorem meet_s (l : Lat) (hO : OkL l) (hC : ChL l) (ih : ∀ q ∈ l.ps, ∀ x y, elemB x q = true → elemB y q = true → SmV 500000 x → SmV 500000 y → FC Tryz.prog 48 [.agg (latL q), .agg (valL x), .agg (valL y)] (.agg (valL (meetV q x y)))) (a b : Val) (ha : elemB a l = true) (hb : elemB b l = true) (sa : SmV 500000 a) (sb : SmV 500000 b) : FC Tryz.prog 48 [.agg (latL l), .agg (valL a), .agg (valL b)] (.agg (valL (meetV l a b))) := by
 have na := sa.nm
 have nb := sb.nm
 have npl := hO.small
 refine fc_of_awpR [.c 6 30 4 true] ⟨⟨inferInstance, rfl⟩, trivial⟩ Tryz.func48 rfl rfl 151 Tryz.ntmps48 (Nat.le_of_ble_eq_true rfl) ?_
 intro E hN
 refine zG ?_
 refine zX ?_
 refine zX ?_
 refine zX ?_
 refine zO ?_
 refine zN ?_
 refine zH ?_
 refine zF ?_
 refine zL ?_
 refine zN ?_
 refine awp_block ?_
 refine zH ?_
 refine zB ?_
 refine zT ?_
 refine c_cond rfl (fun h10 => ?_) (fun h10 => ?_)
 ·
  have h2 := h10
  refine zW ?_
  refine c_true rfl h10 ?_
  refine awp_seq ?_
  have hk4 : l.k = 4 ∨ l.k = 10 := by simp_all
  obtain ⟨-, -, -, hsa, -, -⟩ := el_set ha hk4
  obtain ⟨-, -, -, hsb, -, -⟩ := el_set hb hk4
  have hE : meetV l a b = .mk 0 (itr a.nm b.nm) [] [] := by rw [meetV_eq]; rcases hk4 with hk | hk <;> rw [hk] <;> rfl
  refine awp_region ?_
  refine zF ?_
  refine zL ?_
  refine zF ?_
  refine zL ?_
  refine zP (q_call (inter_fc _ _ hsa hsb (by omega)) rfl rfl rfl) ?_
  refine zP (q_build rfl rfl rfl) ?_
  refine zC ?_
  refine zN ?_
  refine awp_ret ?_
  change (resY _ _).bind AV.fzt = some _
  refine ret_r rfl ?_
  rw [hE]; rfl
 have hk4' : l.k ≠ 4 := by simpa using h10
 refine awp_region ?_
 refine zB ?_
 refine zT ?_
 refine c_cond rfl (fun h18 => ?_) (fun h18 => ?_)
 ·
  have h3 := h18
  refine awp_seq ?_
  have hk4 : l.k = 4 ∨ l.k = 10 := by simp_all
  obtain ⟨-, -, -, hsa, -, -⟩ := el_set ha hk4
  obtain ⟨-, -, -, hsb, -, -⟩ := el_set hb hk4
  have hE : meetV l a b = .mk 0 (itr a.nm b.nm) [] [] := by rw [meetV_eq]; rcases hk4 with hk | hk <;> rw [hk] <;> rfl
  refine awp_region ?_
  refine zF ?_
  refine zL ?_
  refine zF ?_
  refine zL ?_
  refine zP (q_call (inter_fc _ _ hsa hsb (by omega)) rfl rfl rfl) ?_
  refine zP (q_build rfl rfl rfl) ?_
  refine zC ?_
  refine zN ?_
  refine awp_ret ?_
  change (resY _ _).bind AV.fzt = some _
  refine ret_r rfl ?_
  rw [hE]; rfl
 have hk10 : l.k ≠ 10 := by simpa using h18
 refine zG ?_
 refine zB ?_
 refine zT ?_
 refine c_cond rfl (fun h26 => ?_) (fun h26 => ?_)
 ·
  have hk : l.k = 5 := by simpa using h26
  obtain ⟨q, hps⟩ := shape_56 hO hk
  have hq0 : l.ps[0]? = some q := by rw [hps]; rfl
  obtain ⟨-, -, hla, hsa, -, hea⟩ := el_map ha hk hps
  obtain ⟨-, -, hlb, hsb, -, heb⟩ := el_map hb hk hps
  have hE : meetV l a b = .mk 0 (((a.nm.zip a.ps).filterMap (meetF q b)).map Prod.fst) (((a.nm.zip a.ps).filterMap (meetF q b)).map Prod.snd) [] := by rw [meetV_eq, hk, hps, meetM_map]; rfl
  refine zG ?_
  refine zO ?_
  refine zN ?_
  refine zH ?_
  refine zF ?_
  refine zL ?_
  refine zE ?_
  refine zV ?_
  refine awp_block ?_
  refine awp_weak (weak_tokc rfl 4 1 9 1 rfl rfl rfl) ?_
  refine awp_weak (weak_tokc rfl 4 2 30 4 rfl rfl rfl) ?_
  refine awp_loop (fun x : {k : Nat // k ≤ (a.nm).length ∧ True} => ⟨[(3, .ptr 0 0), (4, .ptr 1 0), (5, .ptr 2 0), (6, .ptr 3 0), (7, .ptr 4 0), (29, svs a.nm), (30, i64 a.nm.length), (31, i64 (x.1 : Nat))], [(0, .var 26 (latL l)), (1, .var 30 (valL a)), (2, .var 30 (valL b)), (3, .var 30 [i64 0, .p (.slice none 0 0), .p (.slice none 0 0), .p (.slice none 0 0)]), (4, .var 30 [i64 0, .sl (((((a.nm.zip a.ps).take x.1).filterMap (meetF q b)).map Prod.fst).map sv1) (some 5), .sl (((((a.nm.zip a.ps).take x.1).filterMap (meetF q b)).map Prod.snd).map valC) (some 6), .p (.slice none 0 0)]), (5, .tok 9 1 (((a.nm.zip a.ps).take x.1).filterMap (meetF q b)).length), (6, .tok 30 4 (((a.nm.zip a.ps).take x.1).filterMap (meetF q b)).length)], 7⟩) (fun x => (a.nm).length - x.1) (⟨0, Nat.zero_le _, by simp⟩) ?_ ?_
  ·
   exact weak_scrub' rfl (zz4 (zz2 ⟨(cgI (by simp)), rfl, (zz1 trivial)⟩)) ⟨rfl, rfl, rfl, rfl, rfl, rfl, rfl, rfl, rfl, rfl, rfl, rfl, rfl, rfl, rfl, rfl, rfl, rfl, rfl, rfl, rfl, trivial⟩
  rintro ⟨k, hk, hg⟩
  dsimp only
  have hfl : ((((a.nm.zip a.ps).take k).filterMap (meetF q b))).length ≤ k := Nat.le_trans (List.length_filterMap_le _ _) (by simp; omega)
  refine zG ?_
  refine zB ?_
  refine zN ?_
  refine awp_seq ?_
  refine c_cond rfl (fun h39 => ?_) (fun h39 => ?_)
  ·
   have hlt : k < (a.nm).length := by simpa using h39
   obtain ⟨x, hx⟩ := get_lt hlt
   obtain ⟨p, hp⟩ := get_lt (show k < a.ps.length by omega)
   have hz := zip_get2 hx hp
   refine zW ?_
   refine awp_seq ?_
   refine awp_block ?_
   refine zG ?_
   refine zM ?_
   refine zP (q_elem rfl rfl rfl k rfl _ (map_get hx) rfl) ?_
   refine zL ?_
   refine zS ?_
   refine zS ?_
   refine zA ?_
   refine zF ?_
   refine zL ?_
   refine zM ?_
   refine zP (q_call (index_fc _ _) rfl rfl rfl) ?_
   refine zT ?_
   refine zH ?_
   refine zM ?_
   refine zB ?_
   refine zN ?_
   refine c_cond rfl (fun h45 => ?_) (fun h45 => ?_)
   ·
    have hF := mf_no (q := q) (p := p) (partOf_none (of_decide_eq_true h45))
    refine awp_exit ?_
    change AWP _ _ _ _  _
    refine awp_region ?_
    refine zP (q_addi rfl rfl rfl (by omega)) ?_
    refine zM ?_
    refine aops_nil ?_
    exact ⟨⟨k + 1, hlt, trivial⟩, weak_scrub' rfl (zz4 (zz3 ⟨(cgI (by dsimp only; omega)), rfl, trivial⟩)) ⟨rfl, rfl, rfl, rfl, rfl, rfl, rfl, rfl, rfl, rfl, rfl, rfl, (cgM (by simp [fm_step hz, hF, chunk_1, chunk_val, sv1]) (by simp [fm_step hz, hF, chunk_1, chunk_val, sv1])), rfl, rfl, (cgT (by simp [fm_step hz, hF, chunk_1, chunk_val, sv1])), rfl, rfl, (cgT (by simp [fm_step hz, hF, chunk_1, chunk_val, sv1])), rfl, rfl, trivial⟩, by dsimp only; omega⟩
   obtain ⟨j, y, hj, hy, hpo⟩ := idx_part hlb h45
   refine zW ?_
   refine awp_seq ?_
   refine awp_float [0, 1, 2, 3, 4, 5, 6, 7, 8, 9, 10, 11, 12, 13, 14] 15 [16] rfl (by kernel_rfl) (by kernel_rfl) ?_
   refine zf ?_
   refine zl ?_
   refine zp (q_elem rfl rfl rfl 0 rfl _ (lat_get hq0) rfl) ?_
   refine zl ?_
   refine zf ?_
   refine zl ?_
   refine zm ?_
   refine zp (q_elem rfl rfl rfl k rfl _ (val_get hp) rfl) ?_
   refine zl ?_
   refine zf ?_
   refine zl ?_
   refine zm ?_
   refine zp (q_elem rfl rfl rfl j hj _ (val_get hy) rfl) ?_
   refine zl ?_
   refine zp (q_call (ih q (by rw [hps]; simp) p y (hea p (List.mem_of_getElem? hp)).1 (heb y (List.mem_of_getElem? hy)).1 (sa.part p (List.mem_of_getElem? hp)) (sb.part y (List.mem_of_getElem? hy))) rfl rfl rfl) ?_
   change FK _ _ _ _ _ _
   refine f_alloc hN rfl rfl rfl rfl rfl rfl rfl ?_
   change AOps _ _ _ _ _ _
   refine zC ?_
   refine zN ?_
   refine awp_seq ?_
   refine awp_draw 7 (by kernel_rfl) (by kernel_rfl) ?_
   refine zl ?_
   refine zf ?_
   refine zl ?_
   refine zp (q_elem rfl rfl rfl 0 rfl _ (lat_get hq0) rfl) ?_
   refine zl ?_
   refine zp (q_call (least_fc q) rfl rfl rfl) ?_
   refine zp (q_call (eqV_fc _ _) rfl rfl rfl) ?_
   change AOps _ _ _ _ _ _
   refine zP (q_not rfl rfl) ?_
   refine zN ?_
   refine c_cond rfl (fun h68 => ?_) (fun h68 => ?_)
   ·
    have hF := mf_yes hpo (q := q) (p := p) (n1 h68)
    refine awp_floats [([0, 1, 2, 3, 5, 6, 7, 8], 4), ([10], 9)] [11, 12, 13] (by kernel_rfl) (by kernel_rfl) rfl ?_
    refine ⟨_, rfl, ?_⟩
    refine zf ?_
    refine zl ?_
    refine zm ?_
    refine zp (q_bslice rfl rfl rfl rfl (by exact rfl) (by decide) (by decide)) ?_
    refine zf ?_
    refine zl ?_
    refine zl ?_
    refine zp (q_bslice rfl rfl rfl rfl (by exact rfl) (by decide) (by decide)) ?_
    change FK _ _ _ _ _ _
    refine f_append_tok hN rfl rfl rfl (by simp) rfl rfl (all_okE okE_nm _) rfl (by simp [chunk_1]; omega) rfl rfl rfl rfl ?_
    change ASeg _ _ _ _ _ _ _
    refine ⟨_, rfl, ?_⟩
    refine zf ?_
    change FK _ _ _ _ _ _
    refine f_append_tok hN rfl rfl rfl (by simp) rfl rfl (all_okE okE_val _) rfl (by simp [chunk_4]; omega) rfl rfl rfl rfl ?_
    change AOps _ _ _ _ _ _
    refine zC ?_
    refine zF ?_
    refine zC ?_
    refine aops_nil ?_
    change AWP _ _ _ _  _
    refine awp_region ?_
    refine zP (q_addi rfl rfl rfl (by omega)) ?_
    refine zM ?_
    refine aops_nil ?_
    exact ⟨⟨k + 1, hlt, trivial⟩, weak_scrub' rfl (zz4 (zz3 ⟨(cgI (by dsimp only; omega)), rfl, trivial⟩)) ⟨rfl, rfl, rfl, rfl, rfl, rfl, rfl, rfl, rfl, rfl, rfl, rfl, (cgM (by simp [fm_step hz, hF, chunk_1, chunk_val, sv1]) (by simp [fm_step hz, hF, chunk_1, chunk_val, sv1])), rfl, rfl, (cgT (by simp [fm_step hz, hF, chunk_1, chunk_val, sv1])), rfl, rfl, (cgT (by simp [fm_step hz, hF, chunk_1, chunk_val, sv1])), rfl, rfl, trivial⟩, by dsimp only; omega⟩
   have hF := mf_bot hpo (q := q) (p := p) (n0 h68)
   refine awp_skip ?_
   change AWP _ _ _ _  _
   refine awp_region ?_
   refine zP (q_addi rfl rfl rfl (by omega)) ?_
   refine zM ?_
   refine aops_nil ?_
   exact ⟨⟨k + 1, hlt, trivial⟩, weak_scrub' rfl (zz4 (zz3 ⟨(cgI (by dsimp only; omega)), rfl, trivial⟩)) ⟨rfl, rfl, rfl, rfl, rfl, rfl, rfl, rfl, rfl, rfl, rfl, rfl, (cgM (by simp [fm_step hz, hF, chunk_1, chunk_val, sv1]) (by simp [fm_step hz, hF, chunk_1, chunk_val, sv1])), rfl, rfl, (cgT (by simp [fm_step hz, hF, chunk_1, chunk_val, sv1])), rfl, rfl, (cgT (by simp [fm_step hz, hF, chunk_1, chunk_val, sv1])), rfl, rfl, trivial⟩, by dsimp only; omega⟩
  have hge : (a.nm).length ≤ k := by simpa using h39
  rw [List.take_of_length_le (show (a.nm.zip a.ps).length ≤ k by simp; omega)]
  refine awp_exit ?_
  change AWP _ _ _ _  _
  refine zG ?_
  refine zL ?_
  refine zC ?_
  refine zN ?_
  refine awp_ret ?_
  change (resY _ _).bind AV.fzt = some _
  refine ret_r rfl ?_
  rw [hE]; rfl
 have hk5 : l.k ≠ 5 := by simpa using h26
 refine zG ?_
 refine zB ?_
 refine zT ?_
 refine c_cond rfl (fun h86 => ?_) (fun h86 => ?_)
 ·
  have hk : l.k = 6 := by simpa using h86
  obtain ⟨-, -, -, hla, hza⟩ := el_prod ha (.inl hk)
  obtain ⟨-, -, -, hlb, hzb⟩ := el_prod hb (.inl hk)
  have hjl := mz_len hla hlb
  have hE : meetV l a b = .mk 0 [] (meetZ l.ps a.ps b.ps) [] := by rw [meetV_eq, hk]; rfl
  refine zG ?_
  refine zO ?_
  refine zN ?_
  refine zH ?_
  refine zF ?_
  refine zL ?_
  refine zE ?_
  refine zV ?_
  refine awp_block ?_
  refine awp_weak (weak_tokc rfl 4 2 30 4 rfl rfl rfl) ?_
  refine awp_loop (fun x : {k : Nat // k ≤ (l.ps).length ∧ True} => ⟨[(3, .ptr 0 0), (4, .ptr 1 0), (5, .ptr 2 0), (6, .ptr 3 0), (12, .ptr 4 0), (82, lats l.ps), (83, i64 l.ps.length), (84, i64 (x.1 : Nat))], [(0, .var 26 (latL l)), (1, .var 30 (valL a)), (2, .var 30 (valL b)), (3, .var 30 [i64 0, .p (.slice none 0 0), .p (.slice none 0 0), .p (.slice none 0 0)]), (4, .var 30 [i64 0, .p (.slice none 0 0), .sl (((meetZ l.ps a.ps b.ps).take x.1).map valC) (some 5), .p (.slice none 0 0)]), (5, .tok 30 4 (((meetZ l.ps a.ps b.ps).take x.1).map valC).length)], 6⟩) (fun x => (l.ps).length - x.1) (⟨0, Nat.zero_le _, by simp⟩) ?_ ?_
  ·
   exact weak_scrub' rfl (zz4 (zz2 ⟨(cgI (by simp)), rfl, (zz1 trivial)⟩)) ⟨rfl, rfl, rfl, rfl, rfl, rfl, rfl, rfl, rfl, rfl, rfl, rfl, rfl, rfl, rfl, rfl, rfl, rfl, trivial⟩
  rintro ⟨k, hk, hg⟩
  dsimp only
  refine zG ?_
  refine zB ?_
  refine zN ?_
  refine awp_seq ?_
  refine c_cond rfl (fun h99 => ?_) (fun h99 => ?_)
  ·
   have hlt : k < l.ps.length := by simpa using h99
   obtain ⟨q, hq⟩ := get_lt hlt
   obtain ⟨x, hx⟩ := get_lt (show k < a.ps.length by omega)
   obtain ⟨y, hy⟩ := get_lt (show k < b.ps.length by omega)
   refine zW ?_
   refine awp_seq ?_
   refine awp_block ?_
   refine zG ?_
   refine zM ?_
   refine zP (q_elem rfl rfl rfl k rfl _ (lat_get hq) rfl) ?_
   refine zL ?_
   refine zO ?_
   refine zS ?_
   refine zC ?_
   refine zN ?_
   refine awp_draw 15 (by kernel_rfl) (by kernel_rfl) ?_
   refine zf ?_
   refine zl ?_
   refine zl ?_
   refine zf ?_
   refine zl ?_
   refine zm ?_
   refine zp (q_elem rfl rfl rfl k rfl _ (val_get hx) rfl) ?_
   refine zl ?_
   refine zf ?_
   refine zl ?_
   refine zm ?_
   refine zp (q_elem rfl rfl rfl k rfl _ (val_get hy) rfl) ?_
   refine zl ?_
   refine zp (q_call (ih q (List.mem_of_getElem? hq) x y (elemZ_get hza hx hq) (elemZ_get hzb hy hq) (sa.part x (List.mem_of_getElem? hx)) (sb.part y (List.mem_of_getElem? hy))) rfl rfl rfl) ?_
   refine zp (q_bslice rfl rfl rfl rfl (by exact rfl) (by decide) (by decide)) ?_
   change AOps _ _ _ _ _ _
   refine s_append_tok hN rfl rfl rfl (by simp) rfl rfl (all_okE okE_val _) rfl (by simp [chunk_4]; omega) rfl rfl rfl rfl ?_
   refine zF ?_
   refine zC ?_
   refine aops_nil ?_
   change AWP _ _ _ _  _
   refine awp_region ?_
   refine zP (q_addi rfl rfl rfl (by omega)) ?_
   refine zM ?_
   refine aops_nil ?_
   exact ⟨⟨k + 1, hlt, trivial⟩, weak_scrub' rfl (zz4 (zz3 ⟨(cgI (by dsimp only; omega)), rfl, trivial⟩)) ⟨rfl, rfl, rfl, rfl, rfl, rfl, rfl, rfl, rfl, rfl, rfl, rfl, (cgV (jz_step (mz_get hq hx hy))), rfl, rfl, (cgT (by simp [chunk_4]; omega)), rfl, rfl, trivial⟩, by dsimp only; omega⟩
  have hge : (l.ps).length ≤ k := by simpa using h99
  rw [List.take_of_length_le (by rw [hjl]; exact hge)]
  refine awp_exit ?_
  change AWP _ _ _ _  _
  refine zG ?_
  refine zL ?_
  refine zC ?_
  refine zN ?_
  refine awp_ret ?_
  change (resY _ _).bind AV.fzt = some _
  refine ret_r rfl ?_
  rw [hE]; rfl
 have hk6 : l.k ≠ 6 := by simpa using h86
 refine zG ?_
 refine zB ?_
 refine zT ?_
 refine c_cond rfl (fun h123 => ?_) (fun h123 => ?_)
 ·
  have hk : l.k = 7 := by simpa using h123
  obtain ⟨q1, q2, hps⟩ := shape_72 hO.shape hk
  obtain ⟨x1, x2, hpa, hx1, hx2⟩ := two_of ha hk hps
  obtain ⟨y1, y2, hpb, hy1, hy2⟩ := two_of hb hk hps
  have hq2' : l.ps[1]? = some q2 := by rw [hps]; rfl
  have hx1' : a.ps[0]? = some x1 := by rw [hpa]; rfl
  have hx2' : a.ps[1]? = some x2 := by rw [hpa]; rfl
  have hy1' : b.ps[0]? = some y1 := by rw [hpb]; rfl
  have hy2' : b.ps[1]? = some y2 := by rw [hpb]; rfl
  refine awp_seq ?_
  refine awp_draw 8 (by kernel_rfl) (by kernel_rfl) ?_
  refine zf ?_
  refine zl ?_
  refine zp (q_elem rfl rfl rfl 0 rfl _ (val_get hx1') rfl) ?_
  refine zl ?_
  refine zf ?_
  refine zl ?_
  refine zp (q_elem rfl rfl rfl 0 rfl _ (val_get hy1') rfl) ?_
  refine zl ?_
  change AOps _ _ _ _ _ _
  refine zP (q_call (eqV_fc _ _) rfl rfl rfl) ?_
  refine zN ?_
  refine c_cond rfl (fun h132 => ?_) (fun h132 => ?_)
  ·
   have hE : meetV l a b = .mk 0 [] [x1, meetV q2 x2 y2] [] := by rw [meetV_eq, hk, hps, hpa, hpb]; simp [meetX, h132]
   refine awp_seq ?_
   refine awp_draw 19 (by kernel_rfl) (by kernel_rfl) ?_
   refine zf ?_
   refine zl ?_
   refine zp (q_elem rfl rfl rfl 0 rfl _ (val_get hx1') rfl) ?_
   refine zl ?_
   refine zf ?_
   refine zl ?_
   refine zp (q_elem rfl rfl rfl 1 rfl _ (lat_get hq2') rfl) ?_
   refine zl ?_
   refine zf ?_
   refine zl ?_
   refine zp (q_elem rfl rfl rfl 1 rfl _ (val_get hx2') rfl) ?_
   refine zl ?_
   refine zf ?_
   refine zl ?_
   refine zp (q_elem rfl rfl rfl 1 rfl _ (val_get hy2') rfl) ?_
   refine zl ?_
   refine zp (q_call (ih q2 (by rw [hps]; simp) x2 y2 hx2 hy2 (sa.part x2 (by rw [hpa]; simp)) (sb.part y2 (by rw [hpb]; simp))) rfl rfl rfl) ?_
   refine zp (q_bslice2 rfl rfl rfl rfl (by exact rfl) (by decide) (by decide) (vals_2 _ _)) ?_
   refine zp (q_build rfl rfl rfl) ?_
   change AOps _ _ _ _ _ _
   refine zC ?_
   refine zN ?_
   refine awp_ret ?_
   change (resY _ _).bind AV.fzt = some _
   refine ret_r rfl ?_
   rw [hE]; rfl
  have hx : l.k = 7 → meetX l.ps a.ps b.ps = none := fun _ => by rw [hps, hpa, hpb, meetX, h132]; rfl
  refine awp_skip ?_
  change AWP _ _ _ _  _
  refine awp_seq ?_
  refine awp_block ?_
  refine zG ?_
  refine zL ?_
  refine zL ?_
  refine zL ?_
  refine zP (q_call (leq_fc l hO a b ha hb) rfl rfl rfl) ?_
  refine zT ?_
  refine c_cond rfl (fun h156 => ?_) (fun h156 => ?_)
  ·
   have h28 := h156
   refine zG ?_
   refine zL ?_
   refine zC ?_
   refine zN ?_
   refine awp_ret ?_
   change (resY _ _).bind AV.fzt = some _
   refine ret_r rfl ?_
   rw [meetV_else hk4' hk10 hk5 hk6 hx, if_pos h28]
  have h28 := h156
  refine zG ?_
  refine zL ?_
  refine zL ?_
  refine zL ?_
  refine zP (q_call (leq_fc l hO b a hb ha) rfl rfl rfl) ?_
  refine zT ?_
  refine c_cond rfl (fun h162 => ?_) (fun h162 => ?_)
  ·
   have h30 := h162
   refine zG ?_
   refine zL ?_
   refine zC ?_
   refine zN ?_
   refine awp_ret ?_
   change (resY _ _).bind AV.fzt = some _
   refine ret_r rfl ?_
   rw [meetV_else hk4' hk10 hk5 hk6 hx, if_neg (by rw [h28]; decide), if_pos h30]
  have h30 := h162
  refine awp_skip ?_
  change AWP _ _ _ _  _
  refine zG ?_
  refine zP (q_build rfl rfl rfl) ?_
  refine zC ?_
  refine zN ?_
  refine awp_ret ?_
  change (resY _ _).bind AV.fzt = some _
  refine ret_r rfl ?_
  rw [meetV_else hk4' hk10 hk5 hk6 hx, if_neg (by rw [h28]; decide), if_neg (by rw [h30]; decide)]; rfl
 have hx : l.k = 7 → meetX l.ps a.ps b.ps = none := fun e => absurd e (by simpa using h123)
 refine awp_skip ?_
 change AWP _ _ _ _  _
 refine awp_seq ?_
 refine awp_block ?_
 refine zG ?_
 refine zL ?_
 refine zL ?_
 refine zL ?_
 refine zP (q_call (leq_fc l hO a b ha hb) rfl rfl rfl) ?_
 refine zT ?_
 refine c_cond rfl (fun h170 => ?_) (fun h170 => ?_)
 ·
  have h28 := h170
  refine zG ?_
  refine zL ?_
  refine zC ?_
  refine zN ?_
  refine awp_ret ?_
  change (resY _ _).bind AV.fzt = some _
  refine ret_r rfl ?_
  rw [meetV_else hk4' hk10 hk5 hk6 hx, if_pos h28]
 have h28 := h170
 refine zG ?_
 refine zL ?_
 refine zL ?_
 refine zL ?_
 refine zP (q_call (leq_fc l hO b a hb ha) rfl rfl rfl) ?_
 refine zT ?_
 refine c_cond rfl (fun h176 => ?_) (fun h176 => ?_)
 ·
  have h30 := h176
  refine zG ?_
  refine zL ?_
  refine zC ?_
  refine zN ?_
  refine awp_ret ?_
  change (resY _ _).bind AV.fzt = some _
  refine ret_r rfl ?_
  rw [meetV_else hk4' hk10 hk5 hk6 hx, if_neg (by rw [h28]; decide), if_pos h30]
 have h30 := h176
 refine awp_skip ?_
 change AWP _ _ _ _  _
 refine zG ?_
 refine zP (q_build rfl rfl rfl) ?_
 refine zC ?_
 refine zN ?_
 refine awp_ret ?_
 change (resY _ _).bind AV.fzt = some _
 refine ret_r rfl ?_
 rw [meetV_else hk4' hk10 hk5 hk6 hx, if_neg (by rw [h28]; decide), if_neg (by rw [h30]; decide)]; rfl
theorem meet_fc (l : Lat) (hO : OkL l) (hC : ChL l) (a b : Val) (ha : elemB a l = true) (hb : elemB b l = true) (sa : SmV 500000 a) (sb : SmV 500000 b) : FC Tryz.prog 48 [.agg (latL l), .agg (valL a), .agg (valL b)] (.agg (valL (meetV l a b))) := meet_s l hO hC (fun q hq x y hx hy sx sy => meet_fc q (hO.part q hq) (hC.part q hq) x y hx hy sx sy) a b ha hb sa sb
termination_by l
decreasing_by exact Lat.sizeOf_ps ‹_›
end Go.Proofs.YtciojbjoijedjaaGreat
