/-
  Contracts: the order of a lattice's elements.
-/
import Derived.Test.YtaecccdkjmipeaaGreatB7
import Derived.Test.YtaecccdkjmipeaaGreatA3
namespace Go.Proofs.YtaecccdkjmipeaaGreat
open Go.RowKit
def underB (p q : En) : Bool := if cmpC p.1 q.1 == 1 then true else if cmpC p.1 q.1 == 0 then p.2 == q.2 else false
def coveredB (l : List En) (p : En) : Bool := l.any (underB p)
def idxF {α : Type} (q : α → Bool) : List α → Nat → Int
 | [], _ => -1
 | x :: l, i => if q x then (i : Int) else idxF q l (i + 1)
theorem idxF_any {α : Type} (q : α → Bool) : ∀ (l : List α) (i : Nat), decide (idxF q l i ≥ 0) = l.any q
 | [], i => by simp [idxF]
 | x :: l, i => by
  unfold idxF
  by_cases h : q x = true
  ·rw [if_pos h, List.any_cons, h]; simp
  ·rw [if_neg h, List.any_cons, idxF_any q l (i + 1)]; simp [h]

set_option maxRecDepth 100000 in
set_option maxHeartbeats 1000000 in
theorem idxFE_fc {f : FuncId} [TFn Tryz.prog f] {cs : List AV} {q : En → Bool} (l : List En) (hc : ∀ y ∈ l, FC Tryz.prog f [.agg (enC y), .el cs] (bl (q y))) : FC Tryz.prog 199 [ens l, .fn f [.el cs]] (i64 (idxF q l 0)) := by
 refine fc_of_awp [4] Tryz.func199 rfl rfl 19 Tryz.ntmps199 (Nat.le_of_ble_eq_true rfl) ?_
 intro E hN
 refine a_lm 0 rfl (fun hl0 => ?_)
 refine rn12 ?_
 refine awp_loop (fun x : {k : Nat // k ≤ (l).length ∧ idxF q (l.drop k) k = idxF q l 0} => ⟨[(0, ens l), (1, .fn f [.el cs]), (7, i64 l.length), (8, i64 (x.1 : Nat))], [], 0⟩) (fun x => (l).length - x.1) (⟨0, Nat.zero_le _, by simp⟩) ?_ ?_
 ·
  exact weak_scrub' rfl (zz2 ⟨(cgI (by simp)), rfl, (zz1 trivial)⟩) trivial
 rintro ⟨k, hk, hg⟩
 dsimp only
 refine rn5 ?_
 refine zq ?_ ?_ <;> intro h8
 ·
  have hlt : k < (l).length := by simpa using h8
  obtain ⟨x, hx⟩ := get_lt hlt
  have hs : idxF q l 0 = if q x then (k : Int) else idxF q (l.drop (k + 1)) (k + 1) := by rw [← hg, drop_get hx]; rfl
  refine rn13 ?_; refine zP (q_elem rfl rfl rfl k rfl _ (map_get hx) rfl) ?_; refine zL ?_
  refine zP (q_callv (hc x (List.mem_of_getElem? hx)) rfl rfl rfl rfl) ?_; refine zN ?_
  refine zq ?_ ?_ <;> intro h11
  ·
   have h4 := h11
   refine rn4 ?_; refine zQ ?_
   exact retI (by rw [hs, if_pos (by simp_all)])
  have hn : idxF q (l.drop (k + 1)) (k + 1) = idxF q l 0 := by rw [hs, if_neg (by simp_all)]
  refine rn2 ?_; refine zP (q_addi rfl rfl rfl (by omega)) ?_; refine zM ?_; refine aops_nil ?_
  exact ⟨⟨k + 1, hlt, hn⟩, weak_scrub' rfl (zz3 ⟨(cgI (by dsimp only; omega)), rfl, trivial⟩) trivial, by dsimp only; omega⟩
 have hge : (l).length ≤ k := by simpa using h8
 refine rn4 ?_; refine zQ ?_
 exact retI (by rw [← hg, List.drop_of_length_le hge]; rfl)
set_option maxRecDepth 100000 in
set_option maxHeartbeats 1000000 in
theorem anyFE_fc {f : FuncId} [TFn Tryz.prog f] {cs : List AV} {q : En → Bool} (l : List En) (hc : ∀ y ∈ l, FC Tryz.prog f [.agg (enC y), .el cs] (bl (q y))) : FC Tryz.prog 185 [ens l, .fn f [.el cs]] (bl (l.any q)) := by
 refine fc_of_awp [4] Tryz.func185 rfl rfl 9 Tryz.ntmps185 (Nat.le_of_ble_eq_true rfl) ?_
 intro E hN
 refine rn8 ?_; refine zP (q_call (idxFE_fc l hc) rfl rfl rfl) ?_; refine rn2 ?_; refine zQ ?_
 exact retB (idxF_any q l 0)
set_option maxRecDepth 100000 in
set_option maxHeartbeats 1000000 in
theorem under_fc (x y : En) : FC Tryz.prog 198 [.agg (enC x), .agg (enC y)] (bl (underB x y)) := by
 refine fc_of_awp [4] Tryz.func198 rfl rfl 19 Tryz.ntmps198 (Nat.le_of_ble_eq_true rfl) ?_
 intro E hN
 refine rn13 ?_; refine zP (q_call (cmpC_fc _ _) rfl rfl rfl) ?_; refine rn7 ?_
 refine zq ?_ ?_ <;> intro h10
 ·
  refine rn3 ?_; refine zQ ?_
  exact retB (by simp_all [underB])
 refine rn5 ?_
 refine zq ?_ ?_ <;> intro h11
 ·
  refine rn8 ?_; refine zQ ?_
  exact retB (by simp_all [underB])
 refine rn4 ?_; refine zQ ?_
 exact retB (by simp_all [underB])
set_option maxRecDepth 100000 in
set_option maxHeartbeats 1000000 in
theorem covered1_fc (x y : En) : FC Tryz.prog 197 [.agg (enC y), .el (enC x)] (bl (underB x y)) := by
 refine fc_of_awp [3] Tryz.func197 rfl rfl 7 Tryz.ntmps197 (Nat.le_of_ble_eq_true rfl) ?_
 intro E hN
 refine rn9 ?_; refine zP (q_call (under_fc x y) rfl rfl rfl) ?_; refine zS ?_; refine zQ ?_
 rfl
set_option maxRecDepth 100000 in
set_option maxHeartbeats 1000000 in
theorem covered_fc (x : En) (l : List En) : FC Tryz.prog 184 [.agg (enC x), ens l] (bl (coveredB l x)) := by
 refine fc_of_awp [4] Tryz.func184 rfl rfl 8 Tryz.ntmps184 (Nat.le_of_ble_eq_true rfl) ?_
 intro E hN
 refine rn6 ?_; refine awp_weak (weak_freeze 2 0 rfl rfl rfl rfl) ?_; refine rn2 ?_; refine zP (q_func rfl rfl) ?_
 refine zP (q_call (anyFE_fc l (fun y _ => covered1_fc x y)) rfl rfl rfl) ?_; refine zS ?_; refine zQ ?_
 rfl
set_option maxRecDepth 100000 in
set_option maxHeartbeats 1000000 in
theorem least_fc (l : Lat) : FC Tryz.prog 141 [.agg (latL l)] (.agg (valL (bottomC l).1)) := by
 refine fc_of_awpR [.c 2 30 4 true] ⟨⟨inferInstance, rfl⟩, trivial⟩ Tryz.func141 rfl rfl 11 Tryz.ntmps141 (Nat.le_of_ble_eq_true rfl) ?_
 intro E hN
 refine rn8 ?_; refine zP (q_call (Bottom_fc l) rfl rfl rfl) ?_; refine rn12 ?_; refine awp_ret ?_
 change (resY _ _).bind AV.fzt = some _
 refine ret_r rfl ?_
 rfl
/-- the part of b under this name -/
def partOf (b : Val) (s : Nm) : Option Val := if indexN s b.nm 0 < 0 then none else b.ps[(indexN s b.nm 0).toNat]?
theorem indexN_lt (s : Nm) : ∀ (l : List Nm) (i : Nat), indexN s l i = -1 ∨ ∃ j, i ≤ j ∧ j < i + l.length ∧ indexN s l i = (j : Int)
 | [], i => .inl rfl
 | x :: l, i => by
  unfold indexN
  by_cases h : (s == x) = true
  ·rw [if_pos h]; exact .inr ⟨i, Nat.le_refl _, by simp, rfl⟩
  rw [if_neg h]
  rcases indexN_lt s l (i + 1) with h1 | ⟨j, h1, h2, h3⟩
  ·exact .inl h1
  exact .inr ⟨j, by omega, by simp only [List.length_cons]; omega, h3⟩
theorem partOf_some {b : Val} {s : Nm} {j : Nat} {y : Val} (h : indexN s b.nm 0 = (j : Int)) (hy : b.ps[j]? = some y) : partOf b s = some y := by
 unfold partOf; rw [h, if_neg (by omega)]; simpa using hy
theorem partOf_none {b : Val} {s : Nm} (h : indexN s b.nm 0 < 0) : partOf b s = none := by
 unfold partOf; rw [if_pos h]
mutual
/-- the order of a lattice's elements -/
def leqB : Lat → Val → Val → Bool
 | .mk k _ _ _ ps _, a, b =>
  if k == 1 || k == 2 then decide (a.N ≤ b.N)
  else if k == 3 then decide (a.N ≥ b.N)
  else if k == 4 || k == 10 then subsetB a.nm b.nm
  else if k == 5 then leqM ps (a.nm.zip a.ps) b
  else if k == 6 then leqZ ps a.ps b.ps
  else if k == 7 then leqX ps a.ps b.ps
  else if k == 8 then a.N == 0 || b.N == 2 || eqV a b
  else a.es.all (coveredB b.es)
def leqM : List Lat → List (Nm × Val) → Val → Bool
 | [], _, _ => false
 | q :: _, l, b => l.all fun x => match partOf b x.1 with | some y => leqB q x.2 y | none => false
def leqZ : List Lat → List Val → List Val → Bool
 | [], _, _ => true
 | q :: r, x :: a, y :: b => leqB q x y && leqZ r a b
 | _ :: _, _, _ => false
def leqX : List Lat → List Val → List Val → Bool
 | [p, q], [x1, x2], [y1, y2] => if eqV x1 y1 then leqB q x2 y2 else leqB p x1 y1
 | _, _, _ => false
end
def leqE (q : Lat) (b : Val) (x : Nm × Val) : Bool := match partOf b x.1 with | some y => leqB q x.2 y | none => false
theorem leqM_all (q : Lat) (r : List Lat) (l : List (Nm × Val)) (b : Val) : leqM (q :: r) l b = l.all (leqE q b) := by rw [leqM]; rfl
theorem leqB_eq (l : Lat) (a b : Val) : leqB l a b =
  if l.k == 1 || l.k == 2 then decide (a.N ≤ b.N)
  else if l.k == 3 then decide (a.N ≥ b.N)
  else if l.k == 4 || l.k == 10 then subsetB a.nm b.nm
  else if l.k == 5 then leqM l.ps (a.nm.zip a.ps) b
  else if l.k == 6 then leqZ l.ps a.ps b.ps
  else if l.k == 7 then leqX l.ps a.ps b.ps
  else if l.k == 8 then a.N == 0 || b.N == 2 || eqV a b
  else a.es.all (coveredB b.es) := by
 cases l with
 | mk k lo hi nm ps rs => rw [leqB]; rfl
section
variable {ls : List Lat} {xs ys : List Val} {k : Nat} {q : Lat} {x y : Val} {b : Bool}
theorem lz_go (hg : leqZ (ls.drop k) (xs.drop k) (ys.drop k) = b) (hq : ls[k]? = some q) (hx : xs[k]? = some x) (hy : ys[k]? = some y) : b = (leqB q x y && leqZ (ls.drop (k + 1)) (xs.drop (k + 1)) (ys.drop (k + 1))) := by
 rw [← hg, drop_get hq, drop_get hx, drop_get hy, leqZ]
theorem lz_end (hg : leqZ (ls.drop k) (xs.drop k) (ys.drop k) = b) (h : ls.length ≤ k) : b = true := by
 rw [← hg, List.drop_of_length_le h, leqZ]
theorem elemZ_get : ∀ {xs : List Val} {ls : List Lat} {k : Nat} {x : Val} {q : Lat}, elemZ xs ls = true → xs[k]? = some x → ls[k]? = some q → elemB x q = true
 | [], _, _, _, _, _, hx, _ => by simp at hx
 | _ :: _, [], _, _, _, _, _, hq => by simp at hq
 | a :: r, p :: s, 0, x, q, h, hx, hq => by
  rw [elemZ, Bool.and_eq_true] at h
  simp at hx hq; subst hx hq; exact h.1
 | a :: r, p :: s, k + 1, x, q, h, hx, hq => by
  rw [elemZ, Bool.and_eq_true] at h
  exact elemZ_get h.2 (by simpa using hx) (by simpa using hq)
end
theorem el_5 {v : Val} {l : Lat} {q : Lat} {r : List Lat} (h : elemB v l = true) (hk : l.k = 5) (hp : l.ps = q :: r) : v.nm.length = v.ps.length ∧ ∀ p ∈ v.ps, elemB p q = true := by
 rw [elemB_eq, hk, hp] at h
 simp [elemA_all, elemP] at h
 exact ⟨by omega, fun p hp => (h.2 p hp).1⟩
theorem el_Z {v : Val} {l : Lat} (h : elemB v l = true) (hk : l.k = 6 ∨ l.k = 7) : v.ps.length = l.ps.length ∧ elemZ v.ps l.ps = true := by
 rw [elemB_eq] at h
 rcases hk with hk | hk <;> rw [hk] at h <;> simp at h <;> exact ⟨by omega, h.2⟩
theorem shape_72 {l : Lat} (h : shapeX l = 0) (hk : l.k = 7) : ∃ a b, l.ps = [a, b] := by
 unfold shapeX at h
 rw [if_pos (by rw [hk]; decide)] at h
 have hb : badB l = false := by
  cases hb : badB l
  ·rfl
  rw [hb] at h; simp [whenE] at h
 have h2 : l.ps.length = 2 := by
  simp only [badB, partsN, hk] at hb
  simp at hb
  omega
 match hl : l.ps, h2 with
 | [a, b], _ => exact ⟨a, b, rfl⟩
theorem two_of {l : Lat} {v : Val} {a b : Lat} (h : elemB v l = true) (hk : l.k = 7) (hp : l.ps = [a, b]) : ∃ x y, v.ps = [x, y] ∧ elemB x a = true ∧ elemB y b = true := by
 obtain ⟨h1, h2⟩ := el_Z h (.inr hk)
 rw [hp] at h1 h2
 match hl : v.ps, h1 with
 | [x, y], _ =>
  rw [hl] at h2
  simp only [elemZ, Bool.and_eq_true] at h2
  exact ⟨x, y, rfl, h2.1, h2.2.1⟩
theorem zip_get2 {l : List Nm} {m : List Val} {k : Nat} {x : Nm} {p : Val} (h1 : l[k]? = some x) (h2 : m[k]? = some p) : (l.zip m)[k]? = some (x, p) := by
 rw [List.getElem?_zip_eq_some]; exact ⟨h1, h2⟩

set_option maxRecDepth 100000 in
set_option maxHeartbeats 1000000 in
theorem leq_s (l : Lat) (hO : OkL l) (ih : ∀ q ∈ l.ps, ∀ x y, elemB x q = true → elemB y q = true → FC Tryz.prog 171 [.agg (latL q), .agg (valL x), .agg (valL y)] (bl (leqB q x y))) (a b : Val) (ha : elemB a l = true) (hb : elemB b l = true) : FC Tryz.prog 171 [.agg (latL l), .agg (valL a), .agg (valL b)] (bl (leqB l a b)) := by
 refine fc_of_awp [6] Tryz.func171 rfl rfl 163 Tryz.ntmps171 (Nat.le_of_ble_eq_true rfl) ?_
 intro E hN
 refine rn20 ?_
 refine zq ?_ ?_ <;> intro h9
 ·
  refine zW ?_; refine c_true rfl h9 ?_; refine rn8 ?_; refine zQ ?_
  exact retB (by rw [leqB_eq]; simp_all)
 refine rn4 ?_
 refine zq ?_ ?_ <;> intro h15
 ·
  refine rn8 ?_; refine zQ ?_
  exact retB (by rw [leqB_eq]; simp_all)
 refine rn5 ?_
 refine zq ?_ ?_ <;> intro h21
 ·
  refine rn8 ?_; refine zQ ?_
  exact retB (by rw [leqB_eq]; simp_all)
 refine rn6 ?_
 refine zq ?_ ?_ <;> intro h27
 ·
  refine zW ?_; refine c_true rfl h27 ?_; refine rn6 ?_; refine zP (q_call (subset_fc _ _) rfl rfl rfl) ?_; refine zS ?_; refine zQ ?_
  exact retB (by rw [leqB_eq]; simp_all)
 refine rn4 ?_
 refine zq ?_ ?_ <;> intro h33
 ·
  refine rn6 ?_; refine zP (q_call (subset_fc _ _) rfl rfl rfl) ?_; refine zS ?_; refine zQ ?_
  exact retB (by rw [leqB_eq]; simp_all)
 refine rn5 ?_
 refine zq ?_ ?_ <;> intro h39
 ·
  refine rn9 ?_
  obtain ⟨q, r, hps⟩ := shape_5 hO.shape (by simp_all)
  have hk5 : l.k = 5 := by simp_all
  have hqm : q ∈ l.ps := by rw [hps]; exact List.mem_cons_self
  have hq0 : l.ps[0]? = some q := by rw [hps]; rfl
  obtain ⟨hla, hea⟩ := el_5 ha hk5 hps
  obtain ⟨hlb, heb⟩ := el_5 hb hk5 hps
  have hE : leqB l a b = (a.nm.zip a.ps).all (leqE q b) := by rw [leqB_eq, hk5, hps]; simp [leqM_all]
  refine awp_loop (fun x : {k : Nat // k ≤ (a.nm).length ∧ ((a.nm.zip a.ps).drop k).all (leqE q b) = (a.nm.zip a.ps).all (leqE q b)} => ⟨[(3, .ptr 0 0), (4, .ptr 1 0), (5, .ptr 2 0), (42, svs a.nm), (43, i64 a.nm.length), (44, i64 (x.1 : Nat))], [(0, .var 26 (latL l)), (1, .var 30 (valL a)), (2, .var 30 (valL b))], 3⟩) (fun x => (a.nm).length - x.1) (⟨0, Nat.zero_le _, by simp⟩) ?_ ?_
  ·
   exact weak_scrub' rfl (zz4 ⟨(cgI (by simp)), rfl, (zz1 trivial)⟩) ⟨rfl, rfl, rfl, rfl, rfl, rfl, rfl, rfl, rfl, trivial⟩
  rintro ⟨k, hk, hg⟩
  dsimp only
  refine a_lm 42 rfl (fun hl8 => ?_)
  refine rn5 ?_
  refine zq ?_ ?_ <;> intro h49
  ·
   have hlt : k < (a.nm).length := by simpa using h49
   obtain ⟨x, hx⟩ := get_lt hlt
   obtain ⟨p, hp⟩ := get_lt (show k < a.ps.length by omega)
   refine rn6 ?_; refine zP (q_elem rfl rfl rfl k rfl _ (map_get hx) rfl) ?_; refine rn9 ?_; refine zP (q_call (index_fc _ _) rfl rfl rfl) ?_
   refine rn3 ?_; refine awp_draw 19 (by kernel_rfl) (by kernel_rfl) ?_; refine rn3 ?_
   refine zd 55 ?_ ?_ <;> intro h55
   ·
    have hpo := partOf_none (s := x) (b := b) (by simpa using h55)
    iterate 16 refine vK (w10 h55) ?_
    change AOps _ _ _ _ _ _; refine zh1 h55 ?_; refine zN ?_; refine c_true rfl rfl ?_; refine rn3 ?_; refine zQ ?_
    exact retB (by rw [hE, all_no hg (zip_get2 hx hp) (by simp only [leqE, hpo]; first | done | simp_all)])
   obtain ⟨j, hj, hjl⟩ : ∃ j : Nat, indexN x b.nm 0 = (j : Int) ∧ j < b.ps.length := by
    rcases indexN_lt x b.nm 0 with h1 | ⟨j, -, h2, h3⟩
    ·simp [h1] at h55
    exact ⟨j, h3, by omega⟩
   obtain ⟨y, hy⟩ := get_lt hjl
   have hpo := partOf_some hj hy
   refine vP (w00 h55) (q_fieldAddr rfl rfl rfl rfl) ?_; refine vP (w00 h55) (q_load rfl rfl rfl rfl rfl) ?_
   refine vP (w00 h55) (q_elem rfl rfl rfl 0 rfl _ (lat_get hq0) rfl) ?_; refine vP (w00 h55) (q_load rfl rfl rfl rfl rfl) ?_
   refine vP (w00 h55) (q_fieldAddr rfl rfl rfl rfl) ?_; refine vP (w00 h55) (q_load rfl rfl rfl rfl rfl) ?_; refine vP (w00 h55) (q_move rfl rfl) ?_
   refine vP (w00 h55) (q_elem rfl rfl rfl k rfl _ (val_get hp) rfl) ?_; refine vP (w00 h55) (q_load rfl rfl rfl rfl rfl) ?_
   refine vP (w00 h55) (q_fieldAddr rfl rfl rfl rfl) ?_; refine vP (w00 h55) (q_load rfl rfl rfl rfl rfl) ?_; refine vP (w00 h55) (q_move rfl rfl) ?_
   refine vP (w00 h55) (q_elem rfl rfl rfl j hj _ (val_get hy) rfl) ?_; refine vP (w00 h55) (q_load rfl rfl rfl rfl rfl) ?_
   refine vP (w00 h55) (q_call (ih q hqm p y (hea p (List.mem_of_getElem? hp)) (heb y (List.mem_of_getElem? hy))) rfl rfl rfl) ?_
   refine vP (w00 h55) (q_not rfl rfl) ?_; change AOps _ _ _ _ _ _; refine zh0 h55 ?_; refine zN ?_
   refine zq ?_ ?_ <;> intro h68
   ·
    refine rn3 ?_; refine zQ ?_
    exact retB (by rw [hE, all_no hg (zip_get2 hx hp) (by simp only [leqE, hpo]; first | done | simp_all)])
   refine rn2 ?_; refine zP (q_addi rfl rfl rfl (by omega)) ?_; refine zM ?_; refine aops_nil ?_
   exact ⟨⟨k + 1, hlt, all_go hg (zip_get2 hx hp) (by simp only [leqE, hpo]; simp_all)⟩, weak_scrub' rfl (zz4 (zz1 ⟨(cgI (by dsimp only; omega)), rfl, trivial⟩)) ⟨rfl, rfl, rfl, rfl, rfl, rfl, rfl, rfl, rfl, trivial⟩, by dsimp only; omega⟩
  have hge : (a.nm).length ≤ k := by simpa using h49
  refine rn4 ?_; refine zQ ?_
  exact retB (by rw [hE, all_end hg (by simp; omega)])
 refine rn5 ?_
 refine zq ?_ ?_ <;> intro h70
 ·
  refine rn9 ?_
  have hk6 : l.k = 6 := by simp_all
  obtain ⟨hla, hza⟩ := el_Z ha (.inl hk6)
  obtain ⟨hlb, hzb⟩ := el_Z hb (.inl hk6)
  have hE : leqB l a b = leqZ l.ps a.ps b.ps := by rw [leqB_eq, hk6]; rfl
  refine awp_loop (fun x : {k : Nat // k ≤ (l.ps).length ∧ leqZ (l.ps.drop k) (a.ps.drop k) (b.ps.drop k) = leqZ l.ps a.ps b.ps} => ⟨[(3, .ptr 0 0), (4, .ptr 1 0), (5, .ptr 2 0), (77, lats l.ps), (78, i64 l.ps.length), (79, i64 (x.1 : Nat))], [(0, .var 26 (latL l)), (1, .var 30 (valL a)), (2, .var 30 (valL b))], 3⟩) (fun x => (l.ps).length - x.1) (⟨0, Nat.zero_le _, by simp⟩) ?_ ?_
  ·
   exact weak_scrub' rfl (zz4 ⟨(cgI (by simp)), rfl, (zz1 trivial)⟩) ⟨rfl, rfl, rfl, rfl, rfl, rfl, rfl, rfl, rfl, trivial⟩
  rintro ⟨k, hk, hg⟩
  dsimp only
  refine a_lm 77 rfl (fun hl8 => ?_)
  refine rn5 ?_
  refine zq ?_ ?_ <;> intro h80
  ·
   have hlt : k < l.ps.length := by simpa using h80
   obtain ⟨q, hq⟩ := get_lt hlt
   obtain ⟨x, hx⟩ := get_lt (show k < a.ps.length by omega)
   obtain ⟨y, hy⟩ := get_lt (show k < b.ps.length by omega)
   have hqm : q ∈ l.ps := List.mem_of_getElem? hq
   have hs := lz_go hg hq hx hy
   refine rn6 ?_; refine zP (q_elem rfl rfl rfl k rfl _ (lat_get hq) rfl) ?_; refine rn6 ?_; refine awp_draw 12 (by kernel_rfl) (by kernel_rfl) ?_
   refine rn4 ?_; refine zp (q_elem rfl rfl rfl k rfl _ (val_get hx) rfl) ?_; refine rn4 ?_; refine zp (q_elem rfl rfl rfl k rfl _ (val_get hy) rfl) ?_
   refine zl ?_; refine zp (q_call (ih q hqm x y (elemZ_get hza hx hq) (elemZ_get hzb hy hq)) rfl rfl rfl) ?_; change AOps _ _ _ _ _ _; refine rn2 ?_
   refine zq ?_ ?_ <;> intro h94
   ·
    refine rn3 ?_; refine zQ ?_
    exact retB (by rw [hE, hs]; simp_all)
   refine rn2 ?_; refine zP (q_addi rfl rfl rfl (by omega)) ?_; refine zM ?_; refine aops_nil ?_
   exact ⟨⟨k + 1, hlt, by simp_all⟩, weak_scrub' rfl (zz4 (zz1 ⟨(cgI (by dsimp only; omega)), rfl, trivial⟩)) ⟨rfl, rfl, rfl, rfl, rfl, rfl, rfl, rfl, rfl, trivial⟩, by dsimp only; omega⟩
  have hge : (l.ps).length ≤ k := by simpa using h80
  refine rn4 ?_; refine zQ ?_
  exact retB (by rw [hE, lz_end hg hge])
 refine rn5 ?_
 refine zq ?_ ?_ <;> intro h96
 ·
  refine rn2 ?_
  have hk7 : l.k = 7 := by simp_all
  obtain ⟨q1, q2, hps⟩ := shape_72 hO.shape hk7
  obtain ⟨x1, x2, hpa, hx1, hx2⟩ := two_of ha hk7 hps
  obtain ⟨y1, y2, hpb, hy1, hy2⟩ := two_of hb hk7 hps
  have hE : leqB l a b = if eqV x1 y1 then leqB q2 x2 y2 else leqB q1 x1 y1 := by rw [leqB_eq, hk7, hps, hpa, hpb]; simp [leqX]
  have hq1' : l.ps[0]? = some q1 := by rw [hps]; rfl
  have hq2' : l.ps[1]? = some q2 := by rw [hps]; rfl
  have hx1' : a.ps[0]? = some x1 := by rw [hpa]; rfl
  have hx2' : a.ps[1]? = some x2 := by rw [hpa]; rfl
  have hy1' : b.ps[0]? = some y1 := by rw [hpb]; rfl
  have hy2' : b.ps[1]? = some y2 := by rw [hpb]; rfl
  refine awp_draw 8 (by kernel_rfl) (by kernel_rfl) ?_; refine rn2 ?_; refine zp (q_elem rfl rfl rfl 0 rfl _ (val_get hx1') rfl) ?_; refine rn3 ?_
  refine zp (q_elem rfl rfl rfl 0 rfl _ (val_get hy1') rfl) ?_; refine zl ?_; change AOps _ _ _ _ _ _; refine zP (q_call (eqV_fc _ _) rfl rfl rfl) ?_
  refine zN ?_
  refine zq ?_ ?_ <;> intro h105
  ·
   have h28 := h105
   refine rn1 ?_; refine awp_draw 13 (by kernel_rfl) (by kernel_rfl) ?_; refine rn2 ?_; refine zp (q_elem rfl rfl rfl 1 rfl _ (lat_get hq2') rfl) ?_
   refine rn3 ?_; refine zp (q_elem rfl rfl rfl 1 rfl _ (val_get hx2') rfl) ?_; refine rn3 ?_
   refine zp (q_elem rfl rfl rfl 1 rfl _ (val_get hy2') rfl) ?_; refine zl ?_
   refine zp (q_call (ih q2 (by rw [hps]; simp) x2 y2 hx2 hy2) rfl rfl rfl) ?_
   change AOps _ _ _ _ _ _; refine zS ?_; refine zQ ?_
   exact retB (by rw [hE, if_pos h28])
  have h28 := h105
  refine rn2 ?_; refine awp_draw 13 (by kernel_rfl) (by kernel_rfl) ?_; refine rn2 ?_; refine zp (q_elem rfl rfl rfl 0 rfl _ (lat_get hq1') rfl) ?_
  refine rn3 ?_; refine zp (q_elem rfl rfl rfl 0 rfl _ (val_get hx1') rfl) ?_; refine rn3 ?_
  refine zp (q_elem rfl rfl rfl 0 rfl _ (val_get hy1') rfl) ?_; refine zl ?_
  refine zp (q_call (ih q1 (by rw [hps]; simp) x1 y1 hx1 hy1) rfl rfl rfl) ?_
  change AOps _ _ _ _ _ _; refine zS ?_; refine zQ ?_
  exact retB (by rw [hE, if_neg (by simp [h28])])
 refine rn5 ?_
 refine zq ?_ ?_ <;> intro h132
 ·
  refine rn6 ?_
  refine zc 140 ?_ ?_ <;> intro h135
  ·
   iterate 3 refine uK (w10 h135) ?_
   refine zh1 h135 ?_; refine rn4 ?_; refine zh1 rfl ?_; refine zS ?_; refine zQ ?_
   exact retB (by rw [leqB_eq]; simp_all)
  refine uF (w00 h135) ?_; refine uL (w00 h135) ?_; refine uP (w00 h135) (q_bin rfl rfl rfl) ?_; refine zh0 h135 ?_; refine zM ?_
  refine zc 145 ?_ ?_ <;> intro h138
  ·
   iterate 3 refine uK (w10 h138) ?_
   refine zh1 h138 ?_; refine zS ?_; refine zQ ?_
   exact retB (by rw [leqB_eq]; simp_all)
  refine uL (w00 h138) ?_; refine uL (w00 h138) ?_; refine uP (w00 h138) (q_call (eqV_fc _ _) rfl rfl rfl) ?_; refine zh0 h138 ?_; refine zS ?_
  refine zQ ?_
  exact retB (by rw [leqB_eq]; simp_all)
 refine rn10 ?_
 have hE : leqB l a b = a.es.all (coveredB b.es) := by rw [leqB_eq]; simp_all
 refine awp_loop (fun x : {k : Nat // k ≤ (a.es).length ∧ (a.es.drop k).all (coveredB b.es) = a.es.all (coveredB b.es)} => ⟨[(3, .ptr 0 0), (4, .ptr 1 0), (5, .ptr 2 0), (151, ens a.es), (152, i64 a.es.length), (153, i64 (x.1 : Nat))], [(0, .var 26 (latL l)), (1, .var 30 (valL a)), (2, .var 30 (valL b))], 3⟩) (fun x => (a.es).length - x.1) (⟨0, Nat.zero_le _, by simp⟩) ?_ ?_
 ·
  exact weak_scrub' rfl (zz4 ⟨(cgI (by simp)), rfl, (zz1 trivial)⟩) ⟨rfl, rfl, rfl, rfl, rfl, rfl, rfl, rfl, rfl, trivial⟩
 rintro ⟨k, hk, hg⟩
 dsimp only
 refine a_lm 151 rfl (fun hl8 => ?_)
 refine rn5 ?_
 refine zq ?_ ?_ <;> intro h151
 ·
  have hlt : k < (a.es).length := by simpa using h151
  obtain ⟨x, hx⟩ := get_lt hlt
  refine rn5 ?_; refine zP (q_elem rfl rfl rfl k rfl _ (map_get hx) rfl) ?_; refine rn9 ?_; refine zP (q_call (covered_fc _ _) rfl rfl rfl) ?_
  refine rn2 ?_
  refine zq ?_ ?_ <;> intro h159
  ·
   refine rn3 ?_; refine zQ ?_
   exact retB (by rw [hE, all_no hg hx (by simp_all)])
  refine rn2 ?_; refine zP (q_addi rfl rfl rfl (by omega)) ?_; refine zM ?_; refine aops_nil ?_
  exact ⟨⟨k + 1, hlt, all_go hg hx (by simp_all)⟩, weak_scrub' rfl (zz4 (zz1 ⟨(cgI (by dsimp only; omega)), rfl, trivial⟩)) ⟨rfl, rfl, rfl, rfl, rfl, rfl, rfl, rfl, rfl, trivial⟩, by dsimp only; omega⟩
 have hge : (a.es).length ≤ k := by simpa using h151
 refine rn4 ?_; refine zQ ?_
 exact retB (by rw [hE, all_end hg hge])
theorem leq_fc (l : Lat) (hO : OkL l) (a b : Val) (ha : elemB a l = true) (hb : elemB b l = true) : FC Tryz.prog 171 [.agg (latL l), .agg (valL a), .agg (valL b)] (bl (leqB l a b)) := leq_s l hO (fun q hq x y hx hy => leq_fc q (hO.part q hq) x y hx hy) a b ha hb
termination_by l
decreasing_by exact Lat.sizeOf_ps ‹_›
def elementsB (l : Lat) (vs : List Val) : Bool := vs.all (validV l)
def checkJ (l : Lat) (vs : List Val) : Int := if checkX l != 0 then 1 else if elementsB l vs then 0 else 4
theorem checkJ_ok {l : Lat} {vs : List Val} (h : checkJ l vs = 0) : checkX l = 0 ∧ ∀ v ∈ vs, elemB v l = true := by
 unfold checkJ at h
 split at h
 ·cases h
 rename_i h1
 split at h
 ·rename_i h2
  refine ⟨by simpa using h1, fun v hv => ?_⟩
  have := List.all_eq_true.1 h2 v hv
  simp only [validV, Bool.and_eq_true] at this
  exact this.2
 cases h
def leqJ (l : Lat) (a b : Val) : Bool := checkJ l [a, b] == 0 && leqB l a b
set_option maxRecDepth 100000 in
set_option maxHeartbeats 1000000 in
theorem elements_fc (l : Lat) (vs : List Val) : FC Tryz.prog 165 [.agg (latL l), vals vs] (bl (elementsB l vs)) := by
 refine fc_of_awp [4] Tryz.func165 rfl rfl 18 Tryz.ntmps165 (Nat.le_of_ble_eq_true rfl) ?_
 intro E hN
 refine a_lm 1 rfl (fun hl1 => ?_)
 refine rn13 ?_
 refine awp_loop (fun x : {k : Nat // k ≤ (vs).length ∧ (vs.drop k).all (validV l) = vs.all (validV l)} => ⟨[(2, .ptr 0 0), (7, vals vs), (8, i64 vs.length), (9, i64 (x.1 : Nat))], [(0, .var 26 (latL l))], 1⟩) (fun x => (vs).length - x.1) (⟨0, Nat.zero_le _, by simp⟩) ?_ ?_
 ·
  exact weak_scrub' rfl (zz2 ⟨(cgI (by simp)), rfl, (zz1 trivial)⟩) ⟨rfl, rfl, rfl, trivial⟩
 rintro ⟨k, hk, hg⟩
 dsimp only
 refine rn5 ?_
 refine zq ?_ ?_ <;> intro h9
 ·
  have hlt : k < (vs).length := by simpa using h9
  obtain ⟨x, hx⟩ := get_lt hlt
  refine rn5 ?_; refine zP (q_elem rfl rfl rfl k rfl _ (val_get hx) rfl) ?_; refine rn8 ?_; refine zP (q_call (validV_fc _ _) rfl rfl rfl) ?_
  refine rn2 ?_
  refine zq ?_ ?_ <;> intro h16
  ·
   refine rn3 ?_; refine zQ ?_
   exact retB (all_no hg hx (by simp_all)).symm
  refine rn2 ?_; refine zP (q_addi rfl rfl rfl (by omega)) ?_; refine zM ?_; refine aops_nil ?_
  exact ⟨⟨k + 1, hlt, all_go hg hx (by simp_all)⟩, weak_scrub' rfl (zz3 ⟨(cgI (by dsimp only; omega)), rfl, trivial⟩) ⟨rfl, rfl, rfl, trivial⟩, by dsimp only; omega⟩
 have hge : (vs).length ≤ k := by simpa using h9
 refine rn4 ?_; refine zQ ?_
 exact retB (all_end hg hge).symm
set_option maxRecDepth 100000 in
set_option maxHeartbeats 1000000 in
theorem checkJ_fc (l : Lat) (vs : List Val) : FC Tryz.prog 140 [.agg (latL l), vals vs] (i64 (checkJ l vs)) := by
 refine fc_of_awp [4] Tryz.func140 rfl rfl 12 Tryz.ntmps140 (Nat.le_of_ble_eq_true rfl) ?_
 intro E hN
 refine rn9 ?_; refine zP (q_call (check_fc l) rfl rfl rfl) ?_; refine rn2 ?_
 refine zq ?_ ?_ <;> intro h6
 ·
  refine rn3 ?_; refine zQ ?_
  exact retI (by simp_all [checkJ])
 refine rn6 ?_; refine zP (q_call (elements_fc l vs) rfl rfl rfl) ?_; refine rn2 ?_
 refine zq ?_ ?_ <;> intro h8
 ·
  refine rn3 ?_; refine zQ ?_
  exact retI (by simp_all [checkJ])
 refine rn4 ?_; refine zQ ?_
 exact retI (by simp_all [checkJ])
theorem vals_2 (a b : Val) : chunkA 4 2 [i64 a.N, svs a.nm, vals a.ps, ens a.es, i64 b.N, svs b.nm, vals b.ps, ens b.es] = [a, b].map valC := by
 show [valL a, valL b] = _
 simp [valC_eq]
end Go.Proofs.YtaecccdkjmipeaaGreat
