/-
  Plain laws: the reference's bounds, kind by kind, are the program's joins and meets.
  Plain laws: the reference's joined registers (maximal entries, sorted by exchanges) are the program's.
  Plain laws: the reference's chain of consequences.
-/
import Derived.Test.YtnjmbgnaplomaaaGreatB21
import Derived.Test.YtnjmbgnaplomaaaGreatC5
namespace Go.Proofs.YtnjmbgnaplomaaaGreat
open Go.RowKit
/-- the join (up) or the meet -/
def bdV (up : Bool) (l : Lat) (a b : Val) : Val := if up then joinV l a b else meetV l a b
theorem bd_up (l : Lat) (a b : Val) : bdV true l a b = joinV l a b := rfl
theorem bd_dn (l : Lat) (a b : Val) : bdV false l a b = meetV l a b := rfl
def pickN (a b : Val) (g : Bool) : Val := if decide (a.N > b.N) == g then a else b
def flatV (a b : Val) (up : Bool) : Val := if b.N == (if up then 0 else 2) || eqV a b then a else if a.N == (if up then 0 else 2) then b else .mk (if up then 2 else 0) [] [] []
theorem val_num {v w : Val} (h : v.nm = [] ∧ v.ps = [] ∧ v.es = []) (h' : w.nm = [] ∧ w.ps = [] ∧ w.es = []) (hN : v.N = w.N) : v = w := by
 cases v; cases w
 simp only [Val.nm, Val.ps, Val.es, Val.N] at h h' hN
 obtain ⟨rfl, rfl, rfl⟩ := h
 obtain ⟨rfl, rfl, rfl⟩ := h'
 rw [hN]
section
variable {l : Lat} {a b : Val}
theorem bd_else (up : Bool) (h4 : l.k ≠ 4) (h10 : l.k ≠ 10) (h9 : l.k ≠ 9) (h5 : l.k ≠ 5) (h6 : l.k ≠ 6) (h7 : l.k = 7 → joinX l.ps a.ps b.ps = none ∧ meetX l.ps a.ps b.ps = none) :
  bdV up l a b = if up then (if leqB l a b then b else if leqB l b a then a else .mk 2 [] [] []) else (if leqB l a b then a else if leqB l b a then b else Val.zero) := by
 unfold bdV
 rw [joinV_else h4 h10 h9 h5 h6 (fun h => (h7 h).1), meetV_else h4 h10 h5 h6 (fun h => (h7 h).2)]
theorem bd_num (up : Bool) (hk : l.k = 1 ∨ l.k = 2) : bdV up l a b = pickN a b up := by
 rw [bd_else up (by omega) (by omega) (by omega) (by omega) (by omega) (fun h => by omega)]
 unfold pickN
 have h1 := lq_num (a := a) (b := b) hk
 have h2 := lq_num (a := b) (b := a) hk
 by_cases h : a.N ≤ b.N
 ·rw [h1.2 h]
  have : decide (a.N > b.N) = false := decide_eq_false (by omega)
  rw [this]; cases up <;> rfl
 have e1 : leqB l a b = false := Bool.eq_false_iff.2 fun hb => h (h1.1 hb)
 rw [e1, h2.2 (by omega)]
 have : decide (a.N > b.N) = true := decide_eq_true (by omega)
 rw [this]; cases up <;> rfl
theorem bd_min (up : Bool) (hk : l.k = 3) (ha : elemB a l = true) (hb : elemB b l = true) : bdV up l a b = pickN a b (!up) := by
 rw [bd_else up (by omega) (by omega) (by omega) (by omega) (by omega) (fun h => by omega)]
 unfold pickN
 have h1 := lq_min (a := a) (b := b) hk
 have h2 := lq_min (a := b) (b := a) hk
 by_cases h : b.N ≤ a.N
 ·rw [h1.2 h]
  by_cases e : a.N = b.N
  ·have := val_num (el_num ha (by omega)) (el_num hb (by omega)) e
   subst this; cases up <;> simp
  have : decide (a.N > b.N) = true := decide_eq_true (by omega)
  rw [this]; cases up <;> rfl
 have e1 : leqB l a b = false := Bool.eq_false_iff.2 fun hb => h (h1.1 hb)
 rw [e1, h2.2 (by omega)]
 have : decide (a.N > b.N) = false := decide_eq_false (by omega)
 rw [this]; cases up <;> rfl
theorem bd_flat (up : Bool) (hk : l.k = 8) (ha : elemB a l = true) (hb : elemB b l = true) : bdV up l a b = flatV a b up := by
 rw [bd_else up (by omega) (by omega) (by omega) (by omega) (by omega) (fun h => by omega)]
 unfold flatV
 have e1 : leqB l a b = (a.N == 0 || b.N == 2 || eqV a b) := by rw [leqB_eq, hk]; rfl
 have e2 : leqB l b a = (b.N == 0 || a.N == 2 || eqV b a) := by rw [leqB_eq, hk]; rfl
 rw [e1, e2]
 by_cases e : a = b
 ·subst e
  rw [(eqV_iff a a).2 rfl]
  cases up <;> simp
 have n1 : eqV a b = false := Bool.eq_false_iff.2 fun hb => e ((eqV_iff _ _).1 hb)
 have n2 : eqV b a = false := Bool.eq_false_iff.2 fun hb => e ((eqV_iff _ _).1 hb).symm
 rw [n1, n2]
 rcases el_flat ha hk with ⟨h1, h1'⟩ | ⟨h1, s, h1', -⟩ <;> rcases el_flat hb hk with ⟨h2, h2'⟩ | ⟨h2, t, h2', -⟩ <;> rw [h1', h2'] at e ⊢
 ·rcases h1 with h1 | h1 <;> rcases h2 with h2 | h2 <;> rw [h1, h2] at e ⊢ <;> cases up <;> first | exact absurd rfl e | rfl
 ·rcases h1 with h1 | h1 <;> rw [h1] <;> cases up <;> rfl
 ·rcases h2 with h2 | h2 <;> rw [h2] <;> cases up <;> rfl
 cases up <;> rfl
theorem bd_set (up : Bool) (hk : l.k = 4) : bdV up l a b = .mk 0 (if up then uni a.nm b.nm else itr a.nm b.nm) [] [] := by
 unfold bdV
 rw [joinV_eq, meetV_eq, hk]
 cases up <;> rfl
theorem bd_closed (up : Bool) (hk : l.k = 10) : bdV up l a b = .mk 0 (if up then closeV l.nm l.rs (uni a.nm b.nm) else itr a.nm b.nm) [] [] := by
 unfold bdV
 rw [joinV_eq, meetV_eq, hk]
 cases up <;> rfl
theorem bd_reg (hk : l.k = 9) : bdV true l a b = .mk 0 [] [] (mergedE a.es b.es) := by
 rw [bd_up, joinV_eq, hk]; rfl
/-- of products -/
def bdZ (up : Bool) (ls : List Lat) (xs ys : List Val) : List Val := if up then joinZ ls xs ys else meetZ ls xs ys
theorem bd_prod (up : Bool) (hk : l.k = 6) : bdV up l a b = .mk 0 [] (bdZ up l.ps a.ps b.ps) [] := by
 unfold bdV bdZ
 rw [joinV_eq, meetV_eq, hk]
 cases up <;> rfl
theorem bz_len {up : Bool} {ls : List Lat} {xs ys : List Val} (h1 : xs.length = ls.length) (h2 : ys.length = ls.length) : (bdZ up ls xs ys).length = ls.length := by
 unfold bdZ; cases up
 ·exact mz_len h1 h2
 exact jz_len h1 h2
theorem bz_get {up : Bool} {ls : List Lat} {xs ys : List Val} {k : Nat} {q : Lat} {x y : Val} (h1 : ls[k]? = some q) (h2 : xs[k]? = some x) (h3 : ys[k]? = some y) : (bdZ up ls xs ys)[k]? = some (bdV up q x y) := by
 unfold bdZ bdV; cases up
 ·exact mz_get h1 h2 h3
 exact jz_get h1 h2 h3
theorem bd_lex (up : Bool) (hO : OkL l) (hk : l.k = 7) {p q : Lat} (hp : l.ps = [p, q]) {x1 x2 y1 y2 : Val} (pa : a.ps = [x1, x2]) (pb : b.ps = [y1, y2]) (hx : elemB x1 p = true) (hy : elemB y1 p = true) :
  bdV up l a b = if eqV x1 y1 then .mk 0 [] [x1, bdV up q x2 y2] [] else if leqB p x1 y1 == up then b else a := by
 cases he : eqV x1 y1 with
 | true =>
  unfold bdV
  rw [joinV_eq, meetV_eq, hk, hp, pa, pb]
  simp only [joinX, meetX, he]
  cases up <;> rfl
 | false =>
  have hne : x1 ≠ y1 := fun e => by rw [(eqV_iff _ _).2 e] at he; cases he
  rw [bd_else up (by omega) (by omega) (by omega) (by omega) (by omega) (fun _ => by rw [hp, pa, pb]; simp [joinX, meetX, he])]
  have e1 : leqB l a b = leqB p x1 y1 := by
   rw [Bool.eq_iff_iff, lq_lex hk hp pa pb]; simp [hne]
  have e2 : leqB l b a = leqB p y1 x1 := by
   rw [Bool.eq_iff_iff, lq_lex hk hp pb pa]; simp [Ne.symm hne]
  rw [e1, e2]
  cases h1 : leqB p x1 y1 with
  | true => cases up <;> simp
  | false =>
   have := (lex_total hO hk hp hx hy).resolve_left (by rw [h1]; decide)
   rw [this]
   cases up <;> simp
/-- of maps: what stands under a key -/
def bdF (up : Bool) (q : Lat) (a b : Val) (s : Nm) : Option Val := match partOf a s, partOf b s with
 | some x, some y => if eqV (bdV up q x y) (bottomV q) then none else some (bdV up q x y)
 | some x, none => if up then some x else none
 | none, some y => if up then some y else none
 | none, none => none
theorem fm_map {α β : Type} {f : α → Option β} {g : α → β} : ∀ {l : List α}, (∀ x ∈ l, f x = some (g x)) → l.filterMap f = l.map g
 | [], _ => rfl
 | x :: r, h => by rw [List.filterMap_cons, h x List.mem_cons_self, List.map_cons, fm_map (fun y hy => h y (List.mem_cons_of_mem _ hy))]
theorem fl_all {α : Type} {p : α → Bool} : ∀ {l : List α}, (∀ x ∈ l, p x = true) → l.filter p = l := fun h => List.filter_eq_self.2 h
theorem fm_fl {α β : Type} {f : α → Option β} (d : β) : ∀ (l : List α), l.filterMap f = (l.filter fun x => (f x).isSome).map fun x => (f x).getD d
 | [] => rfl
 | x :: r => by
  cases h : f x with
  | none => rw [List.filterMap_cons, h, fm_fl d r]; simp [h]
  | some y => rw [List.filterMap_cons, h, fm_fl d r]; simp [h]
theorem partOf_in {v : Val} {s : Nm} (h1 : v.nm.length = v.ps.length) (h2 : sortedB v.nm = true) (h : s ∈ v.nm) : ∃ x, partOf v s = some x ∧ x ∈ v.ps := by
 obtain ⟨k, hk⟩ := List.mem_iff_getElem?.1 h
 obtain ⟨x, hx⟩ := get_lt (show k < v.ps.length by rw [← h1]; exact (List.getElem?_eq_some_iff.1 hk).1)
 exact ⟨x, by rw [partOf_at h2 hk, hx], List.mem_of_getElem? hx⟩
theorem bd_map (up : Bool) (hO : OkL l) (hC : ChL l) (hk : l.k = 5) {q : Lat} {r : List Lat} (hp : l.ps = q :: r) (ha : elemB a l = true) (hb : elemB b l = true) :
  bdV up l a b = .mk 0 ((uni a.nm b.nm).filter fun s => (bdF up q a b s).isSome) ((uni a.nm b.nm).filterMap (bdF up q a b)) [] := by
 obtain ⟨a1, a2, a3, a4, a5, a6⟩ := el_map ha hk hp
 obtain ⟨b1, b2, b3, b4, b5, b6⟩ := el_map hb hk hp
 have hqm : q ∈ l.ps := by rw [hp]; exact List.mem_cons_self
 have oq := hO.part q hqm
 cases up
 ·-- meets
  have hE : bdV false l a b = .mk 0 (((a.nm.zip a.ps).filterMap (meetF q b)).map Prod.fst) (((a.nm.zip a.ps).filterMap (meetF q b)).map Prod.snd) [] := by rw [bd_dn, meetV_eq, hk, hp, meetM_map]; rfl
  have hbc : (bottomC q).1 = bottomV q := by unfold bottomC; rw [if_pos (hC.part q hqm).ok]
  have key : ∀ s v, (s, v) ∈ (a.nm.zip a.ps).filterMap (meetF q b) ↔ s ∈ a.nm ∧ s ∈ b.nm ∧ bdF false q a b s = some v := by
   intro s v
   rw [List.mem_filterMap]
   constructor
   ·rintro ⟨⟨t, x⟩, hx, hm⟩
    obtain ⟨k, hkk⟩ := List.mem_iff_getElem?.1 hx
    obtain ⟨k1, k2⟩ := List.getElem?_zip_eq_some.1 hkk
    unfold meetF at hm
    cases hpb : partOf b t with
    | none => rw [hpb] at hm; cases hm
    | some y =>
     rw [hpb] at hm
     simp only at hm
     split at hm
     ·cases hm
     rename_i hne
     simp only [Option.some.injEq, Prod.mk.injEq] at hm
     obtain ⟨rfl, rfl⟩ := hm
     have hsb : t ∈ b.nm := by
      by_cases hc : t ∈ b.nm
      ·exact hc
      rw [partOf_no hc] at hpb; cases hpb
     refine ⟨List.mem_of_getElem? k1, hsb, ?_⟩
     unfold bdF
     rw [partOf_at a4 k1, k2, hpb]
     simp only
     rw [hbc] at hne
     rw [bd_dn, if_neg hne]
   rintro ⟨h1, h2, h3⟩
   obtain ⟨k, k1⟩ := List.mem_iff_getElem?.1 h1
   obtain ⟨x, k2⟩ := get_lt (show k < a.ps.length by rw [← a3]; exact (List.getElem?_eq_some_iff.1 k1).1)
   refine ⟨(s, x), List.mem_of_getElem? (zip_get2 k1 k2), ?_⟩
   obtain ⟨y, hy, -⟩ := partOf_in b3 b4 h2
   unfold bdF at h3
   rw [partOf_at a4 k1, k2, hy] at h3
   simp only at h3
   unfold meetF
   rw [hy]
   simp only
   rw [hbc]
   split at h3
   ·cases h3
   rename_i hne
   rw [bd_dn] at h3 hne
   rw [if_neg hne]
   cases h3; rfl
  have hs1 : ((a.nm.zip a.ps).filterMap (meetF q b)).map Prod.fst = (uni a.nm b.nm).filter fun s => (bdF false q a b s).isSome := by
   refine pw_ext ?_ ((sorted_pw (uni_sorted a4 b4)).filter _) fun s => ?_
   ·rw [List.pairwise_map]
    refine List.Pairwise.filterMap (R := fun x y => Op.bytesLess x.1 y.1 = true) (meetF q b) (fun x y hxy x' hx' y' hy' => ?_) ?_
    ·have e : ∀ {z z' : Nm × Val}, meetF q b z = some z' → z'.1 = z.1 := fun {z z'} h => by
      unfold meetF at h
      split at h
      ·cases h
      split at h
      ·cases h
      cases h; rfl
     rw [e hx', e hy']; exact hxy
    have := sorted_pw a4
    have hz : (a.nm.zip a.ps).map Prod.fst = a.nm := List.map_fst_zip (by omega)
    rw [← hz, List.pairwise_map] at this
    exact this
   rw [List.mem_map, List.mem_filter, uni_mem a4 b4]
   constructor
   ·rintro ⟨⟨t, v⟩, hm, rfl⟩
    obtain ⟨h1, h2, h3⟩ := (key t v).1 hm
    exact ⟨.inl h1, by rw [h3]; rfl⟩
   rintro ⟨-, h⟩
   obtain ⟨v, hv⟩ := Option.isSome_iff_exists.1 h
   refine ⟨(s, v), (key s v).2 ⟨?_, ?_, hv⟩, rfl⟩
   ·by_cases hc : s ∈ a.nm
    ·exact hc
    unfold bdF at hv; rw [partOf_no hc] at hv; revert hv; cases partOf b s <;> simp
   by_cases hc : s ∈ b.nm
   ·exact hc
   unfold bdF at hv; rw [partOf_no hc] at hv; revert hv; cases partOf a s <;> simp
  rw [hE, fm_fl Val.zero (uni a.nm b.nm), ← hs1, List.map_map]
  congr 1
  refine List.map_congr_left fun z hz => ?_
  obtain ⟨h1, h2, h3⟩ := (key z.1 z.2).1 hz
  show z.2 = (bdF false q a b z.1).getD Val.zero
  rw [h3]; rfl
 -- joins
 have hE : bdV true l a b = .mk 0 (uni a.nm b.nm) ((uni a.nm b.nm).map (joinF q a b)) [] := by rw [bd_up, joinV_eq, hk, hp, joinM_map]; rfl
 have key : ∀ s ∈ uni a.nm b.nm, bdF true q a b s = some (joinF q a b s) := by
  intro s hs
  have hs' := (uni_mem a4 b4).1 hs
  unfold bdF joinF
  by_cases h1 : s ∈ a.nm <;> by_cases h2 : s ∈ b.nm
  ·obtain ⟨x, hx, mx⟩ := partOf_in a3 a4 h1
   obtain ⟨y, hy, my⟩ := partOf_in b3 b4 h2
   rw [hx, hy]
   simp only
   have L := join_lub q oq x y (a6 x mx).1 (b6 y my).1
   rw [bd_up, if_neg]
   intro he
   have he := (eqV_iff _ _).1 he
   refine (a6 x mx).2 (leq_anti q oq x _ (a6 x mx).1 (bot_elem q oq) ?_ (bot_least q oq x (a6 x mx).1))
   rw [← he]; exact L.le1
  ·obtain ⟨x, hx, mx⟩ := partOf_in a3 a4 h1
   rw [hx, partOf_no h2]; rfl
  ·obtain ⟨y, hy, my⟩ := partOf_in b3 b4 h2
   rw [hy, partOf_no h1]; rfl
  rcases hs' with h | h
  ·exact absurd h h1
  exact absurd h h2
 rw [hE, fm_map key, fl_all (fun s hs => by rw [key s hs]; rfl)]
end
end Go.Proofs.YtnjmbgnaplomaaaGreat

namespace Go.Proofs.YtnjmbgnaplomaaaGreat
open Go.RowKit
def keepQ (p q : En × Nat) : Bool := !(cmpEn p.1 q.1 == 0 && decide ((q.2 : Int) < (p.2 : Int)) || !(cmpEn p.1 q.1 == 0) && underR p.1 q.1)
def keepE (l : List En) (p : En × Nat) : Bool := l.zipIdx.all (keepQ p)
def maxE (l : List En) : List En := (l.zipIdx.filter (keepE l)).map Prod.fst
theorem zipE_mem {l : List En} {x : En} {k : Nat} : (x, k) ∈ l.zipIdx ↔ l[k]? = some x := by
 constructor
 ·intro h
  obtain ⟨j, hj⟩ := List.mem_iff_getElem?.1 h
  have h2 := (List.getElem?_eq_some_iff.1 hj).1
  rw [zipE_len] at h2
  have h3 := zipE_get (List.getElem?_eq_getElem h2)
  rw [hj] at h3
  cases h3
  exact List.getElem?_eq_getElem h2
 exact fun h => List.mem_of_getElem? (zipE_get h)
theorem zipE_up (l : List En) : l.zipIdx.Pairwise (fun p q => p.2 < q.2) := by
 have h : (l.zipIdx.map Prod.snd).Pairwise (· < ·) := by
  rw [List.zipIdx_map_snd]; exact List.pairwise_lt_range'
 rwa [List.pairwise_map] at h
theorem first_at {l : List En} {x : En} : ∀ k : Nat, l[k]? = some x → ∃ i : Nat, l[i]? = some x ∧ ∀ j : Nat, j < i → l[j]? ≠ some x := by
 intro k
 induction k using Nat.strongRecOn with
 | _ k ih =>
  intro h
  by_cases hc : ∃ j, j < k ∧ l[j]? = some x
  ·obtain ⟨j, hj, hx⟩ := hc
   exact ih j hj hx
  exact ⟨k, h, fun j hj hx => hc ⟨j, hj, hx⟩⟩
theorem maxE_nodup (l : List En) : (maxE l).Nodup := by
 show List.Pairwise _ _
 unfold maxE
 rw [List.pairwise_map]
 refine List.Pairwise.imp_of_mem (R := fun p q => p.2 < q.2) (fun {p q} hp hq h e => ?_) ((zipE_up l).filter _)
 have h1 := (List.mem_filter.1 hq).2
 have h2 := List.all_eq_true.1 h1 p (List.mem_filter.1 hp).1
 unfold keepQ at h2
 rw [e, cmpEn_ok.refl] at h2
 have h3 : decide ((p.2 : Int) < (q.2 : Int)) = true := decide_eq_true (by omega)
 rw [h3] at h2
 simp at h2
theorem maxE_mem {l : List En} (hv : ∀ x ∈ l, validC (-1) x.1 = true) {x : En} : x ∈ maxE l ↔ x ∈ l ∧ ∀ y ∈ l, ¬ ltE x y := by
 unfold maxE
 rw [List.mem_map]
 constructor
 ·rintro ⟨⟨y, k⟩, hm, rfl⟩
  obtain ⟨h1, h2⟩ := List.mem_filter.1 hm
  have hy := List.mem_of_getElem? (zipE_mem.1 h1)
  refine ⟨hy, fun z hz hlt => ?_⟩
  obtain ⟨j, hj⟩ := List.mem_iff_getElem?.1 hz
  have h3 := List.all_eq_true.1 h2 (z, j) (zipE_mem.2 hj)
  unfold keepQ at h3
  have hne : ¬ cmpEn y z = 0 := fun e => by
   have := cmpEn_ok.eq _ _ e
   subst this; exact ltE_irrefl _ hlt
  have hu : underR y z = true := by rw [underR_eq (hv _ hy) (hv _ hz), underB_iff (hv _ hy) (hv _ hz)]; exact .inl hlt
  simp [hne, hu] at h3
 rintro ⟨hx, hmx⟩
 obtain ⟨k, hk⟩ := List.mem_iff_getElem?.1 hx
 obtain ⟨i, hi, hf⟩ := first_at k hk
 refine ⟨(x, i), List.mem_filter.2 ⟨zipE_mem.2 hi, List.all_eq_true.2 fun q hq => ?_⟩, rfl⟩
 obtain ⟨z, j⟩ := q
 have hz := zipE_mem.1 hq
 have hzm := List.mem_of_getElem? hz
 unfold keepQ
 by_cases he : cmpEn x z = 0
 ·have e := cmpEn_ok.eq _ _ he
  subst e
  have : i ≤ j := Nat.le_of_not_lt fun h => hf j h hz
  simp [he, this]
 have hu : underR x z = false := by
  cases hu : underR x z
  ·rfl
  rw [underR_eq (hv _ hx) (hv _ hzm), underB_iff (hv _ hx) (hv _ hzm)] at hu
  rcases hu with h | rfl
  ·exact absurd h (hmx z hzm)
  exact absurd (cmpEn_ok.refl x) he
 simp [he, hu]
theorem maxE_merged {a b : List En} (ha : RegOk a) (hb : RegOk b) {x : En} : x ∈ maxE (a ++ b) ↔ x ∈ mergedE a b := by
 rw [maxE_mem (fun x hx => (List.mem_append.1 hx).elim (ha.valid x) (hb.valid x)), merged_mem ha hb]
 constructor
 ·rintro ⟨hx, hm⟩
  rcases List.mem_append.1 hx with h | h
  ·by_cases hc : ∃ y ∈ b, leE x y
   ·obtain ⟨y, hy, hl⟩ := hc
    rcases hl with hl | rfl
    ·exact absurd hl (hm y (List.mem_append.2 (.inr hy)))
    exact .inr ⟨hy, fun ⟨z, hz, hl⟩ => hm z (List.mem_append.2 (.inl hz)) hl⟩
   exact .inl ⟨h, hc⟩
  exact .inr ⟨h, fun ⟨z, hz, hl⟩ => hm z (List.mem_append.2 (.inl hz)) hl⟩
 rintro (⟨h, hn⟩ | ⟨h, hn⟩)
 ·refine ⟨List.mem_append.2 (.inl h), fun y hy hl => ?_⟩
  rcases List.mem_append.1 hy with hy | hy
  ·exact ha.anti x h y hy hl
  exact hn ⟨y, hy, .inl hl⟩
 refine ⟨List.mem_append.2 (.inr h), fun y hy hl => ?_⟩
 rcases List.mem_append.1 hy with hy | hy
 ·exact hn ⟨y, hy, hl⟩
 exact hb.anti x h y hy hl
/-- nothing behind a place below i is smaller -/
def selP (o : List En) (i : Nat) : Prop := ∀ (p q : Nat) (x y : En), p < i → p < q → o[p]? = some x → o[q]? = some y → 0 ≤ cmpEn y x
def selQ (o : List En) (i j : Nat) : Prop := ∀ (q : Nat) (x y : En), i < q → q < j → o[i]? = some x → o[q]? = some y → 0 ≤ cmpEn y x
theorem selP_zero (o : List En) : selP o 0 := fun _ _ _ _ h => absurd h (Nat.not_lt_zero _)
theorem selQ_zero (o : List En) (i : Nat) : selQ o i (i + 1) := fun _ _ _ h h2 => by omega
theorem sel_stay {o : List En} {i j : Nat} {x y : En} (hQ : selQ o i j) (hx : o[i]? = some x) (hy : o[j]? = some y) (h : 0 ≤ cmpEn y x) : selQ o i (j + 1) := fun q u v h1 h2 hu hv => by
 by_cases e : q = j
 ·subst e; rw [hx] at hu; rw [hy] at hv; cases hu; cases hv; exact h
 exact hQ q u v h1 (by omega) hu hv
theorem sel_end {o : List En} {i : Nat} (hP : selP o i) (hQ : selQ o i o.length) : selP o (i + 1) := fun p q x y h1 h2 hx hy => by
 by_cases e : p = i
 ·subst e; exact hQ q x y h2 ((List.getElem?_eq_some_iff.1 hy).1) hx hy
 exact hP p q x y (by omega) h2 hx hy
def swp (o : List En) (i j : Nat) (x y : En) : List En := (o.set i y).set j x
theorem swp_len {o : List En} {i j : Nat} {x y : En} : (swp o i j x y).length = o.length := by simp [swp]
theorem swp_get {o : List En} {i j : Nat} {x y : En} (hij : i < j) (hj : j < o.length) (q : Nat) : (swp o i j x y)[q]? = if q = j then some x else if q = i then some y else o[q]? := by
 unfold swp
 rw [List.getElem?_set, List.getElem?_set]
 by_cases h1 : q = j
 ·subst h1; simp [hj]
 rw [if_neg (Ne.symm h1), if_neg h1]
 by_cases h2 : q = i
 ·subst h2; simp; omega
 rw [if_neg (Ne.symm h2), if_neg h2]
theorem swp_perm {o : List En} {i j : Nat} {x y : En} (hx : o[i]? = some x) (hy : o[j]? = some y) : (swp o i j x y).Perm o := by
 obtain ⟨h1, rfl⟩ := List.getElem?_eq_some_iff.1 hx
 obtain ⟨h2, rfl⟩ := List.getElem?_eq_some_iff.1 hy
 unfold swp
 exact List.set_set_perm h1 h2
theorem sel_swap {o : List En} {i j : Nat} {x y : En} (hij : i < j) (hP : selP o i) (hQ : selQ o i j) (hx : o[i]? = some x) (hy : o[j]? = some y) (h : cmpEn y x < 0) : selP (swp o i j x y) i ∧ selQ (swp o i j x y) i (j + 1) := by
 have hj := (List.getElem?_eq_some_iff.1 hy).1
 constructor
 ·intro p q u v h1 h2 hu hv
  rw [swp_get hij hj] at hu hv
  rw [if_neg (by omega), if_neg (by omega)] at hu
  split at hv
  ·cases hv; exact hP p i u x h1 h1 hu hx
  split at hv
  ·cases hv; exact hP p j u y h1 (by omega) hu hy
  exact hP p q u v h1 h2 hu hv
 intro q u v h1 h2 hu hv
 rw [swp_get hij hj] at hu hv
 rw [if_neg (by omega), if_pos rfl] at hu
 cases hu
 split at hv
 ·cases hv
  have := cmpEn_ok.anti y x
  omega
 rw [if_neg (by omega)] at hv
 have h3 := hQ q x v h1 (by omega) hx hv
 have a1 := cmpEn_ok.anti x v
 have t := cmpEn_ok.trans y x v (by omega) (by omega)
 have := cmpEn_ok.anti y v
 omega
theorem sel_sorted {o : List En} (h : selP o o.length) : o.Pairwise (fun x y => cmpEn x y ≤ 0) := by
 rw [List.pairwise_iff_getElem]
 intro i j hi hj hij
 have := h i j _ _ hi hij (List.getElem?_eq_getElem hi) (List.getElem?_eq_getElem hj)
 have := cmpEn_ok.anti o[i] o[j]
 omega
theorem sel_eq {a b o : List En} (ha : RegOk a) (hb : RegOk b) (hp : o.Perm (maxE (a ++ b))) (h : selP o o.length) : o = mergedE a b := by
 have hm := merged_ok ha hb
 refine sortedEn_uniq (hp.trans ((List.perm_ext_iff_of_nodup (maxE_nodup _) hm.nodup).2 fun x => maxE_merged ha hb)) (sel_sorted h) (hm.sorted.imp (fun h => by omega))
end Go.Proofs.YtnjmbgnaplomaaaGreat

namespace Go.Proofs.YtnjmbgnaplomaaaGreat
open Go.RowKit
def chainF (rs : List Ru) : Nat → List Nm → List Int → List Nm × List Int
 | 0, t, u => (t, u)
 | f + 1, t, u => match fstR (firesR t) rs 0 with
  | some (k, r) => chainF rs f (t ++ [r.t]) (u ++ [(k : Int)])
  | none => (t, u)
theorem chainF_fuel {rs : List Ru} : ∀ (f g : Nat) (t : List Nm) (u : List Int), todo rs t ≤ f → todo rs t ≤ g → chainF rs f t u = chainF rs g t u
 | 0, 0, _, _, _, _ => rfl
 | 0, g + 1, t, u, h, _ => by
  unfold chainF
  cases hf : fstR (firesR t) rs 0 with
  | none => rfl
  | some p =>
   obtain ⟨h1, h2⟩ := fst_some _ rs 0 (j := p.1) (r := p.2) hf
   have := todo_lt h2 h1; omega
 | f + 1, 0, t, u, _, h => by
  unfold chainF
  cases hf : fstR (firesR t) rs 0 with
  | none => rfl
  | some p =>
   obtain ⟨h1, h2⟩ := fst_some _ rs 0 (j := p.1) (r := p.2) hf
   have := todo_lt h2 h1; omega
 | f + 1, g + 1, t, u, h, k => by
  unfold chainF
  cases hf : fstR (firesR t) rs 0 with
  | none => rfl
  | some p =>
   obtain ⟨h1, h2⟩ := fst_some _ rs 0 (j := p.1) (r := p.2) hf
   have := todo_lt h2 h1
   exact chainF_fuel f g _ _ (by omega) (by omega)
def chainC (rs : List Ru) (t : List Nm) (u : List Int) : List Nm × List Int := chainF rs (todo rs t) t u
section
variable {rs : List Ru} {t : List Nm} {u : List Int}
theorem chn_none (h : fstR (firesR t) rs 0 = none) : chainC rs t u = (t, u) := by
 unfold chainC
 cases todo rs t with
 | zero => rfl
 | succ f => unfold chainF; rw [h]
theorem chn_some {k : Nat} {r : Ru} (h : fstR (firesR t) rs 0 = some (k, r)) : chainC rs t u = chainC rs (t ++ [r.t]) (u ++ [(k : Int)]) := by
 obtain ⟨h1, h2⟩ := fst_some _ rs 0 (j := k) (r := r) h
 have h3 := todo_lt h2 h1
 unfold chainC
 obtain ⟨m, hm⟩ : ∃ m, todo rs t = m + 1 := ⟨todo rs t - 1, by omega⟩
 rw [hm]
 conv => lhs; unfold chainF
 rw [h]
 exact chainF_fuel _ _ _ _ (by omega) (Nat.le_refl _)
theorem chn_iter : ∀ (n : Nat) (t : List Nm) (u : List Int), todo rs t ≤ n → (chainC rs t u).1 = iterC rs rs.length t := by
 intro n
 induction n with
 | zero =>
  intro t u h
  cases hf : fstR (firesR t) rs 0 with
  | none => rw [chn_none hf, iter_stay (step_stay hf)]
  | some p =>
   obtain ⟨h1, h2⟩ := fst_some _ rs 0 (j := p.1) (r := p.2) hf
   have := todo_lt h2 h1; omega
 | succ n ih =>
  intro t u h
  cases hf : fstR (firesR t) rs 0 with
  | none => rw [chn_none hf, iter_stay (step_stay hf)]
  | some p =>
   obtain ⟨h1, h2⟩ := fst_some _ rs 0 (j := p.1) (r := p.2) hf
   have := todo_lt h2 h1
   rw [chn_some (k := p.1) (r := p.2) hf, ih _ _ (by omega), iter_go (k := p.1) (r := p.2) hf]
end
theorem chn_out (rs : List Ru) (t : List Nm) (u : List Int) : (chainC rs t u).1 = iterC rs rs.length t := chn_iter _ t u (Nat.le_refl _)
end Go.Proofs.YtnjmbgnaplomaaaGreat
