/-
  Plain laws: the reference's bounds, kind by kind, are the pr
-/
import Derived.Test.YtnkkokmmeplbgaaGreatB23
import Derived.Test.YtnkkokmmeplbgaaGreatC5
namespace Go.Proofs.YtnkkokmmeplbgaaGreat
open Go.RowKit
def bdV (up : Bool) (l : Qv) (a b : Qp) : Qp := if up then Qk l a b else Qcw l a b
theorem Qq9 (l : Qv) (a b : Qp) : bdV true l a b = Qk l a b := rfl
theorem QpI (l : Qv) (a b : Qp) : bdV false l a b = Qcw l a b := rfl
def QhC (a b : Qp) (g : Bool) : Qp := if decide (a.N > b.N) == g then a else b
def KJ (a b : Qp) (up : Bool) : Qp := if b.N == (if up then 0 else 2) || WH a b then a else if a.N == (if up then 0 else 2) then b else .mk (if up then 2 else 0) [] [] []
theorem Qsp {v w : Qp} (h : v.nm = [] ∧ v.ps = [] ∧ v.es = []) (h' : w.nm = [] ∧ w.ps = [] ∧ w.es = []) (hN : v.N = w.N) : v = w := by
 cases v; cases w
 simp only [Qp.nm, Qp.ps, Qp.es, Qp.N] at h h' hN
 obtain ⟨rfl, rfl, rfl⟩ := h;obtain ⟨rfl, rfl, rfl⟩ := h';rw [hN]
section
variable {l : Qv} {a b : Qp}
theorem Qgp (up : Bool) (h4 : l.k ≠ 4) (h10 : l.k ≠ 10) (h9 : l.k ≠ 9) (h5 : l.k ≠ 5) (h6 : l.k ≠ 6) (h7 : l.k = 7 → Qaa l.ps a.ps b.ps = none ∧ QiJ l.ps a.ps b.ps = none) :
  bdV up l a b = if up then (if QJ l a b then b else if QJ l b a then a else .mk 2 [] [] []) else (if QJ l a b then a else if QJ l b a then b else Qp.zero) := by
 unfold bdV
 rw [YK h4 h10 h9 h5 h6 (fun h => (h7 h).1), QmK h4 h10 h5 h6 (fun h => (h7 h).2)]
theorem QpF (up : Bool) (hk : l.k = 1 ∨ l.k = 2) : bdV up l a b = QhC a b up := by
 rw [Qgp up (by omega) (by omega) (by omega) (by omega) (by omega) (fun h => by omega)]
 unfold QhC
 have h1 := Yg (a := a) (b := b) hk
 have h2 := Yg (a := b) (b := a) hk
 by_cases h : a.N ≤ b.N
 ·rw [h1.2 h]
  have : decide (a.N > b.N) = false := decide_eq_false (by omega)
  rw [this]; cases up <;> rfl
 have e1 : QJ l a b = false := Bool.eq_false_iff.2 fun hb => h (h1.1 hb)
 rw [e1, h2.2 (by omega)]
 have : decide (a.N > b.N) = true := decide_eq_true (by omega)
 rw [this]; cases up <;> rfl
theorem QuR (up : Bool) (hk : l.k = 3) (ha : Qw a l = true) (hb : Qw b l = true) : bdV up l a b = QhC a b (!up) := by
 rw [Qgp up (by omega) (by omega) (by omega) (by omega) (by omega) (fun h => by omega)]
 unfold QhC
 have h1 := Qad (a := a) (b := b) hk
 have h2 := Qad (a := b) (b := a) hk
 by_cases h : b.N ≤ a.N
 ·rw [h1.2 h]
  by_cases e : a.N = b.N
  ·have := Qsp (QjP ha (by omega)) (QjP hb (by omega)) e
   subst this; cases up <;> simp
  have : decide (a.N > b.N) = true := decide_eq_true (by omega)
  rw [this]; cases up <;> rfl
 have e1 : QJ l a b = false := Bool.eq_false_iff.2 fun hb => h (h1.1 hb)
 rw [e1, h2.2 (by omega)]
 have : decide (a.N > b.N) = false := decide_eq_false (by omega)
 rw [this]; cases up <;> rfl
theorem Qty (up : Bool) (hk : l.k = 8) (ha : Qw a l = true) (hb : Qw b l = true) : bdV up l a b = KJ a b up := by
 rw [Qgp up (by omega) (by omega) (by omega) (by omega) (by omega) (fun h => by omega)]
 unfold KJ
 have e1 : QJ l a b = (a.N == 0 || b.N == 2 || WH a b) := by rw [XN, hk]; rfl
 have e2 : QJ l b a = (b.N == 0 || a.N == 2 || WH b a) := by rw [XN, hk]; rfl
 rw [e1, e2]
 by_cases e : a = b
 ·subst e
  rw [(Jl a a).2 rfl]
  cases up <;> simp
 have n1 : WH a b = false := Bool.eq_false_iff.2 fun hb => e ((Jl _ _).1 hb)
 have n2 : WH b a = false := Bool.eq_false_iff.2 fun hb => e ((Jl _ _).1 hb).symm
 rw [n1, n2]
 rcases Qdj ha hk with ⟨h1, h1'⟩ | ⟨h1, s, h1', -⟩ <;> rcases Qdj hb hk with ⟨h2, h2'⟩ | ⟨h2, t, h2', -⟩ <;> rw [h1', h2'] at e ⊢
 ·rcases h1 with h1 | h1 <;> rcases h2 with h2 | h2 <;> rw [h1, h2] at e ⊢ <;> cases up <;> first | exact absurd rfl e | rfl
 ·rcases h1 with h1 | h1 <;> rw [h1] <;> cases up <;> rfl
 ·rcases h2 with h2 | h2 <;> rw [h2] <;> cases up <;> rfl
 cases up <;> rfl
theorem QqB (up : Bool) (hk : l.k = 4) : bdV up l a b = .mk 0 (if up then K6 a.nm b.nm else itr a.nm b.nm) [] [] := by
 unfold bdV
 rw [X9, Qb0, hk]
 cases up <;> rfl
theorem Qh1 (up : Bool) (hk : l.k = 10) : bdV up l a b = .mk 0 (if up then KG l.nm l.rs (K6 a.nm b.nm) else itr a.nm b.nm) [] [] := by
 unfold bdV
 rw [X9, Qb0, hk]
 cases up <;> rfl
theorem QuE (hk : l.k = 9) : bdV true l a b = .mk 0 [] [] (JE a.es b.es) := by
 rw [Qq9, X9, hk]; rfl
def bdZ (up : Bool) (ls : List Qv) (xs ys : List Qp) : List Qp := if up then Qac ls xs ys else QdU ls xs ys
theorem QtC (up : Bool) (hk : l.k = 6) : bdV up l a b = .mk 0 [] (bdZ up l.ps a.ps b.ps) [] := by
 unfold bdV bdZ
 rw [X9, Qb0, hk]
 cases up <;> rfl
theorem Qvz {up : Bool} {ls : List Qv} {xs ys : List Qp} (h1 : xs.length = ls.length) (h2 : ys.length = ls.length) : (bdZ up ls xs ys).length = ls.length := by
 unfold bdZ; cases up
 ·exact QqE h1 h2
 exact QgA h1 h2
theorem QvA {up : Bool} {ls : List Qv} {xs ys : List Qp} {k : Nat} {q : Qv} {x y : Qp} (h1 : ls[k]? = some q) (h2 : xs[k]? = some x) (h3 : ys[k]? = some y) : (bdZ up ls xs ys)[k]? = some (bdV up q x y) := by
 unfold bdZ bdV; cases up
 ·exact Qqi h1 h2 h3
 exact Qhn h1 h2 h3
theorem Qmk (up : Bool) (hO : YM l) (hk : l.k = 7) {p q : Qv} (hp : l.ps = [p, q]) {x1 x2 y1 y2 : Qp} (pa : a.ps = [x1, x2]) (pb : b.ps = [y1, y2]) (hx : Qw x1 p = true) (hy : Qw y1 p = true) :
  bdV up l a b = if WH x1 y1 then .mk 0 [] [x1, bdV up q x2 y2] [] else if QJ p x1 y1 == up then b else a := by
 cases he : WH x1 y1 with
 | true =>
  unfold bdV
  rw [X9, Qb0, hk, hp, pa, pb]
  simp only [Qaa, QiJ, he]
  cases up <;> rfl
 | false =>
  have hne : x1 ≠ y1 := fun e => by rw [(Jl _ _).2 e] at he; cases he
  rw [Qgp up (by omega) (by omega) (by omega) (by omega) (by omega) (fun _ => by rw [hp, pa, pb]; simp [Qaa, QiJ, he])]
  have e1 : QJ l a b = QJ p x1 y1 := by
   rw [Bool.eq_iff_iff, Kg hk hp pa pb]; simp [hne]
  have e2 : QJ l b a = QJ p y1 x1 := by
   rw [Bool.eq_iff_iff, Kg hk hp pb pa]; simp [Ne.symm hne]
  rw [e1, e2]
  cases h1 : QJ p x1 y1 with
  | true => cases up <;> simp
  | false =>
   have := (Qic hO hk hp hx hy).resolve_left (by rw [h1]; decide)
   rw [this]
   cases up <;> simp
def bdF (up : Bool) (q : Qv) (a b : Qp) (s : Nm) : Option Qp := match XB a s, XB b s with
 | some x, some y => if WH (bdV up q x y) (Qn q) then none else some (bdV up q x y)
 | some x, none => if up then some x else none
 | none, some y => if up then some y else none
 | none, none => none
theorem Qrp {α β : Type} {f : α → Option β} {g : α → β} : ∀ {l : List α}, (∀ x ∈ l, f x = some (g x)) → l.filterMap f = l.map g
 | [], _ => rfl
 | x :: r, h => by rw [List.filterMap_cons, h x List.mem_cons_self, List.map_cons, Qrp (fun y hy => h y (List.mem_cons_of_mem _ hy))]
theorem Qu7 {α : Type} {p : α → Bool} : ∀ {l : List α}, (∀ x ∈ l, p x = true) → l.filter p = l := fun h => List.filter_eq_self.2 h
theorem QrS {α β : Type} {f : α → Option β} (d : β) : ∀ (l : List α), l.filterMap f = (l.filter fun x => (f x).isSome).map fun x => (f x).getD d
 | [] => rfl
 | x :: r => by
  cases h : f x with
  | none => rw [List.filterMap_cons, h, QrS d r]; simp [h]
  | some y => rw [List.filterMap_cons, h, QrS d r]; simp [h]
theorem Qa3 {v : Qp} {s : Nm} (h1 : v.nm.length = v.ps.length) (h2 : Qt v.nm = true) (h : s ∈ v.nm) : ∃ x, XB v s = some x ∧ x ∈ v.ps := by
 obtain ⟨k, hk⟩ := List.mem_iff_getElem?.1 h;obtain ⟨x, hx⟩ := Qq (show k < v.ps.length by rw [← h1]; exact (List.getElem?_eq_some_iff.1 hk).1);exact ⟨x, by rw [Qa0 h2 hk, hx], List.mem_of_getElem? hx⟩
theorem Qvk (up : Bool) (hO : YM l) (hC : ChL l) (hk : l.k = 5) {q : Qv} {r : List Qv} (hp : l.ps = q :: r) (ha : Qw a l = true) (hb : Qw b l = true) :
  bdV up l a b = .mk 0 ((K6 a.nm b.nm).filter fun s => (bdF up q a b s).isSome) ((K6 a.nm b.nm).filterMap (bdF up q a b)) [] := by
 obtain ⟨a1, a2, a3, a4, a5, a6⟩ := Kc ha hk hp;obtain ⟨b1, b2, b3, b4, b5, b6⟩ := Kc hb hk hp
 have hqm : q ∈ l.ps := by rw [hp]; exact List.mem_cons_self
 have oq := hO.part q hqm
 cases up
 ·-- meets
  have hE : bdV false l a b = .mk 0 (((a.nm.zip a.ps).filterMap (QdO q b)).map Prod.fst) (((a.nm.zip a.ps).filterMap (QdO q b)).map Prod.snd) [] := by rw [QpI, Qb0, hk, hp, Qot]; rfl
  have hbc : (YC q).1 = Qn q := by unfold YC; rw [if_pos (hC.part q hqm).ok]
  have key : ∀ s v, (s, v) ∈ (a.nm.zip a.ps).filterMap (QdO q b) ↔ s ∈ a.nm ∧ s ∈ b.nm ∧ bdF false q a b s = some v := by
   intro s v;rw [List.mem_filterMap]
   constructor
   ·rintro ⟨⟨t, x⟩, hx, hm⟩
    obtain ⟨k, hkk⟩ := List.mem_iff_getElem?.1 hx;obtain ⟨k1, k2⟩ := List.getElem?_zip_eq_some.1 hkk
    unfold QdO at hm
    cases hpb : XB b t with
    | none => rw [hpb] at hm; cases hm
    | some y =>
     rw [hpb] at hm
     simp only at hm
     split at hm
     ·cases hm
     rename_i hne
     simp only [Option.some.injEq, Prod.mk.injEq] at hm
     obtain ⟨rfl, rfl⟩ := hm
     have hsb : t ∈ b.nm := by
      by_cases hc : t ∈ b.nm
      ·exact hc
      rw [Wo hc] at hpb; cases hpb
     refine ⟨List.mem_of_getElem? k1, hsb, ?_⟩
     unfold bdF
     rw [Qa0 a4 k1, k2, hpb]
     simp only
     rw [hbc] at hne;rw [QpI, if_neg hne]
   rintro ⟨h1, h2, h3⟩;obtain ⟨k, k1⟩ := List.mem_iff_getElem?.1 h1;obtain ⟨x, k2⟩ := Qq (show k < a.ps.length by rw [← a3]; exact (List.getElem?_eq_some_iff.1 k1).1);refine ⟨(s, x), List.mem_of_getElem? (Qat k1 k2), ?_⟩;obtain ⟨y, hy, -⟩ := Qa3 b3 b4 h2
   unfold bdF at h3
   rw [Qa0 a4 k1, k2, hy] at h3
   simp only at h3
   unfold QdO
   rw [hy]
   simp only
   rw [hbc]
   split at h3
   ·cases h3
   rename_i hne
   rw [QpI] at h3 hne;rw [if_neg hne]
   cases h3; rfl
  have hs1 : ((a.nm.zip a.ps).filterMap (QdO q b)).map Prod.fst = (K6 a.nm b.nm).filter fun s => (bdF false q a b s).isSome := by
   refine Qp5 ?_ ((XU (Qag a4 b4)).filter _) fun s => ?_
   ·rw [List.pairwise_map]
    refine List.Pairwise.filterMap (R := fun x y => Op.bytesLess x.1 y.1 = true) (QdO q b) (fun x y hxy x' hx' y' hy' => ?_) ?_
    ·have e : ∀ {z z' : Nm × Qp}, QdO q b z = some z' → z'.1 = z.1 := fun {z z'} h => by
      unfold QdO at h
      split at h
      ·cases h
      split at h
      ·cases h
      cases h; rfl
     rw [e hx', e hy']; exact hxy
    have := XU a4
    have hz : (a.nm.zip a.ps).map Prod.fst = a.nm := List.map_fst_zip (by omega)
    rw [← hz, List.pairwise_map] at this;exact this
   rw [List.mem_map, List.mem_filter, WZ a4 b4]
   constructor
   ·rintro ⟨⟨t, v⟩, hm, rfl⟩
    obtain ⟨h1, h2, h3⟩ := (key t v).1 hm;exact ⟨.inl h1, by rw [h3]; rfl⟩
   rintro ⟨-, h⟩;obtain ⟨v, hv⟩ := Option.isSome_iff_exists.1 h;refine ⟨(s, v), (key s v).2 ⟨?_, ?_, hv⟩, rfl⟩
   ·by_cases hc : s ∈ a.nm
    ·exact hc
    unfold bdF at hv; rw [Wo hc] at hv; revert hv; cases XB b s <;> simp
   by_cases hc : s ∈ b.nm
   ·exact hc
   unfold bdF at hv; rw [Wo hc] at hv; revert hv; cases XB a s <;> simp
  rw [hE, QrS Qp.zero (K6 a.nm b.nm), ← hs1, List.map_map]
  congr 1
  refine List.map_congr_left fun z hz => ?_
  obtain ⟨h1, h2, h3⟩ := (key z.1 z.2).1 hz
  show z.2 = (bdF false q a b z.1).getD Qp.zero
  rw [h3]; rfl
 have hE : bdV true l a b = .mk 0 (K6 a.nm b.nm) ((K6 a.nm b.nm).map (Yc q a b)) [] := by rw [Qq9, X9, hk, hp, QdF]; rfl
 have key : ∀ s ∈ K6 a.nm b.nm, bdF true q a b s = some (Yc q a b s) := by
  intro s hs
  have hs' := (WZ a4 b4).1 hs
  unfold bdF Yc
  by_cases h1 : s ∈ a.nm <;> by_cases h2 : s ∈ b.nm
  ·obtain ⟨x, hx, mx⟩ := Qa3 a3 a4 h1
   obtain ⟨y, hy, my⟩ := Qa3 b3 b4 h2;rw [hx, hy]
   simp only
   have L := QbP q oq x y (a6 x mx).1 (b6 y my).1
   rw [Qq9, if_neg];intro he
   have he := (Jl _ _).1 he
   refine (a6 x mx).2 (Qaw q oq x _ (a6 x mx).1 (Qbe q oq) ?_ (Ww q oq x (a6 x mx).1))
   rw [← he]; exact L.le1
  ·obtain ⟨x, hx, mx⟩ := Qa3 a3 a4 h1
   rw [hx, Wo h2]; rfl
  ·obtain ⟨y, hy, my⟩ := Qa3 b3 b4 h2
   rw [hy, Wo h1]; rfl
  rcases hs' with h | h
  ·exact absurd h h1
  exact absurd h h2
 rw [hE, Qrp key, Qu7 (fun s hs => by rw [key s hs]; rfl)]
end
def Qep (p q : En × Nat) : Bool := !(Jh p.1 q.1 == 0 && decide ((q.2 : Int) < (p.2 : Int)) || !(Jh p.1 q.1 == 0) && Qae p.1 q.1)
def Qf1 (l : List En) (p : En × Nat) : Bool := l.zipIdx.all (Qep p)
def QfG (l : List En) : List En := (l.zipIdx.filter (Qf1 l)).map Prod.fst
theorem Qe2 {l : List En} {x : En} {k : Nat} : (x, k) ∈ l.zipIdx ↔ l[k]? = some x := by
 constructor
 ·intro h
  obtain ⟨j, hj⟩ := List.mem_iff_getElem?.1 h
  have h2 := (List.getElem?_eq_some_iff.1 hj).1
  rw [Qba] at h2
  have h3 := XI (List.getElem?_eq_getElem h2)
  rw [hj] at h3
  cases h3
  exact List.getElem?_eq_getElem h2
 exact fun h => List.mem_of_getElem? (XI h)
theorem QtH (l : List En) : l.zipIdx.Pairwise (fun p q => p.2 < q.2) := by
 have h : (l.zipIdx.map Prod.snd).Pairwise (· < ·) := by
  rw [List.zipIdx_map_snd]; exact List.pairwise_lt_range'
 rwa [List.pairwise_map] at h
theorem Qq1 {l : List En} {x : En} : ∀ k : Nat, l[k]? = some x → ∃ i : Nat, l[i]? = some x ∧ ∀ j : Nat, j < i → l[j]? ≠ some x := by
 intro k
 induction k using Nat.strongRecOn with
 | _ k ih =>
  intro h
  by_cases hc : ∃ j, j < k ∧ l[j]? = some x
  ·obtain ⟨j, hj, hx⟩ := hc
   exact ih j hj hx
  exact ⟨k, h, fun j hj hx => hc ⟨j, hj, hx⟩⟩
theorem QmE (l : List En) : (QfG l).Nodup := by
 show List.Pairwise _ _
 unfold QfG
 rw [List.pairwise_map];refine List.Pairwise.imp_of_mem (R := fun p q => p.2 < q.2) (fun {p q} hp hq h e => ?_) ((QtH l).filter _)
 have h1 := (List.mem_filter.1 hq).2
 have h2 := List.all_eq_true.1 h1 p (List.mem_filter.1 hp).1
 unfold Qep at h2
 rw [e, Jo.refl] at h2
 have h3 : decide ((p.2 : Int) < (q.2 : Int)) = true := decide_eq_true (by omega)
 rw [h3] at h2
 simp at h2
theorem QqI {l : List En} (hv : ∀ x ∈ l, QV (-1) x.1 = true) {x : En} : x ∈ QfG l ↔ x ∈ l ∧ ∀ y ∈ l, ¬ ltE x y := by
 unfold QfG
 rw [List.mem_map]
 constructor
 ·rintro ⟨⟨y, k⟩, hm, rfl⟩
  obtain ⟨h1, h2⟩ := List.mem_filter.1 hm
  have hy := List.mem_of_getElem? (Qe2.1 h1)
  refine ⟨hy, fun z hz hlt => ?_⟩;obtain ⟨j, hj⟩ := List.mem_iff_getElem?.1 hz
  have h3 := List.all_eq_true.1 h2 (z, j) (Qe2.2 hj)
  unfold Qep at h3
  have hne : ¬ Jh y z = 0 := fun e => by
   have := Jo.eq _ _ e
   subst this; exact Qea _ hlt
  have hu : Qae y z = true := by rw [Qdv (hv _ hy) (hv _ hz), Qa7 (hv _ hy) (hv _ hz)]; exact .inl hlt
  simp [hne, hu] at h3
 rintro ⟨hx, hmx⟩;obtain ⟨k, hk⟩ := List.mem_iff_getElem?.1 hx;obtain ⟨i, hi, hf⟩ := Qq1 k hk;refine ⟨(x, i), List.mem_filter.2 ⟨Qe2.2 hi, List.all_eq_true.2 fun q hq => ?_⟩, rfl⟩;obtain ⟨z, j⟩ := q
 have hz := Qe2.1 hq
 have hzm := List.mem_of_getElem? hz
 unfold Qep
 by_cases he : Jh x z = 0
 ·have e := Jo.eq _ _ he
  subst e
  have : i ≤ j := Nat.le_of_not_lt fun h => hf j h hz
  simp [he, this]
 have hu : Qae x z = false := by
  cases hu : Qae x z
  ·rfl
  rw [Qdv (hv _ hx) (hv _ hzm), Qa7 (hv _ hx) (hv _ hzm)] at hu
  rcases hu with h | rfl
  ·exact absurd h (hmx z hzm)
  exact absurd (Jo.refl x) he
 simp [he, hu]
theorem QkB {a b : List En} (ha : J0 a) (hb : J0 b) {x : En} : x ∈ QfG (a ++ b) ↔ x ∈ JE a b := by
 rw [QqI (fun x hx => (List.mem_append.1 hx).elim (ha.valid x) (hb.valid x)), KA ha hb]
 constructor
 ·rintro ⟨hx, hm⟩
  rcases List.mem_append.1 hx with h | h
  ·by_cases hc : ∃ y ∈ b, leE x y
   ·obtain ⟨y, hy, hl⟩ := hc
    rcases hl with hl | rfl
    ·exact absurd hl (hm y (List.mem_append.2 (.inr hy)))
    exact .inr ⟨hy, fun ⟨z, hz, hl⟩ => hm z (List.mem_append.2 (.inl hz)) hl⟩
   exact .inl ⟨h, hc⟩
  exact .inr ⟨h, fun ⟨z, hz, hl⟩ => hm z (List.mem_append.2 (.inl hz)) hl⟩
 rintro (⟨h, hn⟩ | ⟨h, hn⟩)
 ·refine ⟨List.mem_append.2 (.inl h), fun y hy hl => ?_⟩
  rcases List.mem_append.1 hy with hy | hy
  ·exact ha.anti x h y hy hl
  exact hn ⟨y, hy, .inl hl⟩
 refine ⟨List.mem_append.2 (.inr h), fun y hy hl => ?_⟩
 rcases List.mem_append.1 hy with hy | hy
 ·exact hn ⟨y, hy, hl⟩
 exact hb.anti x h y hy hl
def Qjo (o : List En) (i : Nat) : Prop := ∀ (p q : Nat) (x y : En), p < i → p < q → o[p]? = some x → o[q]? = some y → 0 ≤ Jh y x
def Qmn (o : List En) (i j : Nat) : Prop := ∀ (q : Nat) (x y : En), i < q → q < j → o[i]? = some x → o[q]? = some y → 0 ≤ Jh y x
theorem Qo1 (o : List En) : Qjo o 0 := fun _ _ _ _ h => absurd h (Nat.not_lt_zero _)
theorem Qow (o : List En) (i : Nat) : Qmn o i (i + 1) := fun _ _ _ h h2 => by omega
theorem Qr2 {o : List En} {i j : Nat} {x y : En} (hQ : Qmn o i j) (hx : o[i]? = some x) (hy : o[j]? = some y) (h : 0 ≤ Jh y x) : Qmn o i (j + 1) := fun q u v h1 h2 hu hv => by
 by_cases e : q = j
 ·subst e; rw [hx] at hu; rw [hy] at hv; cases hu; cases hv; exact h
 exact hQ q u v h1 (by omega) hu hv
theorem Qti {o : List En} {i : Nat} (hP : Qjo o i) (hQ : Qmn o i o.length) : Qjo o (i + 1) := fun p q x y h1 h2 hx hy => by
 by_cases e : p = i
 ·subst e; exact hQ q x y h2 ((List.getElem?_eq_some_iff.1 hy).1) hx hy
 exact hP p q x y (by omega) h2 hx hy
def swp (o : List En) (i j : Nat) (x y : En) : List En := (o.set i y).set j x
theorem QeS {o : List En} {i j : Nat} {x y : En} : (swp o i j x y).length = o.length := by simp [swp]
theorem Qn9 {o : List En} {i j : Nat} {x y : En} (hij : i < j) (hj : j < o.length) (q : Nat) : (swp o i j x y)[q]? = if q = j then some x else if q = i then some y else o[q]? := by
 unfold swp
 rw [List.getElem?_set, List.getElem?_set]
 by_cases h1 : q = j
 ·subst h1; simp [hj]
 rw [if_neg (Ne.symm h1), if_neg h1]
 by_cases h2 : q = i
 ·subst h2; simp; omega
 rw [if_neg (Ne.symm h2), if_neg h2]
theorem Qk6 {o : List En} {i j : Nat} {x y : En} (hx : o[i]? = some x) (hy : o[j]? = some y) : (swp o i j x y).Perm o := by
 obtain ⟨h1, rfl⟩ := List.getElem?_eq_some_iff.1 hx;obtain ⟨h2, rfl⟩ := List.getElem?_eq_some_iff.1 hy
 unfold swp
 exact List.set_set_perm h1 h2
theorem Qe7 {o : List En} {i j : Nat} {x y : En} (hij : i < j) (hP : Qjo o i) (hQ : Qmn o i j) (hx : o[i]? = some x) (hy : o[j]? = some y) (h : Jh y x < 0) : Qjo (swp o i j x y) i ∧ Qmn (swp o i j x y) i (j + 1) := by
 have hj := (List.getElem?_eq_some_iff.1 hy).1
 constructor
 ·intro p q u v h1 h2 hu hv
  rw [Qn9 hij hj] at hu hv;rw [if_neg (by omega), if_neg (by omega)] at hu
  split at hv
  ·cases hv; exact hP p i u x h1 h1 hu hx
  split at hv
  ·cases hv; exact hP p j u y h1 (by omega) hu hy
  exact hP p q u v h1 h2 hu hv
 intro q u v h1 h2 hu hv;rw [Qn9 hij hj] at hu hv;rw [if_neg (by omega), if_pos rfl] at hu
 cases hu
 split at hv
 ·cases hv
  have := Jo.anti y x
  omega
 rw [if_neg (by omega)] at hv
 have h3 := hQ q x v h1 (by omega) hx hv
 have a1 := Jo.anti x v
 have t := Jo.trans y x v (by omega) (by omega)
 have := Jo.anti y v
 omega
theorem Qmz {o : List En} (h : Qjo o o.length) : o.Pairwise (fun x y => Jh x y ≤ 0) := by
 rw [List.pairwise_iff_getElem];intro i j hi hj hij
 have := h i j _ _ hi hij (List.getElem?_eq_getElem hi) (List.getElem?_eq_getElem hj)
 have := Jo.anti o[i] o[j]
 omega
theorem Qvf {a b o : List En} (ha : J0 a) (hb : J0 b) (hp : o.Perm (QfG (a ++ b))) (h : Qjo o o.length) : o = JE a b := by
 have hm := QiA ha hb
 refine QdV (hp.trans ((List.perm_ext_iff_of_nodup (QmE _) hm.nodup).2 fun x => QkB ha hb)) (Qmz h) (hm.sorted.imp (fun h => by omega))
def Qb9 (rs : List Ru) : Nat → List Nm → List Int → List Nm × List Int
 | 0, t, u => (t, u)
 | f + 1, t, u => match Kl (X2 t) rs 0 with
  | some (k, r) => Qb9 rs f (t ++ [r.t]) (u ++ [(k : Int)])
  | none => (t, u)
theorem QfO {rs : List Ru} : ∀ (f g : Nat) (t : List Nm) (u : List Int), QbM rs t ≤ f → QbM rs t ≤ g → Qb9 rs f t u = Qb9 rs g t u
 | 0, 0, _, _, _, _ => rfl
 | 0, g + 1, t, u, h, _ => by
  unfold Qb9
  cases hf : Kl (X2 t) rs 0 with
  | none => rfl
  | some p =>
   obtain ⟨h1, h2⟩ := Y0 _ rs 0 (j := p.1) (r := p.2) hf
   have := Kv h2 h1; omega
 | f + 1, 0, t, u, _, h => by
  unfold Qb9
  cases hf : Kl (X2 t) rs 0 with
  | none => rfl
  | some p =>
   obtain ⟨h1, h2⟩ := Y0 _ rs 0 (j := p.1) (r := p.2) hf
   have := Kv h2 h1; omega
 | f + 1, g + 1, t, u, h, k => by
  unfold Qb9
  cases hf : Kl (X2 t) rs 0 with
  | none => rfl
  | some p =>
   obtain ⟨h1, h2⟩ := Y0 _ rs 0 (j := p.1) (r := p.2) hf
   have := Kv h2 h1
   exact QfO f g _ _ (by omega) (by omega)
def WU (rs : List Ru) (t : List Nm) (u : List Int) : List Nm × List Int := Qb9 rs (QbM rs t) t u
section
variable {rs : List Ru} {t : List Nm} {u : List Int}
theorem Qg9 (h : Kl (X2 t) rs 0 = none) : WU rs t u = (t, u) := by
 unfold WU
 cases QbM rs t with
 | zero => rfl
 | succ f => unfold Qb9; rw [h]
theorem Qkq {k : Nat} {r : Ru} (h : Kl (X2 t) rs 0 = some (k, r)) : WU rs t u = WU rs (t ++ [r.t]) (u ++ [(k : Int)]) := by
 obtain ⟨h1, h2⟩ := Y0 _ rs 0 (j := k) (r := r) h
 have h3 := Kv h2 h1
 unfold WU
 obtain ⟨m, hm⟩ : ∃ m, QbM rs t = m + 1 := ⟨QbM rs t - 1, by omega⟩
 rw [hm]
 conv => lhs; unfold Qb9
 rw [h];exact QfO _ _ _ _ (by omega) (Nat.le_refl _)
theorem Qqf : ∀ (n : Nat) (t : List Nm) (u : List Int), QbM rs t ≤ n → (WU rs t u).1 = Yk rs rs.length t := by
 intro n
 induction n with
 | zero =>
  intro t u h
  cases hf : Kl (X2 t) rs 0 with
  | none => rw [Qg9 hf, K2 (Qan hf)]
  | some p =>
   obtain ⟨h1, h2⟩ := Y0 _ rs 0 (j := p.1) (r := p.2) hf
   have := Kv h2 h1; omega
 | succ n ih =>
  intro t u h
  cases hf : Kl (X2 t) rs 0 with
  | none => rw [Qg9 hf, K2 (Qan hf)]
  | some p =>
   obtain ⟨h1, h2⟩ := Y0 _ rs 0 (j := p.1) (r := p.2) hf
   have := Kv h2 h1
   rw [Qkq (k := p.1) (r := p.2) hf, ih _ _ (by omega), Qnv (k := p.1) (r := p.2) hf]
end
theorem Qtw (rs : List Ru) (t : List Nm) (u : List Int) : (WU rs t u).1 = Yk rs rs.length t := Qqf _ t u (Nat.le_refl _)
end Go.Proofs.YtnkkokmmeplbgaaGreat
