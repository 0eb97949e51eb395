/-
  Plain laws: the reference's bounds, kind by kind, are the pr
-/
import Derived.Test.YtnkkokmmeplbgaaGreatB23
import Derived.Test.YtnkkokmmeplbgaaGreatC5
namespace Go.Proofs.YtnkkokmmeplbgaaGreat
open Go.RowKit
def bdV (up : Bool) (l : QD) (a b : Qw) : Qw := if up then QR l a b else Qb1 l a b
theorem Qo3 (l : QD) (a b : Qw) : bdV true l a b = QR l a b := rfl
theorem QpU (l : QD) (a b : Qw) : bdV false l a b = Qb1 l a b := rfl
def QgB (a b : Qw) (g : Bool) : Qw := if decide (a.N > b.N) == g then a else b
def Kf (a b : Qw) (up : Bool) : Qw := if b.N == (if up then 0 else 2) || eqV a b then a else if a.N == (if up then 0 else 2) then b else .mk (if up then 2 else 0) [] [] []
theorem Qrn {v w : Qw} (h : v.nm = [] ∧ v.ps = [] ∧ v.es = []) (h' : w.nm = [] ∧ w.ps = [] ∧ w.es = []) (hN : v.N = w.N) : v = w := by
 cases v; cases w
 simp only [Qw.nm, Qw.ps, Qw.es, Qw.N] at h h' hN
 obtain ⟨rfl, rfl, rfl⟩ := h
 obtain ⟨rfl, rfl, rfl⟩ := h'
 rw [hN]
section
variable {l : QD} {a b : Qw}
theorem QfA (up : Bool) (h4 : l.k ≠ 4) (h10 : l.k ≠ 10) (h9 : l.k ≠ 9) (h5 : l.k ≠ 5) (h6 : l.k ≠ 6) (h7 : l.k = 7 → Wn l.ps a.ps b.ps = none ∧ Qh8 l.ps a.ps b.ps = none) :
  bdV up l a b = if up then (if Xl l a b then b else if Xl l b a then a else .mk 2 [] [] []) else (if Xl l a b then a else if Xl l b a then b else Qw.zero) := by
 unfold bdV
 rw [Yr h4 h10 h9 h5 h6 (fun h => (h7 h).1), Qk5 h4 h10 h5 h6 (fun h => (h7 h).2)]
theorem Qpt (up : Bool) (hk : l.k = 1 ∨ l.k = 2) : bdV up l a b = QgB a b up := by
 rw [QfA up (by omega) (by omega) (by omega) (by omega) (by omega) (fun h => by omega)]
 unfold QgB
 have h1 := J3 (a := a) (b := b) hk
 have h2 := J3 (a := b) (b := a) hk
 by_cases h : a.N ≤ b.N
 ·rw [h1.2 h]
  have : decide (a.N > b.N) = false := decide_eq_false (by omega)
  rw [this]; cases up <;> rfl
 have e1 : Xl l a b = false := Bool.eq_false_iff.2 fun hb => h (h1.1 hb)
 rw [e1, h2.2 (by omega)]
 have : decide (a.N > b.N) = true := decide_eq_true (by omega)
 rw [this]; cases up <;> rfl
theorem Qs2 (up : Bool) (hk : l.k = 3) (ha : Qt a l = true) (hb : Qt b l = true) : bdV up l a b = QgB a b (!up) := by
 rw [QfA up (by omega) (by omega) (by omega) (by omega) (by omega) (fun h => by omega)]
 unfold QgB
 have h1 := Wz (a := a) (b := b) hk
 have h2 := Wz (a := b) (b := a) hk
 by_cases h : b.N ≤ a.N
 ·rw [h1.2 h]
  by_cases e : a.N = b.N
  ·have := Qrn (QiF ha (by omega)) (QiF hb (by omega)) e
   subst this; cases up <;> simp
  have : decide (a.N > b.N) = true := decide_eq_true (by omega)
  rw [this]; cases up <;> rfl
 have e1 : Xl l a b = false := Bool.eq_false_iff.2 fun hb => h (h1.1 hb)
 rw [e1, h2.2 (by omega)]
 have : decide (a.N > b.N) = false := decide_eq_false (by omega)
 rw [this]; cases up <;> rfl
theorem QqH (up : Bool) (hk : l.k = 8) (ha : Qt a l = true) (hb : Qt b l = true) : bdV up l a b = Kf a b up := by
 rw [QfA up (by omega) (by omega) (by omega) (by omega) (by omega) (fun h => by omega)]
 unfold Kf
 have e1 : Xl l a b = (a.N == 0 || b.N == 2 || eqV a b) := by rw [XI, hk]; rfl
 have e2 : Xl l b a = (b.N == 0 || a.N == 2 || eqV b a) := by rw [XI, hk]; rfl
 rw [e1, e2]
 by_cases e : a = b
 ·subst e
  rw [(Yk a a).2 rfl]
  cases up <;> simp
 have n1 : eqV a b = false := Bool.eq_false_iff.2 fun hb => e ((Yk _ _).1 hb)
 have n2 : eqV b a = false := Bool.eq_false_iff.2 fun hb => e ((Yk _ _).1 hb).symm
 rw [n1, n2]
 rcases QcU ha hk with ⟨h1, h1'⟩ | ⟨h1, s, h1', -⟩ <;> rcases QcU hb hk with ⟨h2, h2'⟩ | ⟨h2, t, h2', -⟩ <;> rw [h1', h2'] at e ⊢
 ·rcases h1 with h1 | h1 <;> rcases h2 with h2 | h2 <;> rw [h1, h2] at e ⊢ <;> cases up <;> first | exact absurd rfl e | rfl
 ·rcases h1 with h1 | h1 <;> rw [h1] <;> cases up <;> rfl
 ·rcases h2 with h2 | h2 <;> rw [h2] <;> cases up <;> rfl
 cases up <;> rfl
theorem QoG (up : Bool) (hk : l.k = 4) : bdV up l a b = .mk 0 (if up then Ku a.nm b.nm else itr a.nm b.nm) [] [] := by
 unfold bdV
 rw [X3, Qbl, hk]
 cases up <;> rfl
theorem Qh3 (up : Bool) (hk : l.k = 10) : bdV up l a b = .mk 0 (if up then Ka l.nm l.rs (Ku a.nm b.nm) else itr a.nm b.nm) [] [] := by
 unfold bdV
 rw [X3, Qbl, hk]
 cases up <;> rfl
theorem Qta (hk : l.k = 9) : bdV true l a b = .mk 0 [] [] (Jw a.es b.es) := by
 rw [Qo3, X3, hk]; rfl
def bdZ (up : Bool) (ls : List QD) (xs ys : List Qw) : List Qw := if up then Ws ls xs ys else Qdk ls xs ys
theorem Qqu (up : Bool) (hk : l.k = 6) : bdV up l a b = .mk 0 [] (bdZ up l.ps a.ps b.ps) [] := by
 unfold bdV bdZ
 rw [X3, Qbl, hk]
 cases up <;> rfl
theorem QsC {up : Bool} {ls : List QD} {xs ys : List Qw} (h1 : xs.length = ls.length) (h2 : ys.length = ls.length) : (bdZ up ls xs ys).length = ls.length := by
 unfold bdZ; cases up
 ·exact Qo1 h1 h2
 exact Qgc h1 h2
theorem Qs0 {up : Bool} {ls : List QD} {xs ys : List Qw} {k : Nat} {q : QD} {x y : Qw} (h1 : ls[k]? = some q) (h2 : xs[k]? = some x) (h3 : ys[k]? = some y) : (bdZ up ls xs ys)[k]? = some (bdV up q x y) := by
 unfold bdZ bdV; cases up
 ·exact Qoe h1 h2 h3
 exact Qf3 h1 h2 h3
theorem QlE (up : Bool) (hO : YK l) (hk : l.k = 7) {p q : QD} (hp : l.ps = [p, q]) {x1 x2 y1 y2 : Qw} (pa : a.ps = [x1, x2]) (pb : b.ps = [y1, y2]) (hx : Qt x1 p = true) (hy : Qt y1 p = true) :
  bdV up l a b = if eqV x1 y1 then .mk 0 [] [x1, bdV up q x2 y2] [] else if Xl p x1 y1 == up then b else a := by
 cases he : eqV x1 y1 with
 | true =>
  unfold bdV
  rw [X3, Qbl, hk, hp, pa, pb]
  simp only [Wn, Qh8, he]
  cases up <;> rfl
 | false =>
  have hne : x1 ≠ y1 := fun e => by rw [(Yk _ _).2 e] at he; cases he
  rw [QfA up (by omega) (by omega) (by omega) (by omega) (by omega) (fun _ => by rw [hp, pa, pb]; simp [Wn, Qh8, he])]
  have e1 : Xl l a b = Xl p x1 y1 := by
   rw [Bool.eq_iff_iff, YI hk hp pa pb]; simp [hne]
  have e2 : Xl l b a = Xl p y1 x1 := by
   rw [Bool.eq_iff_iff, YI hk hp pb pa]; simp [Ne.symm hne]
  rw [e1, e2]
  cases h1 : Xl p x1 y1 with
  | true => cases up <;> simp
  | false =>
   have := (Qhk hO hk hp hx hy).resolve_left (by rw [h1]; decide)
   rw [this]
   cases up <;> simp
def bdF (up : Bool) (q : QD) (a b : Qw) (s : Nm) : Option Qw := match Xy a s, Xy b s with
 | some x, some y => if eqV (bdV up q x y) (QU q) then none else some (bdV up q x y)
 | some x, none => if up then some x else none
 | none, some y => if up then some y else none
 | none, none => none
theorem Qpw {α β : Type} {f : α → Option β} {g : α → β} : ∀ {l : List α}, (∀ x ∈ l, f x = some (g x)) → l.filterMap f = l.map g
 | [], _ => rfl
 | x :: r, h => by rw [List.filterMap_cons, h x List.mem_cons_self, List.map_cons, Qpw (fun y hy => h y (List.mem_cons_of_mem _ hy))]
theorem Qsq {α : Type} {p : α → Bool} : ∀ {l : List α}, (∀ x ∈ l, p x = true) → l.filter p = l := fun h => List.filter_eq_self.2 h
theorem QpR {α β : Type} {f : α → Option β} (d : β) : ∀ (l : List α), l.filterMap f = (l.filter fun x => (f x).isSome).map fun x => (f x).getD d
 | [] => rfl
 | x :: r => by
  cases h : f x with
  | none => rw [List.filterMap_cons, h, QpR d r]; simp [h]
  | some y => rw [List.filterMap_cons, h, QpR d r]; simp [h]
theorem Qaj {v : Qw} {s : Nm} (h1 : v.nm.length = v.ps.length) (h2 : Qq v.nm = true) (h : s ∈ v.nm) : ∃ x, Xy v s = some x ∧ x ∈ v.ps := by
 obtain ⟨k, hk⟩ := List.mem_iff_getElem?.1 h
 obtain ⟨x, hx⟩ := Qn (show k < v.ps.length by rw [← h1]; exact (List.getElem?_eq_some_iff.1 hk).1)
 exact ⟨x, by rw [Qam h2 hk, hx], List.mem_of_getElem? hx⟩
theorem Qsm (up : Bool) (hO : YK l) (hC : ChL l) (hk : l.k = 5) {q : QD} {r : List QD} (hp : l.ps = q :: r) (ha : Qt a l = true) (hb : Qt b l = true) :
  bdV up l a b = .mk 0 ((Ku a.nm b.nm).filter fun s => (bdF up q a b s).isSome) ((Ku a.nm b.nm).filterMap (bdF up q a b)) [] := by
 obtain ⟨a1, a2, a3, a4, a5, a6⟩ := YO ha hk hp
 obtain ⟨b1, b2, b3, b4, b5, b6⟩ := YO hb hk hp
 have hqm : q ∈ l.ps := by rw [hp]; exact List.mem_cons_self
 have oq := hO.part q hqm
 cases up
 ·-- meets
  have hE : bdV false l a b = .mk 0 (((a.nm.zip a.ps).filterMap (Qdn q b)).map Prod.fst) (((a.nm.zip a.ps).filterMap (Qdn q b)).map Prod.snd) [] := by rw [QpU, Qbl, hk, hp, Qnb]; rfl
  have hbc : (KE q).1 = QU q := by unfold KE; rw [if_pos (hC.part q hqm).ok]
  have key : ∀ s v, (s, v) ∈ (a.nm.zip a.ps).filterMap (Qdn q b) ↔ s ∈ a.nm ∧ s ∈ b.nm ∧ bdF false q a b s = some v := by
   intro s v
   rw [List.mem_filterMap]
   constructor
   ·rintro ⟨⟨t, x⟩, hx, hm⟩
    obtain ⟨k, hkk⟩ := List.mem_iff_getElem?.1 hx
    obtain ⟨k1, k2⟩ := List.getElem?_zip_eq_some.1 hkk
    unfold Qdn at hm
    cases hpb : Xy b t with
    | none => rw [hpb] at hm; cases hm
    | some y =>
     rw [hpb] at hm
     simp only at hm
     split at hm
     ·cases hm
     rename_i hne
     simp only [Option.some.injEq, Prod.mk.injEq] at hm
     obtain ⟨rfl, rfl⟩ := hm
     have hsb : t ∈ b.nm := by
      by_cases hc : t ∈ b.nm
      ·exact hc
      rw [KZ hc] at hpb; cases hpb
     refine ⟨List.mem_of_getElem? k1, hsb, ?_⟩
     unfold bdF
     rw [Qam a4 k1, k2, hpb]
     simp only
     rw [hbc] at hne
     rw [QpU, if_neg hne]
   rintro ⟨h1, h2, h3⟩
   obtain ⟨k, k1⟩ := List.mem_iff_getElem?.1 h1
   obtain ⟨x, k2⟩ := Qn (show k < a.ps.length by rw [← a3]; exact (List.getElem?_eq_some_iff.1 k1).1)
   refine ⟨(s, x), List.mem_of_getElem? (WO k1 k2), ?_⟩
   obtain ⟨y, hy, -⟩ := Qaj b3 b4 h2
   unfold bdF at h3
   rw [Qam a4 k1, k2, hy] at h3
   simp only at h3
   unfold Qdn
   rw [hy]
   simp only
   rw [hbc]
   split at h3
   ·cases h3
   rename_i hne
   rw [QpU] at h3 hne
   rw [if_neg hne]
   cases h3; rfl
  have hs1 : ((a.nm.zip a.ps).filterMap (Qdn q b)).map Prod.fst = (Ku a.nm b.nm).filter fun s => (bdF false q a b s).isSome := by
   refine Qp0 ?_ ((XP (WB a4 b4)).filter _) fun s => ?_
   ·rw [List.pairwise_map]
    refine List.Pairwise.filterMap (R := fun x y => Op.bytesLess x.1 y.1 = true) (Qdn q b) (fun x y hxy x' hx' y' hy' => ?_) ?_
    ·have e : ∀ {z z' : Nm × Qw}, Qdn q b z = some z' → z'.1 = z.1 := fun {z z'} h => by
      unfold Qdn at h
      split at h
      ·cases h
      split at h
      ·cases h
      cases h; rfl
     rw [e hx', e hy']; exact hxy
    have := XP a4
    have hz : (a.nm.zip a.ps).map Prod.fst = a.nm := List.map_fst_zip (by omega)
    rw [← hz, List.pairwise_map] at this
    exact this
   rw [List.mem_map, List.mem_filter, K9 a4 b4]
   constructor
   ·rintro ⟨⟨t, v⟩, hm, rfl⟩
    obtain ⟨h1, h2, h3⟩ := (key t v).1 hm
    exact ⟨.inl h1, by rw [h3]; rfl⟩
   rintro ⟨-, h⟩
   obtain ⟨v, hv⟩ := Option.isSome_iff_exists.1 h
   refine ⟨(s, v), (key s v).2 ⟨?_, ?_, hv⟩, rfl⟩
   ·by_cases hc : s ∈ a.nm
    ·exact hc
    unfold bdF at hv; rw [KZ hc] at hv; revert hv; cases Xy b s <;> simp
   by_cases hc : s ∈ b.nm
   ·exact hc
   unfold bdF at hv; rw [KZ hc] at hv; revert hv; cases Xy a s <;> simp
  rw [hE, QpR Qw.zero (Ku a.nm b.nm), ← hs1, List.map_map]
  congr 1
  refine List.map_congr_left fun z hz => ?_
  obtain ⟨h1, h2, h3⟩ := (key z.1 z.2).1 hz
  show z.2 = (bdF false q a b z.1).getD Qw.zero
  rw [h3]; rfl
 have hE : bdV true l a b = .mk 0 (Ku a.nm b.nm) ((Ku a.nm b.nm).map (J0 q a b)) [] := by rw [Qo3, X3, hk, hp, QcL]; rfl
 have key : ∀ s ∈ Ku a.nm b.nm, bdF true q a b s = some (J0 q a b s) := by
  intro s hs
  have hs' := (K9 a4 b4).1 hs
  unfold bdF J0
  by_cases h1 : s ∈ a.nm <;> by_cases h2 : s ∈ b.nm
  ·obtain ⟨x, hx, mx⟩ := Qaj a3 a4 h1
   obtain ⟨y, hy, my⟩ := Qaj b3 b4 h2
   rw [hx, hy]
   simp only
   have L := K7 q oq x y (a6 x mx).1 (b6 y my).1
   rw [Qo3, if_neg]
   intro he
   have he := (Yk _ _).1 he
   refine (a6 x mx).2 (Qat q oq x _ (a6 x mx).1 (Qay q oq) ?_ (QcN q oq x (a6 x mx).1))
   rw [← he]; exact L.le1
  ·obtain ⟨x, hx, mx⟩ := Qaj a3 a4 h1
   rw [hx, KZ h2]; rfl
  ·obtain ⟨y, hy, my⟩ := Qaj b3 b4 h2
   rw [hy, KZ h1]; rfl
  rcases hs' with h | h
  ·exact absurd h h1
  exact absurd h h2
 rw [hE, Qpw key, Qsq (fun s hs => by rw [key s hs]; rfl)]
end
def Qey (p q : En × Nat) : Bool := !(Jb p.1 q.1 == 0 && decide ((q.2 : Int) < (p.2 : Int)) || !(Jb p.1 q.1 == 0) && WA p.1 q.1)
def Qfg (l : List En) (p : En × Nat) : Bool := l.zipIdx.all (Qey p)
def QeC (l : List En) : List En := (l.zipIdx.filter (Qfg l)).map Prod.fst
theorem Qes {l : List En} {x : En} {k : Nat} : (x, k) ∈ l.zipIdx ↔ l[k]? = some x := by
 constructor
 ·intro h
  obtain ⟨j, hj⟩ := List.mem_iff_getElem?.1 h
  have h2 := (List.getElem?_eq_some_iff.1 hj).1
  rw [Qaz] at h2
  have h3 := XF (List.getElem?_eq_getElem h2)
  rw [hj] at h3
  cases h3
  exact List.getElem?_eq_getElem h2
 exact fun h => List.mem_of_getElem? (XF h)
theorem Qrz (l : List En) : l.zipIdx.Pairwise (fun p q => p.2 < q.2) := by
 have h : (l.zipIdx.map Prod.snd).Pairwise (· < ·) := by
  rw [List.zipIdx_map_snd]; exact List.pairwise_lt_range'
 rwa [List.pairwise_map] at h
theorem Qn8 {l : List En} {x : En} : ∀ k : Nat, l[k]? = some x → ∃ i : Nat, l[i]? = some x ∧ ∀ j : Nat, j < i → l[j]? ≠ some x := by
 intro k
 induction k using Nat.strongRecOn with
 | _ k ih =>
  intro h
  by_cases hc : ∃ j, j < k ∧ l[j]? = some x
  ·obtain ⟨j, hj, hx⟩ := hc
   exact ih j hj hx
  exact ⟨k, h, fun j hj hx => hc ⟨j, hj, hx⟩⟩
theorem Qls (l : List En) : (QeC l).Nodup := by
 show List.Pairwise _ _
 unfold QeC
 rw [List.pairwise_map]
 refine List.Pairwise.imp_of_mem (R := fun p q => p.2 < q.2) (fun {p q} hp hq h e => ?_) ((Qrz l).filter _)
 have h1 := (List.mem_filter.1 hq).2
 have h2 := List.all_eq_true.1 h1 p (List.mem_filter.1 hp).1
 unfold Qey at h2
 rw [e, Jg.refl] at h2
 have h3 : decide ((p.2 : Int) < (q.2 : Int)) = true := decide_eq_true (by omega)
 rw [h3] at h2
 simp at h2
theorem QpA {l : List En} (hv : ∀ x ∈ l, QP (-1) x.1 = true) {x : En} : x ∈ QeC l ↔ x ∈ l ∧ ∀ y ∈ l, ¬ ltE x y := by
 unfold QeC
 rw [List.mem_map]
 constructor
 ·rintro ⟨⟨y, k⟩, hm, rfl⟩
  obtain ⟨h1, h2⟩ := List.mem_filter.1 hm
  have hy := List.mem_of_getElem? (Qes.1 h1)
  refine ⟨hy, fun z hz hlt => ?_⟩
  obtain ⟨j, hj⟩ := List.mem_iff_getElem?.1 hz
  have h3 := List.all_eq_true.1 h2 (z, j) (Qes.2 hj)
  unfold Qey at h3
  have hne : ¬ Jb y z = 0 := fun e => by
   have := Jg.eq _ _ e
   subst this; exact QdI _ hlt
  have hu : WA y z = true := by rw [Qc4 (hv _ hy) (hv _ hz), Qav (hv _ hy) (hv _ hz)]; exact .inl hlt
  simp [hne, hu] at h3
 rintro ⟨hx, hmx⟩
 obtain ⟨k, hk⟩ := List.mem_iff_getElem?.1 hx
 obtain ⟨i, hi, hf⟩ := Qn8 k hk
 refine ⟨(x, i), List.mem_filter.2 ⟨Qes.2 hi, List.all_eq_true.2 fun q hq => ?_⟩, rfl⟩
 obtain ⟨z, j⟩ := q
 have hz := Qes.1 hq
 have hzm := List.mem_of_getElem? hz
 unfold Qey
 by_cases he : Jb x z = 0
 ·have e := Jg.eq _ _ he
  subst e
  have : i ≤ j := Nat.le_of_not_lt fun h => hf j h hz
  simp [he, this]
 have hu : WA x z = false := by
  cases hu : WA x z
  ·rfl
  rw [Qc4 (hv _ hx) (hv _ hzm), Qav (hv _ hx) (hv _ hzm)] at hu
  rcases hu with h | rfl
  ·exact absurd h (hmx z hzm)
  exact absurd (Jg.refl x) he
 simp [he, hu]
theorem QjD {a b : List En} (ha : JP a) (hb : JP b) {x : En} : x ∈ QeC (a ++ b) ↔ x ∈ Jw a b := by
 rw [QpA (fun x hx => (List.mem_append.1 hx).elim (ha.valid x) (hb.valid x)), Ke ha hb]
 constructor
 ·rintro ⟨hx, hm⟩
  rcases List.mem_append.1 hx with h | h
  ·by_cases hc : ∃ y ∈ b, leE x y
   ·obtain ⟨y, hy, hl⟩ := hc
    rcases hl with hl | rfl
    ·exact absurd hl (hm y (List.mem_append.2 (.inr hy)))
    exact .inr ⟨hy, fun ⟨z, hz, hl⟩ => hm z (List.mem_append.2 (.inl hz)) hl⟩
   exact .inl ⟨h, hc⟩
  exact .inr ⟨h, fun ⟨z, hz, hl⟩ => hm z (List.mem_append.2 (.inl hz)) hl⟩
 rintro (⟨h, hn⟩ | ⟨h, hn⟩)
 ·refine ⟨List.mem_append.2 (.inl h), fun y hy hl => ?_⟩
  rcases List.mem_append.1 hy with hy | hy
  ·exact ha.anti x h y hy hl
  exact hn ⟨y, hy, .inl hl⟩
 refine ⟨List.mem_append.2 (.inr h), fun y hy hl => ?_⟩
 rcases List.mem_append.1 hy with hy | hy
 ·exact hn ⟨y, hy, hl⟩
 exact hb.anti x h y hy hl
def Qif (o : List En) (i : Nat) : Prop := ∀ (p q : Nat) (x y : En), p < i → p < q → o[p]? = some x → o[q]? = some y → 0 ≤ Jb y x
def Qk7 (o : List En) (i j : Nat) : Prop := ∀ (q : Nat) (x y : En), i < q → q < j → o[i]? = some x → o[q]? = some y → 0 ≤ Jb y x
theorem QnG (o : List En) : Qif o 0 := fun _ _ _ _ h => absurd h (Nat.not_lt_zero _)
theorem QnF (o : List En) (i : Nat) : Qk7 o i (i + 1) := fun _ _ _ h h2 => by omega
theorem QoE {o : List En} {i j : Nat} {x y : En} (hQ : Qk7 o i j) (hx : o[i]? = some x) (hy : o[j]? = some y) (h : 0 ≤ Jb y x) : Qk7 o i (j + 1) := fun q u v h1 h2 hu hv => by
 by_cases e : q = j
 ·subst e; rw [hx] at hu; rw [hy] at hv; cases hu; cases hv; exact h
 exact hQ q u v h1 (by omega) hu hv
theorem QqS {o : List En} {i : Nat} (hP : Qif o i) (hQ : Qk7 o i o.length) : Qif o (i + 1) := fun p q x y h1 h2 hx hy => by
 by_cases e : p = i
 ·subst e; exact hQ q x y h2 ((List.getElem?_eq_some_iff.1 hy).1) hx hy
 exact hP p q x y (by omega) h2 hx hy
def swp (o : List En) (i j : Nat) (x y : En) : List En := (o.set i y).set j x
theorem Qew {o : List En} {i j : Nat} {x y : En} : (swp o i j x y).length = o.length := by simp [swp]
theorem QmG {o : List En} {i j : Nat} {x y : En} (hij : i < j) (hj : j < o.length) (q : Nat) : (swp o i j x y)[q]? = if q = j then some x else if q = i then some y else o[q]? := by
 unfold swp
 rw [List.getElem?_set, List.getElem?_set]
 by_cases h1 : q = j
 ·subst h1; simp [hj]
 rw [if_neg (Ne.symm h1), if_neg h1]
 by_cases h2 : q = i
 ·subst h2; simp; omega
 rw [if_neg (Ne.symm h2), if_neg h2]
theorem Qjm {o : List En} {i j : Nat} {x y : En} (hx : o[i]? = some x) (hy : o[j]? = some y) : (swp o i j x y).Perm o := by
 obtain ⟨h1, rfl⟩ := List.getElem?_eq_some_iff.1 hx
 obtain ⟨h2, rfl⟩ := List.getElem?_eq_some_iff.1 hy
 unfold swp
 exact List.set_set_perm h1 h2
theorem QdT {o : List En} {i j : Nat} {x y : En} (hij : i < j) (hP : Qif o i) (hQ : Qk7 o i j) (hx : o[i]? = some x) (hy : o[j]? = some y) (h : Jb y x < 0) : Qif (swp o i j x y) i ∧ Qk7 (swp o i j x y) i (j + 1) := by
 have hj := (List.getElem?_eq_some_iff.1 hy).1
 constructor
 ·intro p q u v h1 h2 hu hv
  rw [QmG hij hj] at hu hv
  rw [if_neg (by omega), if_neg (by omega)] at hu
  split at hv
  ·cases hv; exact hP p i u x h1 h1 hu hx
  split at hv
  ·cases hv; exact hP p j u y h1 (by omega) hu hy
  exact hP p q u v h1 h2 hu hv
 intro q u v h1 h2 hu hv
 rw [QmG hij hj] at hu hv
 rw [if_neg (by omega), if_pos rfl] at hu
 cases hu
 split at hv
 ·cases hv
  have := Jg.anti y x
  omega
 rw [if_neg (by omega)] at hv
 have h3 := hQ q x v h1 (by omega) hx hv
 have a1 := Jg.anti x v
 have t := Jg.trans y x v (by omega) (by omega)
 have := Jg.anti y v
 omega
theorem QlI {o : List En} (h : Qif o o.length) : o.Pairwise (fun x y => Jb x y ≤ 0) := by
 rw [List.pairwise_iff_getElem]
 intro i j hi hj hij
 have := h i j _ _ hi hij (List.getElem?_eq_getElem hi) (List.getElem?_eq_getElem hj)
 have := Jg.anti o[i] o[j]
 omega
theorem QsS {a b o : List En} (ha : JP a) (hb : JP b) (hp : o.Perm (QeC (a ++ b))) (h : Qif o o.length) : o = Jw a b := by
 have hm := Qh7 ha hb
 refine Qdd (hp.trans ((List.perm_ext_iff_of_nodup (Qls _) hm.nodup).2 fun x => QjD ha hb)) (QlI h) (hm.sorted.imp (fun h => by omega))
def QbM (rs : List Ru) : Nat → List Nm → List Int → List Nm × List Int
 | 0, t, u => (t, u)
 | f + 1, t, u => match YP (XV t) rs 0 with
  | some (k, r) => QbM rs f (t ++ [r.t]) (u ++ [(k : Int)])
  | none => (t, u)
theorem Qfh {rs : List Ru} : ∀ (f g : Nat) (t : List Nm) (u : List Int), Qbu rs t ≤ f → Qbu rs t ≤ g → QbM rs f t u = QbM rs g t u
 | 0, 0, _, _, _, _ => rfl
 | 0, g + 1, t, u, h, _ => by
  unfold QbM
  cases hf : YP (XV t) rs 0 with
  | none => rfl
  | some p =>
   obtain ⟨h1, h2⟩ := YD _ rs 0 (j := p.1) (r := p.2) hf
   have := Y4 h2 h1; omega
 | f + 1, 0, t, u, _, h => by
  unfold QbM
  cases hf : YP (XV t) rs 0 with
  | none => rfl
  | some p =>
   obtain ⟨h1, h2⟩ := YD _ rs 0 (j := p.1) (r := p.2) hf
   have := Y4 h2 h1; omega
 | f + 1, g + 1, t, u, h, k => by
  unfold QbM
  cases hf : YP (XV t) rs 0 with
  | none => rfl
  | some p =>
   obtain ⟨h1, h2⟩ := YD _ rs 0 (j := p.1) (r := p.2) hf
   have := Y4 h2 h1
   exact Qfh f g _ _ (by omega) (by omega)
def Wf (rs : List Ru) (t : List Nm) (u : List Int) : List Nm × List Int := QbM rs (Qbu rs t) t u
section
variable {rs : List Ru} {t : List Nm} {u : List Int}
theorem Qg0 (h : YP (XV t) rs 0 = none) : Wf rs t u = (t, u) := by
 unfold Wf
 cases Qbu rs t with
 | zero => rfl
 | succ f => unfold QbM; rw [h]
theorem Qjw {k : Nat} {r : Ru} (h : YP (XV t) rs 0 = some (k, r)) : Wf rs t u = Wf rs (t ++ [r.t]) (u ++ [(k : Int)]) := by
 obtain ⟨h1, h2⟩ := YD _ rs 0 (j := k) (r := r) h
 have h3 := Y4 h2 h1
 unfold Wf
 obtain ⟨m, hm⟩ : ∃ m, Qbu rs t = m + 1 := ⟨Qbu rs t - 1, by omega⟩
 rw [hm]
 conv => lhs; unfold QbM
 rw [h]
 exact Qfh _ _ _ _ (by omega) (Nat.le_refl _)
theorem Qpn : ∀ (n : Nat) (t : List Nm) (u : List Int), Qbu rs t ≤ n → (Wf rs t u).1 = J9 rs rs.length t := by
 intro n
 induction n with
 | zero =>
  intro t u h
  cases hf : YP (XV t) rs 0 with
  | none => rw [Qg0 hf, Kq (WC hf)]
  | some p =>
   obtain ⟨h1, h2⟩ := YD _ rs 0 (j := p.1) (r := p.2) hf
   have := Y4 h2 h1; omega
 | succ n ih =>
  intro t u h
  cases hf : YP (XV t) rs 0 with
  | none => rw [Qg0 hf, Kq (WC hf)]
  | some p =>
   obtain ⟨h1, h2⟩ := YD _ rs 0 (j := p.1) (r := p.2) hf
   have := Y4 h2 h1
   rw [Qjw (k := p.1) (r := p.2) hf, ih _ _ (by omega), Qme (k := p.1) (r := p.2) hf]
end
theorem Qqt (rs : List Ru) (t : List Nm) (u : List Int) : (Wf rs t u).1 = J9 rs rs.length t := Qpn _ t u (Nat.le_refl _)
end Go.Proofs.YtnkkokmmeplbgaaGreat
