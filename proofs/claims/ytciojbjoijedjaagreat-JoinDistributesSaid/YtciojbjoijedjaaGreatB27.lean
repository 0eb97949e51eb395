/-
  Plain laws: absorption; where meets distribute over joins.
  Contracts: the law JoinDistributes.
-/
import Derived.Test.YtciojbjoijedjaaGreatB21
import Derived.Test.YtciojbjoijedjaaGreatB22
import Derived.Test.YtciojbjoijedjaaGreatB23
namespace Go.Proofs.YtciojbjoijedjaaGreat
open Go.RowKit

mutual
def distB : Lat → Bool
 | .mk k _ _ _ ps _ => k != 8 && k != 10 && !distNo ps
def distNo : List Lat → Bool
 | [] => false
 | p :: r => !distB p || distNo r
end
theorem distNo_any : ∀ l : List Lat, distNo l = l.any fun p => !distB p
 | [] => rfl
 | p :: r => by rw [distNo, distNo_any r]; rfl
theorem distB_eq (l : Lat) : distB l = (l.k != 8 && l.k != 10 && !(l.ps.any fun p => !distB p)) := by
 cases l with
 | mk k lo hi nm ps rs => rw [distB, distNo_any]; rfl
theorem dist_part {l q : Lat} (h : distB l = true) (hq : q ∈ l.ps) : distB q = true := by
 rw [distB_eq, Bool.and_eq_true] at h
 have h2 := h.2
 rw [Bool.not_eq_true', List.any_eq_false] at h2
 simpa using h2 q hq
theorem regs_part {l q : Lat} (h : regsB l = false) (hq : q ∈ l.ps) : regsB q = false := by
 rw [regsB_eq, Bool.or_eq_false_iff] at h
 have h2 := h.2
 rw [List.any_eq_false] at h2
 simpa using h2 q hq
section
variable {l : Lat} {a b c : Val}
theorem meet_of_leq (hO : OkL l) (hC : ChL l) (hR : regsB l = false) (ha : elemB a l = true) (hb : elemB b l = true) (h : leqB l a b = true) : meetV l a b = a := by
 have G := meet_glb l hO hC hR a b ha hb
 exact leq_anti l hO _ _ G.el ha G.le1 (G.gr a ha (leq_refl l hO a ha) h)
theorem join_of_geq (hO : OkL l) (ha : elemB a l = true) (hb : elemB b l = true) (h : leqB l b a = true) : joinV l a b = a := by rw [join_comm hO ha hb]; exact join_of_leq hO hb ha h
end
/-- the one-name map lies below the meet -/
theorem sing_el {l q : Lat} (hk : l.k = 5) (hp : l.ps = [q]) {s : Nm} {m : Val} (hs : okName l.nm s = true) (hm : elemB m q = true) (hne : m ≠ bottomV q) : elemB (.mk 0 [s] [m] []) l = true :=
 mk_map hk hp rfl rfl rfl rfl (by intro x hx; rw [List.mem_singleton.1 hx]; exact hs) (by intro x hx; rw [List.mem_singleton.1 hx]; exact ⟨hm, hne⟩)
theorem sing_le {l q : Lat} (hk : l.k = 5) (hp : l.ps = [q]) {s : Nm} {m y : Val} {v : Val} (hv : elemB v l = true) {j : Nat} (h1 : v.nm[j]? = some s) (h2 : v.ps[j]? = some y) (hl : leqB q m y = true) : leqB l (.mk 0 [s] [m] []) v = true := by
 obtain ⟨-, -, r3, r4, -, -⟩ := el_map hv hk hp
 refine (lq_map hk hp (a := .mk 0 [s] [m] []) rfl r3 r4).2 fun i t z ht hz => ?_
 have hi : i = 0 := by
  have := (List.getElem?_eq_some_iff.1 ht).1
  simp [Val.nm] at this; exact this
 subst hi
 simp [Val.nm, Val.ps] at ht hz
 subst ht hz
 exact ⟨j, y, h1, h2, hl⟩
theorem le_sing {l q : Lat} (hk : l.k = 5) (hp : l.ps = [q]) {s : Nm} {m : Val} {v : Val} (hv : elemB v l = true) (h : leqB l (.mk 0 [s] [m] []) v = true) : ∃ (j : Nat) (y : Val), v.nm[j]? = some s ∧ v.ps[j]? = some y ∧ leqB q m y = true := by
 obtain ⟨-, -, r3, r4, -, -⟩ := el_map hv hk hp
 exact (lq_map hk hp (a := .mk 0 [s] [m] []) rfl r3 r4).1 h 0 s m rfl rfl

theorem dist_s (l : Lat) (hO : OkL l) (hC : ChL l) (hR : regsB l = false) (hD : distB l = true)
  (ih : ∀ q ∈ l.ps, ∀ x y z, elemB x q = true → elemB y q = true → elemB z q = true → leqB q (meetV q x (joinV q y z)) (joinV q (meetV q x y) (meetV q x z)) = true)
  (a b c : Val) (ha : elemB a l = true) (hb : elemB b l = true) (hc : elemB c l = true) : leqB l (meetV l a (joinV l b c)) (joinV l (meetV l a b) (meetV l a c)) = true := by
 have J := join_lub l hO b c hb hc
 have L := meet_glb l hO hC hR a (joinV l b c) ha J.el
 have G1 := meet_glb l hO hC hR a b ha hb
 have G2 := meet_glb l hO hC hR a c ha hc
 have R := join_lub l hO _ _ G1.el G2.el
 have t := fun {x y z : Val} (hx : elemB x l = true) (hy : elemB y l = true) (hz : elemB z l = true) (h1 : leqB l x y = true) (h2 : leqB l y z = true) => leq_trans l hO x y z hx hy hz h1 h2
 -- where two of the three lie in order
 have c1 : leqB l a b = true → leqB l (meetV l a (joinV l b c)) (joinV l (meetV l a b) (meetV l a c)) = true := fun h =>
  t L.el ha R.el L.le1 (t ha G1.el R.el (G1.gr a ha (leq_refl l hO a ha) h) R.le1)
 have c2 : leqB l a c = true → leqB l (meetV l a (joinV l b c)) (joinV l (meetV l a b) (meetV l a c)) = true := fun h =>
  t L.el ha R.el L.le1 (t ha G2.el R.el (G2.gr a ha (leq_refl l hO a ha) h) R.le2)
 have c3 : leqB l b a = true → leqB l c a = true → leqB l (meetV l a (joinV l b c)) (joinV l (meetV l a b) (meetV l a c)) = true := fun h1 h2 =>
  t L.el J.el R.el L.le2 (J.least _ R.el (t hb G1.el R.el (G1.gr b hb h1 (leq_refl l hO b hb)) R.le1) (t hc G2.el R.el (G2.gr c hc h2 (leq_refl l hO c hc)) R.le2))
 have c4 : leqB l b c = true → leqB l (meetV l a (joinV l b c)) (joinV l (meetV l a b) (meetV l a c)) = true := fun h =>
  t L.el G2.el R.el (G2.gr _ L.el L.le1 (t L.el J.el hc L.le2 (J.least c hc h (leq_refl l hO c hc)))) R.le2
 have c5 : leqB l c b = true → leqB l (meetV l a (joinV l b c)) (joinV l (meetV l a b) (meetV l a c)) = true := fun h =>
  t L.el G1.el R.el (G1.gr _ L.el L.le1 (t L.el J.el hb L.le2 (J.least b hb (leq_refl l hO b hb) h))) R.le1
 have tot : leqB l b c = true ∨ leqB l c b = true → leqB l (meetV l a (joinV l b c)) (joinV l (meetV l a b) (meetV l a c)) = true := fun h => h.elim c4 c5
 rcases kinds hO with hk | hk | hk | hk | hk | hk | hk | hk | hk | hk
 ·exact tot (by rw [lq_num (.inl hk), lq_num (.inl hk)]; omega)
 ·exact tot (by rw [lq_num (.inr hk), lq_num (.inr hk)]; omega)
 ·exact tot (by rw [lq_min hk, lq_min hk]; omega)
 ·-- sets
  obtain ⟨-, -, -, a4, -, -⟩ := el_set ha (.inl hk)
  obtain ⟨-, -, -, b4, -, -⟩ := el_set hb (.inl hk)
  obtain ⟨-, -, -, c4', -, -⟩ := el_set hc (.inl hk)
  have eJ : joinV l b c = .mk 0 (uni b.nm c.nm) [] [] := by rw [joinV_eq, hk]; rfl
  have eL : ∀ x y, meetV l x y = .mk 0 (itr x.nm y.nm) [] [] := fun x y => by rw [meetV_eq, hk]; rfl
  have eR : ∀ x y, joinV l x y = .mk 0 (uni x.nm y.nm) [] [] := fun x y => by rw [joinV_eq, hk]; rfl
  refine (lq_set (.inl hk)).2 fun x hx => ?_
  rw [eJ, eL] at hx
  rw [eL, eL, eR]
  have h1 := (itr_mem a4 (uni_sorted b4 c4')).1 hx
  refine (uni_mem (itr_sorted a4 b4) (itr_sorted a4 c4')).2 ?_
  rcases (uni_mem b4 c4').1 h1.2 with h | h
  ·exact .inl ((itr_mem a4 b4).2 ⟨h1.1, h⟩)
  ·exact .inr ((itr_mem a4 c4').2 ⟨h1.1, h⟩)
 ·-- maps
  obtain ⟨q, hp⟩ := shape_56 hO hk
  have mq : q ∈ l.ps := by rw [hp]; simp
  have oq := hO.part q mq
  have cq := hC.part q mq
  have rq := regs_part hR mq
  obtain ⟨-, -, a3, a4, a5, a6⟩ := el_map ha hk hp
  obtain ⟨-, -, b3, b4, b5, b6⟩ := el_map hb hk hp
  obtain ⟨-, -, d3, d4, d5, d6⟩ := el_map hc hk hp
  obtain ⟨-, -, j3, j4, -, -⟩ := el_map J.el hk hp
  obtain ⟨-, -, l3, l4, -, l6⟩ := el_map L.el hk hp
  obtain ⟨-, -, r3, r4, -, r6⟩ := el_map R.el hk hp
  have eJ : joinV l b c = .mk 0 (uni b.nm c.nm) ((uni b.nm c.nm).map (joinF q b c)) [] := by rw [joinV_eq, hk, hp, joinM_map]; rfl
  have tq := fun {x y z : Val} (hx : elemB x q = true) (hy : elemB y q = true) (hz : elemB z q = true) (h1 : leqB q x y = true) (h2 : leqB q y z = true) => leq_trans q oq x y z hx hy hz h1 h2
  -- what lies under a and b in one name lies under the join of the meets
  have low : ∀ {w : Val} (hw : elemB w l = true) (gw : Glb l a w (meetV l a w)) (hle : leqB l (meetV l a w) (joinV l (meetV l a b) (meetV l a c)) = true) {s : Nm} {m x y : Val} {i j : Nat}, elemB m q = true → m ≠ bottomV q → a.nm[i]? = some s → a.ps[i]? = some x → w.nm[j]? = some s → w.ps[j]? = some y → leqB q m x = true → leqB q m y = true →
    ∃ (k : Nat) (r : Val), (joinV l (meetV l a b) (meetV l a c)).nm[k]? = some s ∧ (joinV l (meetV l a b) (meetV l a c)).ps[k]? = some r ∧ leqB q m r = true := fun {w} hw gw hle {s m x y i j} hm hne h1 h2 h3 h4 h5 h6 => by
   have hs := sing_el hk hp (a5 s (List.mem_of_getElem? h1)) hm hne
   exact le_sing hk hp R.el (t hs gw.el R.el (gw.gr _ hs (sing_le hk hp ha h1 h2 h5) (sing_le hk hp hw h3 h4 h6)) hle)
  refine (lq_map hk hp l3 r3 r4).2 fun i s p hs hpp => ?_
  obtain ⟨pe, pne⟩ := l6 p (List.mem_of_getElem? hpp)
  obtain ⟨ia, x, h1, h2, h3⟩ := (lq_map hk hp l3 a3 a4).1 L.le1 i s p hs hpp
  obtain ⟨ij, w, h4, h5, h6⟩ := (lq_map hk hp l3 j3 j4).1 L.le2 i s p hs hpp
  have xe := (a6 x (List.mem_of_getElem? h2)).1
  rw [eJ] at h4 h5
  have h4 : (uni b.nm c.nm)[ij]? = some s := h4
  have h5 : ((uni b.nm c.nm).map (joinF q b c))[ij]? = some w := h5
  rw [List.getElem?_map, h4] at h5
  cases h5
  rcases joinF_of (q := q) b3 b4 d3 d4 ((uni_mem b4 d4).1 (List.mem_of_getElem? h4)) with ⟨k, y, e1, e2, -, e4⟩ | ⟨k, y, e1, e2, -, e4⟩ | ⟨k, y, k2, z, e1, e2, e3, e4, e5⟩
  ·rw [e4] at h6
   exact low hb G1 R.le1 pe pne h1 h2 e1 e2 h3 h6
  ·rw [e4] at h6
   exact low hc G2 R.le2 pe pne h1 h2 e1 e2 h3 h6
  ·rw [e5] at h6
   have ye := (b6 y (List.mem_of_getElem? e2)).1
   have ze := (d6 z (List.mem_of_getElem? e4)).1
   have Jq := join_lub q oq y z ye ze
   have M1 := meet_glb q oq cq rq x y xe ye
   have M2 := meet_glb q oq cq rq x z xe ze
   have Lq := meet_glb q oq cq rq x _ xe Jq.el
   have Rq := join_lub q oq _ _ M1.el M2.el
   have hpj : leqB q p (joinV q (meetV q x y) (meetV q x z)) = true := tq pe Lq.el Rq.el (Lq.gr p pe h3 h6) (ih q mq x y z xe ye ze)
   have bq := fun {r : Val} (hr : elemB r q = true) => bot_least q oq r hr
   have w1 := fun hne => low hb G1 R.le1 (s := s) M1.el hne h1 h2 e1 e2 M1.le1 M1.le2
   have w2 := fun hne => low hc G2 R.le2 (s := s) M2.el hne h1 h2 e3 e4 M2.le1 M2.le2
   by_cases n1 : meetV q x y = bottomV q
   ·by_cases n2 : meetV q x z = bottomV q
    ·exfalso
     rw [n1, n2, join_idem oq (bot_elem q oq)] at hpj
     exact pne (leq_anti q oq _ _ pe (bot_elem q oq) hpj (bq pe))
    ·obtain ⟨k', r, g1, g2, g3⟩ := w2 n2
     have re := (r6 r (List.mem_of_getElem? g2)).1
     exact ⟨k', r, g1, g2, tq pe Rq.el re hpj (Rq.least r re (by rw [n1]; exact bq re) g3)⟩
   ·obtain ⟨k', r, g1, g2, g3⟩ := w1 n1
    have re := (r6 r (List.mem_of_getElem? g2)).1
    refine ⟨k', r, g1, g2, tq pe Rq.el re hpj (Rq.least r re g3 ?_)⟩
    by_cases n2 : meetV q x z = bottomV q
    ·rw [n2]; exact bq re
    ·obtain ⟨k2', r', f1, f2, f3⟩ := w2 n2
     have := same_at r4 g1 f1
     subst this
     rw [g2] at f2; cases f2
     exact f3
 ·-- products
  obtain ⟨-, -, -, a4, a5⟩ := el_prod ha (.inl hk)
  obtain ⟨-, -, -, b4, b5⟩ := el_prod hb (.inl hk)
  obtain ⟨-, -, -, d4, d5⟩ := el_prod hc (.inl hk)
  have eJ : ∀ x y, joinV l x y = .mk 0 [] (joinZ l.ps x.ps y.ps) [] := fun x y => by rw [joinV_eq, hk]; rfl
  have eM : ∀ x y, meetV l x y = .mk 0 [] (meetZ l.ps x.ps y.ps) [] := fun x y => by rw [meetV_eq, hk]; rfl
  have n1 := jz_len b4 d4
  have n2 := mz_len (ls := l.ps) a4 n1
  have n3 := mz_len a4 b4
  have n4 := mz_len a4 d4
  have n5 := jz_len (ls := l.ps) n3 n4
  rw [eJ b c, eM a, eM a b, eM a c, eJ, lq_prod hk]
  refine leqZ_at n2 n5 fun k q u v hq hu hv => ?_
  obtain ⟨x, hx⟩ := get_lt (show k < a.ps.length by have := (List.getElem?_eq_some_iff.1 hq).1; omega)
  obtain ⟨y, hy⟩ := get_lt (show k < b.ps.length by have := (List.getElem?_eq_some_iff.1 hq).1; omega)
  obtain ⟨z, hz⟩ := get_lt (show k < c.ps.length by have := (List.getElem?_eq_some_iff.1 hq).1; omega)
  have f1 := mz_get hq hx (jz_get hq hy hz)
  have f2 := jz_get hq (mz_get hq hx hy) (mz_get hq hx hz)
  have hu : (meetZ l.ps a.ps (joinZ l.ps b.ps c.ps))[k]? = some u := hu
  have hv : (joinZ l.ps (meetZ l.ps a.ps b.ps) (meetZ l.ps a.ps c.ps))[k]? = some v := hv
  rw [f1] at hu; cases hu
  rw [f2] at hv; cases hv
  exact ih q (List.mem_of_getElem? hq) x y z (elemZ_get a5 hx hq) (elemZ_get b5 hy hq) (elemZ_get d5 hz hq)
 ·-- pairs
  obtain ⟨p, q, hp⟩ := shape_72 hO.shape hk
  have mq : q ∈ l.ps := by rw [hp]; simp
  obtain ⟨x1, x2, ea, u1, u2⟩ := two_of ha hk hp
  obtain ⟨y1, y2, eb, v1, v2⟩ := two_of hb hk hp
  obtain ⟨z1, z2, ec, w1, w2⟩ := two_of hc hk hp
  have cmp : ∀ {v w : Val} {s1 s2 t1 t2 : Val}, v.ps = [s1, s2] → w.ps = [t1, t2] → elemB s1 p = true → elemB t1 p = true → s1 ≠ t1 → leqB l v w = true ∨ leqB l w v = true := fun hv hw g1 g2 hne => by
   rw [lq_lex hk hp hv hw, lq_lex hk hp hw hv]
   rcases lex_total hO hk hp g1 g2 with h | h
   ·exact .inl (.inr ⟨hne, h⟩)
   ·exact .inr (.inr ⟨fun e => hne e.symm, h⟩)
  by_cases e1 : y1 = z1
  ·subst e1
   by_cases e2 : x1 = y1
   ·subst e2
    have mk2 : ∀ {v w : Val} {s t : Val}, v.ps = [x1, s] → w.ps = [x1, t] → joinV l v w = .mk 0 [] [x1, joinV q s t] [] ∧ meetV l v w = .mk 0 [] [x1, meetV q s t] [] := fun hv hw => by
     constructor
     ·rw [joinV_eq, hk, hp, hv, hw]; simp [joinX, (eqV_iff x1 x1).2 rfl]
     ·rw [meetV_eq, hk, hp, hv, hw]; simp [meetX, (eqV_iff x1 x1).2 rfl]
    have eJ := (mk2 eb ec).1
    have eL := (mk2 (v := a) (w := .mk 0 [] [x1, joinV q y2 z2] []) ea rfl).2
    have e3 := (mk2 ea eb).2
    have e4 := (mk2 ea ec).2
    have eR := (mk2 (v := .mk 0 [] [x1, meetV q x2 y2] []) (w := .mk 0 [] [x1, meetV q x2 z2] []) rfl rfl).1
    rw [eJ, eL, e3, e4, eR]
    exact (lq_lex hk hp rfl rfl).2 (.inl ⟨rfl, ih q mq x2 y2 z2 u2 v2 w2⟩)
   ·rcases cmp ea eb u1 v1 e2 with h | h
    ·exact c1 h
    ·rcases cmp ea ec u1 w1 e2 with h2 | h2
     ·exact c2 h2
     ·exact c3 h h2
  ·exact tot (cmp eb ec v1 w1 e1)
 ·rw [distB_eq, hk] at hD; cases hD
 ·rw [regsB_eq, hk] at hR; cases hR
 ·rw [distB_eq, hk] at hD; cases hD
theorem dist_le (l : Lat) (hO : OkL l) (hC : ChL l) (hR : regsB l = false) (hD : distB l = true) (a b c : Val) (ha : elemB a l = true) (hb : elemB b l = true) (hc : elemB c l = true) : leqB l (meetV l a (joinV l b c)) (joinV l (meetV l a b) (meetV l a c)) = true :=
 dist_s l hO hC hR hD (fun q hq x y z hx hy hz => dist_le q (hO.part q hq) (hC.part q hq) (regs_part hR hq) (dist_part hD hq) x y z hx hy hz) a b c ha hb hc
termination_by l
decreasing_by exact Lat.sizeOf_ps ‹_›
theorem dist_eq {l : Lat} (hO : OkL l) (hC : ChL l) (hR : regsB l = false) (hD : distB l = true) {a b c : Val} (ha : elemB a l = true) (hb : elemB b l = true) (hc : elemB c l = true) : meetV l a (joinV l b c) = joinV l (meetV l a b) (meetV l a c) := by
 have J := join_lub l hO b c hb hc
 have L := meet_glb l hO hC hR a (joinV l b c) ha J.el
 have G1 := meet_glb l hO hC hR a b ha hb
 have G2 := meet_glb l hO hC hR a c ha hc
 have R := join_lub l hO _ _ G1.el G2.el
 have t := fun {x y z : Val} (hx : elemB x l = true) (hy : elemB y l = true) (hz : elemB z l = true) (h1 : leqB l x y = true) (h2 : leqB l y z = true) => leq_trans l hO x y z hx hy hz h1 h2
 exact leq_anti l hO _ _ L.el R.el (dist_le l hO hC hR hD a b c ha hb hc) (R.least _ L.el (L.gr _ G1.el G1.le1 (t G1.el hb J.el G1.le2 J.le1)) (L.gr _ G2.el G2.le1 (t G2.el hc J.el G2.le2 J.le2)))
end Go.Proofs.YtciojbjoijedjaaGreat

namespace Go.Proofs.YtciojbjoijedjaaGreat
open Go.RowKit
set_option maxRecDepth 100000 in
set_option maxHeartbeats 1000000 in
theorem dist1_fc (q : Lat) (h : FC Tryz.prog 37 [.agg (latL q)] (bl (distB q))) : FC Tryz.prog 61 [.agg (latL q)] (bl (!distB q)) := by
 refine fc_of_awp [2] Tryz.func61 rfl rfl 6 Tryz.ntmps61 (Nat.le_of_ble_eq_true rfl) ?_
 intro E hN
 refine zG ?_
 refine zX hN ?_
 refine zS hN ?_
 refine zA ?_
 refine zL hN ?_
 refine zP hN (q_call h rfl rfl rfl) ?_
 refine zP hN (q_not rfl rfl) ?_
 refine zS hN ?_
 refine zQ ?_
 rfl
set_option maxRecDepth 100000 in
set_option maxHeartbeats 1000000 in
theorem distrib_s (l : Lat) (ih : ∀ q ∈ l.ps, FC Tryz.prog 37 [.agg (latL q)] (bl (distB q))) : FC Tryz.prog 37 [.agg (latL l)] (bl (distB l)) := by
 refine fc_of_awp [2] Tryz.func37 rfl rfl 17 Tryz.ntmps37 (Nat.le_of_ble_eq_true rfl) ?_
 intro E hN
 refine zG ?_
 refine zX hN ?_
 refine zS hN ?_
 refine zA ?_
 refine zF hN ?_
 refine zL hN ?_
 refine zB hN ?_
 refine zM hN ?_
 refine s_case 6 rfl (fun h5 => ?_) (fun h5 => ?_)
 ·
  refine s_py hN (q_fieldAddr rfl rfl rfl rfl) rfl (w11 h5) rfl rfl ?_
  refine s_py hN (q_load rfl rfl rfl rfl rfl) rfl (w11 h5) rfl rfl ?_
  refine s_py hN (q_bin rfl rfl rfl) rfl (w11 h5) rfl rfl ?_
  refine zP hN (q_pick1 rfl rfl h5 rfl) ?_
  refine zM hN ?_
  refine s_case 11 rfl (fun h8 => ?_) (fun h8 => ?_)
  ·
   refine s_py hN (q_fieldAddr rfl rfl rfl rfl) rfl (w11 h8) rfl rfl ?_
   refine s_py hN (q_load rfl rfl rfl rfl rfl) rfl (w11 h8) rfl rfl ?_
   refine s_py hN (q_call (anyFL_fc (q := fun p => !distB p) l.ps (fun y hy => dist1_fc y (ih y hy))) rfl rfl rfl) rfl (w11 h8) rfl rfl ?_
   refine s_py hN (q_not rfl rfl) rfl (w11 h8) rfl rfl ?_
   refine zP hN (q_pick1 rfl rfl h8 rfl) ?_
   refine zS hN ?_
   refine zQ ?_
   exact retB (by rw [distB_eq]; simp_all)
  ·
   refine s_skip hN rfl (w01 h8) rfl rfl ?_
   refine s_skip hN rfl (w01 h8) rfl rfl ?_
   refine s_skip hN rfl (w01 h8) rfl rfl ?_
   refine s_skip hN rfl (w01 h8) rfl rfl ?_
   refine zP hN (q_pick0 rfl rfl h8 rfl) ?_
   refine zS hN ?_
   refine zQ ?_
   exact retB (by rw [distB_eq]; simp_all)
 ·
  refine s_skip hN rfl (w01 h5) rfl rfl ?_
  refine s_skip hN rfl (w01 h5) rfl rfl ?_
  refine s_skip hN rfl (w01 h5) rfl rfl ?_
  refine zP hN (q_pick0 rfl rfl h5 rfl) ?_
  refine zM hN ?_
  refine zK hN ?_
  refine zK hN ?_
  refine zK hN ?_
  refine zK hN ?_
  refine zP hN (q_pick0 rfl rfl rfl rfl) ?_
  refine zS hN ?_
  refine zQ ?_
  exact retB (by rw [distB_eq]; simp_all)
theorem distrib_fc (l : Lat) : FC Tryz.prog 37 [.agg (latL l)] (bl (distB l)) := distrib_s l (fun q hq => distrib_fc q)
termination_by l
decreasing_by exact Lat.sizeOf_ps ‹_›
set_option maxRecDepth 100000 in
set_option maxHeartbeats 1000000 in
theorem lawDistributes_fc (l : Lat) (a b c : Val) : FC Tryz.prog 12 [.agg (latL l), .agg (valL a), .agg (valL b), .agg (valL c)] (bl true) := by
 refine fc_of_awp [8] Tryz.func12 rfl rfl 67 Tryz.ntmps12 (Nat.le_of_ble_eq_true rfl) ?_
 intro E hN
 refine zG ?_
 refine zX hN ?_
 refine zX hN ?_
 refine zX hN ?_
 refine zX hN ?_
 refine zS hN ?_
 refine zN ?_
 refine awp_seq ?_
 refine zG ?_
 refine zP hN (q_call awake_fc rfl rfl rfl) ?_
 refine zP hN (q_not rfl rfl) ?_
 refine zN ?_
 refine c_false rfl rfl ?_
 refine awp_skip ?_
 change AWP _ _ _ _ _
 refine awp_seq ?_
 refine zG ?_
 refine zL hN ?_
 refine zL hN ?_
 refine zL hN ?_
 refine zL hN ?_
 refine zP hN (q_bslice2 rfl rfl rfl rfl (by exact rfl) (by decide) (by decide) (vals_3 a b c)) ?_
 refine zP hN (q_call (lvalid_fc l [a, b, c]) rfl rfl rfl) ?_
 refine zP hN (q_not rfl rfl) ?_
 refine zM hN ?_
 refine s_case 18 rfl (fun h14 => ?_) (fun h14 => ?_)
 ·
  refine s_skip hN rfl (w10 (m0 (n1 h14))) rfl rfl ?_
  refine s_skip hN rfl (w10 (m0 (n1 h14))) rfl rfl ?_
  refine zP hN (q_pick1 rfl rfl (m0 (n1 h14)) rfl) ?_
  refine zN ?_
  refine c_true rfl rfl ?_
  refine zG ?_
  refine zS hN ?_
  refine zQ ?_
  rfl
 ·
  have hV := on_of (n0 h14)
  have hS := validL_small (n0 h14)
  refine s_py hN (q_load rfl rfl rfl rfl rfl) rfl (w00 (m1 (n0 h14))) rfl rfl ?_
  refine s_py hN (q_call (rRegs_fc l (check_ok hV.hc)) rfl rfl rfl) rfl (w00 (m1 (n0 h14))) rfl rfl ?_
  refine zP hN (q_pick0 rfl rfl (m1 (n0 h14)) rfl) ?_
  refine zN ?_
  refine c_cond rfl (fun h16 => ?_) (fun h16 => ?_)
  ·
   have h3 := h16
   refine zG ?_
   refine zS hN ?_
   refine zQ ?_
   rfl
  ·
   have hR : regsB l = false := h16
   have hO := check_ok hV.hc
   have hC := ChL.of l hV.hc
   have ta := hS a (by simp)
   have tb := hS b (by simp)
   have tc := hS c (by simp)
   have Mab := meet_glb l hO hC hR a b hV.ha hV.hb
   have Mac := meet_glb l hO hC hR a c hV.ha hV.hd
   have Jab := join_lub l hO a b hV.ha hV.hb
   have Jbc := join_lub l hO b c hV.hb hV.hd
   have smab := (sm_meetN (n := 40) (N := 80) (by decide) (by decide) l hO a b hV.ha hV.hb ta tb).up (show 80 ≤ 1000 by decide)
   have smac := (sm_meetN (n := 40) (N := 80) (by decide) (by decide) l hO a c hV.ha hV.hd ta tc).up (show 80 ≤ 1000 by decide)
   have sjab := (sm_join (by decide) l hO a b hV.ha hV.hb ta tb).up (show 40 + 40 ≤ 1000 by decide)
   have sjbc := (sm_join (by decide) l hO b c hV.hb hV.hd tb tc).up (show 40 + 40 ≤ 1000 by decide)
   have sa := ta.up (show 40 ≤ 1000 by decide)
   have sb := tb.up (show 40 ≤ 1000 by decide)
   have sc := tc.up (show 40 ≤ 1000 by decide)
   refine awp_skip ?_
   change AWP _ _ _ _ _
   refine awp_seq ?_
   refine awp_seq ?_
   refine awp_draw 21 (by kernel_rfl) (by kernel_rfl) ?_
   refine zl hN ?_
   refine zl hN ?_
   refine zl hN ?_
   refine zl hN ?_
   refine zl hN ?_
   refine zp hN (q_call (meets_fc l a b hV.hc hV.ha hV.hb sa sb hR) rfl rfl rfl) ?_
   refine zp hN (q_call (both_fc l a (meetV l a b) hV.hc hV.ha Mab.el sa smab) rfl rfl rfl) ?_
   refine zl hN ?_
   refine zp hN (q_call (fcb (rEqual_fc (joinV l a (meetV l a b)) a) ((eqV_iff _ _).2 (join_of_geq hO hV.ha Mab.el Mab.le1))) rfl rfl rfl) ?_
   refine zp hN (q_not rfl rfl) ?_
   refine zm hN ?_
   refine zl hN ?_
   refine zl hN ?_
   refine zl hN ?_
   refine zl hN ?_
   refine zl hN ?_
   refine zp hN (q_call (both_fc l a b hV.hc hV.ha hV.hb sa sb) rfl rfl rfl) ?_
   refine zp hN (q_call (meets_fc l a (joinV l a b) hV.hc hV.ha Jab.el sa sjab hR) rfl rfl rfl) ?_
   refine zl hN ?_
   refine zp hN (q_call (fcb (rEqual_fc (meetV l a (joinV l a b)) a) ((eqV_iff _ _).2 (meet_of_leq hO hC hR hV.ha Jab.el Jab.le1))) rfl rfl rfl) ?_
   refine zp hN (q_not rfl rfl) ?_
   change AOps _ _ _ _ _ _
   refine zP hN (q_pick0 rfl rfl rfl rfl) ?_
   refine zN ?_
   refine c_false rfl rfl ?_
   refine awp_skip ?_
   change AWP _ _ _ _ _
   refine awp_seq ?_
   refine awp_draw 23 (by kernel_rfl) (by kernel_rfl) ?_
   refine zl hN ?_
   refine zp hN (q_call (distrib_fc l) rfl rfl rfl) ?_
   refine zp hN (q_not rfl rfl) ?_
   refine zm hN ?_
   refine d_case 47 rfl (fun h34 => ?_) (fun h34 => ?_)
   ·
    refine d_skip hN rfl (w10 (m0 (n1 h34))) rfl rfl ?_
    refine d_skip hN rfl (w10 (m0 (n1 h34))) rfl rfl ?_
    refine d_skip hN rfl (w10 (m0 (n1 h34))) rfl rfl ?_
    refine d_skip hN rfl (w10 (m0 (n1 h34))) rfl rfl ?_
    refine d_skip hN rfl (w10 (m0 (n1 h34))) rfl rfl ?_
    refine d_skip hN rfl (w10 (m0 (n1 h34))) rfl rfl ?_
    refine d_skip hN rfl (w10 (m0 (n1 h34))) rfl rfl ?_
    refine d_skip hN rfl (w10 (m0 (n1 h34))) rfl rfl ?_
    refine d_skip hN rfl (w10 (m0 (n1 h34))) rfl rfl ?_
    refine d_skip hN rfl (w10 (m0 (n1 h34))) rfl rfl ?_
    refine d_skip hN rfl (w10 (m0 (n1 h34))) rfl rfl ?_
    refine d_skip hN rfl (w10 (m0 (n1 h34))) rfl rfl ?_
    refine d_skip hN rfl (w10 (m0 (n1 h34))) rfl rfl ?_
    refine d_skip hN rfl (w10 (m0 (n1 h34))) rfl rfl ?_
    refine d_skip hN rfl (w10 (m0 (n1 h34))) rfl rfl ?_
    refine d_skip hN rfl (w10 (m0 (n1 h34))) rfl rfl ?_
    refine d_skip hN rfl (w10 (m0 (n1 h34))) rfl rfl ?_
    refine d_skip hN rfl (w10 (m0 (n1 h34))) rfl rfl ?_
    refine zp hN (q_pick1 rfl rfl (m0 (n1 h34)) rfl) ?_
    change AOps _ _ _ _ _ _
    refine zS hN ?_
    refine zQ ?_
    rfl
   ·
    have hD : distB l = true := n0 h34
    refine d_py hN (q_load rfl rfl rfl rfl rfl) rfl (w00 (m1 (n0 h34))) rfl rfl ?_
    refine d_py hN (q_load rfl rfl rfl rfl rfl) rfl (w00 (m1 (n0 h34))) rfl rfl ?_
    refine d_py hN (q_load rfl rfl rfl rfl rfl) rfl (w00 (m1 (n0 h34))) rfl rfl ?_
    refine d_py hN (q_load rfl rfl rfl rfl rfl) rfl (w00 (m1 (n0 h34))) rfl rfl ?_
    refine d_py hN (q_load rfl rfl rfl rfl rfl) rfl (w00 (m1 (n0 h34))) rfl rfl ?_
    refine d_py hN (q_call (both_fc l b c hV.hc hV.hb hV.hd sb sc) rfl rfl rfl) rfl (w00 (m1 (n0 h34))) rfl rfl ?_
    refine d_py hN (q_call (meets_fc l a (joinV l b c) hV.hc hV.ha Jbc.el sa sjbc hR) rfl rfl rfl) rfl (w00 (m1 (n0 h34))) rfl rfl ?_
    refine d_py hN (q_load rfl rfl rfl rfl rfl) rfl (w00 (m1 (n0 h34))) rfl rfl ?_
    refine d_py hN (q_load rfl rfl rfl rfl rfl) rfl (w00 (m1 (n0 h34))) rfl rfl ?_
    refine d_py hN (q_load rfl rfl rfl rfl rfl) rfl (w00 (m1 (n0 h34))) rfl rfl ?_
    refine d_py hN (q_load rfl rfl rfl rfl rfl) rfl (w00 (m1 (n0 h34))) rfl rfl ?_
    refine d_py hN (q_call (meets_fc l a b hV.hc hV.ha hV.hb sa sb hR) rfl rfl rfl) rfl (w00 (m1 (n0 h34))) rfl rfl ?_
    refine d_py hN (q_load rfl rfl rfl rfl rfl) rfl (w00 (m1 (n0 h34))) rfl rfl ?_
    refine d_py hN (q_load rfl rfl rfl rfl rfl) rfl (w00 (m1 (n0 h34))) rfl rfl ?_
    refine d_py hN (q_load rfl rfl rfl rfl rfl) rfl (w00 (m1 (n0 h34))) rfl rfl ?_
    refine d_py hN (q_call (meets_fc l a c hV.hc hV.ha hV.hd sa sc hR) rfl rfl rfl) rfl (w00 (m1 (n0 h34))) rfl rfl ?_
    refine d_py hN (q_call (both_fc l (meetV l a b) (meetV l a c) hV.hc Mab.el Mac.el smab smac) rfl rfl rfl) rfl (w00 (m1 (n0 h34))) rfl rfl ?_
    refine d_py hN (q_call (fcb (rEqual_fc (meetV l a (joinV l b c)) (joinV l (meetV l a b) (meetV l a c))) ((eqV_iff _ _).2 (dist_eq hO hC hR hD hV.ha hV.hb hV.hd))) rfl rfl rfl) rfl (w00 (m1 (n0 h34))) rfl rfl ?_
    refine zp hN (q_pick0 rfl rfl (m1 (n0 h34)) rfl) ?_
    change AOps _ _ _ _ _ _
    refine zS hN ?_
    refine zQ ?_
    rfl
end Go.Proofs.YtciojbjoijedjaaGreat
