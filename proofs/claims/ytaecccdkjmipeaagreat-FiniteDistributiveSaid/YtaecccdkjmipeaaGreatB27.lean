/-
  Plain laws: absorption; where meets distribute over joins.
-/
import Derived.Test.YtaecccdkjmipeaaGreatB23
namespace Go.Proofs.YtaecccdkjmipeaaGreat
open Go.RowKit
mutual
def Qal : Qs → Bool
 | .mk k _ _ _ ps _ => k != 8 && k != 10 && !QjZ ps
def QjZ : List Qs → Bool
 | [] => false
 | p :: r => !Qal p || QjZ r
end
theorem Qhn : ∀ l : List Qs, QjZ l = l.any fun p => !Qal p
 | [] => rfl
 | p :: r => by rw [QjZ, Qhn r]; rfl
theorem QeS (l : Qs) : Qal l = (l.k != 8 && l.k != 10 && !(l.ps.any fun p => !Qal p)) := by
 cases l with
 | mk k lo hi nm ps rs => rw [Qal, Qhn]; rfl
theorem Qpg {l q : Qs} (h : Qal l = true) (hq : q ∈ l.ps) : Qal q = true := by
 rw [QeS, Bool.and_eq_true] at h
 have h2 := h.2
 rw [Bool.not_eq_true', List.any_eq_false] at h2
 simpa using h2 q hq
theorem QiO {l q : Qs} (h : QaR l = false) (hq : q ∈ l.ps) : QaR q = false := by
 rw [QcZ, Bool.or_eq_false_iff] at h
 have h2 := h.2
 rw [List.any_eq_false] at h2
 simpa using h2 q hq
section
variable {l : Qs} {a b c : Qn}
end
theorem Quf {l q : Qs} (hk : l.k = 5) (hp : l.ps = [q]) {s : Nm} {m : Qn} (hs : Y7 l.nm s = true) (hm : Qr m q = true) (hne : m ≠ QL q) : Qr (.mk 0 [s] [m] []) l = true :=
 QhM hk hp rfl rfl rfl rfl (by intro x hx; rw [List.mem_singleton.1 hx]; exact hs) (by intro x hx; rw [List.mem_singleton.1 hx]; exact ⟨hm, hne⟩)
theorem QnV {l q : Qs} (hk : l.k = 5) (hp : l.ps = [q]) {s : Nm} {m y : Qn} {v : Qn} (hv : Qr v l = true) {j : Nat} (h1 : v.nm[j]? = some s) (h2 : v.ps[j]? = some y) (hl : QU q m y = true) : QU l (.mk 0 [s] [m] []) v = true := by
 obtain ⟨-, -, r3, r4, -, -⟩ := J6 hv hk hp
 refine (YM hk hp (a := .mk 0 [s] [m] []) rfl r3 r4).2 fun i t z ht hz => ?_
 have hi : i = 0 := by
  have := (List.getElem?_eq_some_iff.1 ht).1
  simp [Qn.nm] at this; exact this
 subst hi
 simp [Qn.nm, Qn.ps] at ht hz
 subst ht hz
 exact ⟨j, y, h1, h2, hl⟩
theorem Qtu {l q : Qs} (hk : l.k = 5) (hp : l.ps = [q]) {s : Nm} {m : Qn} {v : Qn} (hv : Qr v l = true) (h : QU l (.mk 0 [s] [m] []) v = true) : ∃ (j : Nat) (y : Qn), v.nm[j]? = some s ∧ v.ps[j]? = some y ∧ QU q m y = true := by
 obtain ⟨-, -, r3, r4, -, -⟩ := J6 hv hk hp
 exact (YM hk hp (a := .mk 0 [s] [m] []) rfl r3 r4).1 h 0 s m rfl rfl
theorem Qvh (l : Qs) (hO : Kv l) (hC : ChL l) (hR : QaR l = false) (hD : Qal l = true)
  (ih : ∀ q ∈ l.ps, ∀ x y z, Qr x q = true → Qr y q = true → Qr z q = true → QU q (Q3 q x (QK q y z)) (QK q (Q3 q x y) (Q3 q x z)) = true)
  (a b c : Qn) (ha : Qr a l = true) (hb : Qr b l = true) (hc : Qr c l = true) : QU l (Q3 l a (QK l b c)) (QK l (Q3 l a b) (Q3 l a c)) = true := by
 have J := J9 l hO b c hb hc
 have L := KJ l hO hC hR a (QK l b c) ha J.el
 have G1 := KJ l hO hC hR a b ha hb
 have G2 := KJ l hO hC hR a c ha hc
 have R := J9 l hO _ _ G1.el G2.el
 have t := fun {x y z : Qn} (hx : Qr x l = true) (hy : Qr y l = true) (hz : Qr z l = true) (h1 : QU l x y = true) (h2 : QU l y z = true) => Qaz l hO x y z hx hy hz h1 h2
 have c1 : QU l a b = true → QU l (Q3 l a (QK l b c)) (QK l (Q3 l a b) (Q3 l a c)) = true := fun h =>
  t L.el ha R.el L.le1 (t ha G1.el R.el (G1.gr a ha (Yk l hO a ha) h) R.le1)
 have c2 : QU l a c = true → QU l (Q3 l a (QK l b c)) (QK l (Q3 l a b) (Q3 l a c)) = true := fun h =>
  t L.el ha R.el L.le1 (t ha G2.el R.el (G2.gr a ha (Yk l hO a ha) h) R.le2)
 have c3 : QU l b a = true → QU l c a = true → QU l (Q3 l a (QK l b c)) (QK l (Q3 l a b) (Q3 l a c)) = true := fun h1 h2 =>
  t L.el J.el R.el L.le2 (J.least _ R.el (t hb G1.el R.el (G1.gr b hb h1 (Yk l hO b hb)) R.le1) (t hc G2.el R.el (G2.gr c hc h2 (Yk l hO c hc)) R.le2))
 have c4 : QU l b c = true → QU l (Q3 l a (QK l b c)) (QK l (Q3 l a b) (Q3 l a c)) = true := fun h =>
  t L.el G2.el R.el (G2.gr _ L.el L.le1 (t L.el J.el hc L.le2 (J.least c hc h (Yk l hO c hc)))) R.le2
 have c5 : QU l c b = true → QU l (Q3 l a (QK l b c)) (QK l (Q3 l a b) (Q3 l a c)) = true := fun h =>
  t L.el G1.el R.el (G1.gr _ L.el L.le1 (t L.el J.el hb L.le2 (J.least b hb (Yk l hO b hb) h))) R.le1
 have tot : QU l b c = true ∨ QU l c b = true → QU l (Q3 l a (QK l b c)) (QK l (Q3 l a b) (Q3 l a c)) = true := fun h => h.elim c4 c5
 rcases Qbi hO with hk | hk | hk | hk | hk | hk | hk | hk | hk | hk
 ·exact tot (by rw [JS (.inl hk), JS (.inl hk)]; omega)
 ·exact tot (by rw [JS (.inr hk), JS (.inr hk)]; omega)
 ·exact tot (by rw [Wb hk, Wb hk]; omega)
 ·-- sets
  obtain ⟨-, -, -, a4, -, -⟩ := Yq ha (.inl hk)
  obtain ⟨-, -, -, b4, -, -⟩ := Yq hb (.inl hk)
  obtain ⟨-, -, -, c4', -, -⟩ := Yq hc (.inl hk)
  have eJ : QK l b c = .mk 0 (uni b.nm c.nm) [] [] := by rw [Jh, hk]; rfl
  have eL : ∀ x y, Q3 l x y = .mk 0 (itr x.nm y.nm) [] [] := fun x y => by rw [Qaj, hk]; rfl
  have eR : ∀ x y, QK l x y = .mk 0 (uni x.nm y.nm) [] [] := fun x y => by rw [Jh, hk]; rfl
  refine (Ys (.inl hk)).2 fun x hx => ?_
  rw [eJ, eL] at hx
  rw [eL, eL, eR]
  have h1 := (QgA a4 (QaV b4 c4')).1 hx
  refine (Qag (Qef a4 b4) (Qef a4 c4')).2 ?_
  rcases (Qag b4 c4').1 h1.2 with h | h
  ·exact .inl ((QgA a4 b4).2 ⟨h1.1, h⟩)
  exact .inr ((QgA a4 c4').2 ⟨h1.1, h⟩)
 ·-- maps
  obtain ⟨q, hp⟩ := YP hO hk
  have mq : q ∈ l.ps := by rw [hp]; simp
  have oq := hO.part q mq
  have cq := hC.part q mq
  have rq := QiO hR mq
  obtain ⟨-, -, a3, a4, a5, a6⟩ := J6 ha hk hp
  obtain ⟨-, -, b3, b4, b5, b6⟩ := J6 hb hk hp
  obtain ⟨-, -, d3, d4, d5, d6⟩ := J6 hc hk hp
  obtain ⟨-, -, j3, j4, -, -⟩ := J6 J.el hk hp
  obtain ⟨-, -, l3, l4, -, l6⟩ := J6 L.el hk hp
  obtain ⟨-, -, r3, r4, -, r6⟩ := J6 R.el hk hp
  have eJ : QK l b c = .mk 0 (uni b.nm c.nm) ((uni b.nm c.nm).map (Yy q b c)) [] := by rw [Jh, hk, hp, Qdx]; rfl
  have tq := fun {x y z : Qn} (hx : Qr x q = true) (hy : Qr y q = true) (hz : Qr z q = true) (h1 : QU q x y = true) (h2 : QU q y z = true) => Qaz q oq x y z hx hy hz h1 h2
  have low : ∀ {w : Qn} (hw : Qr w l = true) (gw : Glb l a w (Q3 l a w)) (hle : QU l (Q3 l a w) (QK l (Q3 l a b) (Q3 l a c)) = true) {s : Nm} {m x y : Qn} {i j : Nat}, Qr m q = true → m ≠ QL q → a.nm[i]? = some s → a.ps[i]? = some x → w.nm[j]? = some s → w.ps[j]? = some y → QU q m x = true → QU q m y = true →
    ∃ (k : Nat) (r : Qn), (QK l (Q3 l a b) (Q3 l a c)).nm[k]? = some s ∧ (QK l (Q3 l a b) (Q3 l a c)).ps[k]? = some r ∧ QU q m r = true := fun {w} hw gw hle {s m x y i j} hm hne h1 h2 h3 h4 h5 h6 => by
   have hs := Quf hk hp (a5 s (List.mem_of_getElem? h1)) hm hne
   exact Qtu hk hp R.el (t hs gw.el R.el (gw.gr _ hs (QnV hk hp ha h1 h2 h5) (QnV hk hp hw h3 h4 h6)) hle)
  refine (YM hk hp l3 r3 r4).2 fun i s p hs hpp => ?_
  obtain ⟨pe, pne⟩ := l6 p (List.mem_of_getElem? hpp)
  obtain ⟨ia, x, h1, h2, h3⟩ := (YM hk hp l3 a3 a4).1 L.le1 i s p hs hpp
  obtain ⟨ij, w, h4, h5, h6⟩ := (YM hk hp l3 j3 j4).1 L.le2 i s p hs hpp
  have xe := (a6 x (List.mem_of_getElem? h2)).1
  rw [eJ] at h4 h5
  have h4 : (uni b.nm c.nm)[ij]? = some s := h4
  have h5 : ((uni b.nm c.nm).map (Yy q b c))[ij]? = some w := h5
  rw [List.getElem?_map, h4] at h5
  cases h5
  rcases QbK (q := q) b3 b4 d3 d4 ((Qag b4 d4).1 (List.mem_of_getElem? h4)) with ⟨k, y, e1, e2, -, e4⟩ | ⟨k, y, e1, e2, -, e4⟩ | ⟨k, y, k2, z, e1, e2, e3, e4, e5⟩
  ·rw [e4] at h6
   exact low hb G1 R.le1 pe pne h1 h2 e1 e2 h3 h6
  ·rw [e4] at h6
   exact low hc G2 R.le2 pe pne h1 h2 e1 e2 h3 h6
  rw [e5] at h6
  have ye := (b6 y (List.mem_of_getElem? e2)).1
  have ze := (d6 z (List.mem_of_getElem? e4)).1
  have Jq := J9 q oq y z ye ze
  have M1 := KJ q oq cq rq x y xe ye
  have M2 := KJ q oq cq rq x z xe ze
  have Lq := KJ q oq cq rq x _ xe Jq.el
  have Rq := J9 q oq _ _ M1.el M2.el
  have hpj : QU q p (QK q (Q3 q x y) (Q3 q x z)) = true := tq pe Lq.el Rq.el (Lq.gr p pe h3 h6) (ih q mq x y z xe ye ze)
  have bq := fun {r : Qn} (hr : Qr r q = true) => QbB q oq r hr
  have w1 := fun hne => low hb G1 R.le1 (s := s) M1.el hne h1 h2 e1 e2 M1.le1 M1.le2
  have w2 := fun hne => low hc G2 R.le2 (s := s) M2.el hne h1 h2 e3 e4 M2.le1 M2.le2
  by_cases n1 : Q3 q x y = QL q
  ·by_cases n2 : Q3 q x z = QL q
   ·exfalso
    rw [n1, n2, QiZ oq (K2 q oq)] at hpj
    exact pne (Ko q oq _ _ pe (K2 q oq) hpj (bq pe))
   obtain ⟨k', r, g1, g2, g3⟩ := w2 n2
   have re := (r6 r (List.mem_of_getElem? g2)).1
   exact ⟨k', r, g1, g2, tq pe Rq.el re hpj (Rq.least r re (by rw [n1]; exact bq re) g3)⟩
  obtain ⟨k', r, g1, g2, g3⟩ := w1 n1
  have re := (r6 r (List.mem_of_getElem? g2)).1
  refine ⟨k', r, g1, g2, tq pe Rq.el re hpj (Rq.least r re g3 ?_)⟩
  by_cases n2 : Q3 q x z = QL q
  ·rw [n2]; exact bq re
  obtain ⟨k2', r', f1, f2, f3⟩ := w2 n2
  have := Qdi r4 g1 f1
  subst this
  rw [g2] at f2; cases f2
  exact f3
 ·-- products
  obtain ⟨-, -, -, a4, a5⟩ := JJ ha (.inl hk)
  obtain ⟨-, -, -, b4, b5⟩ := JJ hb (.inl hk)
  obtain ⟨-, -, -, d4, d5⟩ := JJ hc (.inl hk)
  have eJ : ∀ x y, QK l x y = .mk 0 [] (Wo l.ps x.ps y.ps) [] := fun x y => by rw [Jh, hk]; rfl
  have eM : ∀ x y, Q3 l x y = .mk 0 [] (QaI l.ps x.ps y.ps) [] := fun x y => by rw [Qaj, hk]; rfl
  have n1 := Qfr b4 d4
  have n2 := Qg6 (ls := l.ps) a4 n1
  have n3 := Qg6 a4 b4
  have n4 := Qg6 a4 d4
  have n5 := Qfr (ls := l.ps) n3 n4
  rw [eJ b c, eM a, eM a b, eM a c, eJ, YI hk]
  refine Qcd n2 n5 fun k q u v hq hu hv => ?_
  obtain ⟨x, hx⟩ := Qk (show k < a.ps.length by have := (List.getElem?_eq_some_iff.1 hq).1; omega)
  obtain ⟨y, hy⟩ := Qk (show k < b.ps.length by have := (List.getElem?_eq_some_iff.1 hq).1; omega)
  obtain ⟨z, hz⟩ := Qk (show k < c.ps.length by have := (List.getElem?_eq_some_iff.1 hq).1; omega)
  have f1 := Qg0 hq hx (Qfy hq hy hz)
  have f2 := Qfy hq (Qg0 hq hx hy) (Qg0 hq hx hz)
  have hu : (QaI l.ps a.ps (Wo l.ps b.ps c.ps))[k]? = some u := hu
  have hv : (Wo l.ps (QaI l.ps a.ps b.ps) (QaI l.ps a.ps c.ps))[k]? = some v := hv
  rw [f1] at hu; cases hu
  rw [f2] at hv; cases hv
  exact ih q (List.mem_of_getElem? hq) x y z (XP a5 hx hq) (XP b5 hy hq) (XP d5 hz hq)
 ·-- pairs
  obtain ⟨p, q, hp⟩ := Kt hO.shape hk
  have mq : q ∈ l.ps := by rw [hp]; simp
  obtain ⟨x1, x2, ea, u1, u2⟩ := Yw ha hk hp
  obtain ⟨y1, y2, eb, v1, v2⟩ := Yw hb hk hp
  obtain ⟨z1, z2, ec, w1, w2⟩ := Yw hc hk hp
  have cmp : ∀ {v w : Qn} {s1 s2 t1 t2 : Qn}, v.ps = [s1, s2] → w.ps = [t1, t2] → Qr s1 p = true → Qr t1 p = true → s1 ≠ t1 → QU l v w = true ∨ QU l w v = true := fun hv hw g1 g2 hne => by
   rw [Yc hk hp hv hw, Yc hk hp hw hv]
   rcases Qfx hO hk hp g1 g2 with h | h
   ·exact .inl (.inr ⟨hne, h⟩)
   exact .inr (.inr ⟨fun e => hne e.symm, h⟩)
  by_cases e1 : y1 = z1
  ·subst e1
   by_cases e2 : x1 = y1
   ·subst e2
    have mk2 : ∀ {v w : Qn} {s t : Qn}, v.ps = [x1, s] → w.ps = [x1, t] → QK l v w = .mk 0 [] [x1, QK q s t] [] ∧ Q3 l v w = .mk 0 [] [x1, Q3 q s t] [] := fun hv hw => by
     constructor
     ·rw [Jh, hk, hp, hv, hw]; simp [Qar, (J8 x1 x1).2 rfl]
     rw [Qaj, hk, hp, hv, hw]; simp [Qga, (J8 x1 x1).2 rfl]
    have eJ := (mk2 eb ec).1
    have eL := (mk2 (v := a) (w := .mk 0 [] [x1, QK q y2 z2] []) ea rfl).2
    have e3 := (mk2 ea eb).2
    have e4 := (mk2 ea ec).2
    have eR := (mk2 (v := .mk 0 [] [x1, Q3 q x2 y2] []) (w := .mk 0 [] [x1, Q3 q x2 z2] []) rfl rfl).1
    rw [eJ, eL, e3, e4, eR]
    exact (Yc hk hp rfl rfl).2 (.inl ⟨rfl, ih q mq x2 y2 z2 u2 v2 w2⟩)
   rcases cmp ea eb u1 v1 e2 with h | h
   ·exact c1 h
   rcases cmp ea ec u1 w1 e2 with h2 | h2
   ·exact c2 h2
   exact c3 h h2
  exact tot (cmp eb ec v1 w1 e1)
 ·rw [QeS, hk] at hD; cases hD
 ·rw [QcZ, hk] at hR; cases hR
 rw [QeS, hk] at hD; cases hD
theorem QoN (l : Qs) (hO : Kv l) (hC : ChL l) (hR : QaR l = false) (hD : Qal l = true) (a b c : Qn) (ha : Qr a l = true) (hb : Qr b l = true) (hc : Qr c l = true) : QU l (Q3 l a (QK l b c)) (QK l (Q3 l a b) (Q3 l a c)) = true :=
 Qvh l hO hC hR hD (fun q hq x y z hx hy hz => QoN q (hO.part q hq) (hC.part q hq) (QiO hR hq) (Qpg hD hq) x y z hx hy hz) a b c ha hb hc
termination_by l
decreasing_by exact Qs.sizeOf_ps ‹_›
theorem QtA {l : Qs} (hO : Kv l) (hC : ChL l) (hR : QaR l = false) (hD : Qal l = true) {a b c : Qn} (ha : Qr a l = true) (hb : Qr b l = true) (hc : Qr c l = true) : Q3 l a (QK l b c) = QK l (Q3 l a b) (Q3 l a c) := by
 have J := J9 l hO b c hb hc
 have L := KJ l hO hC hR a (QK l b c) ha J.el
 have G1 := KJ l hO hC hR a b ha hb
 have G2 := KJ l hO hC hR a c ha hc
 have R := J9 l hO _ _ G1.el G2.el
 have t := fun {x y z : Qn} (hx : Qr x l = true) (hy : Qr y l = true) (hz : Qr z l = true) (h1 : QU l x y = true) (h2 : QU l y z = true) => Qaz l hO x y z hx hy hz h1 h2
 exact Ko l hO _ _ L.el R.el (QoN l hO hC hR hD a b c ha hb hc) (R.least _ L.el (L.gr _ G1.el G1.le1 (t G1.el hb J.el G1.le2 J.le1)) (L.gr _ G2.el G2.le1 (t G2.el hc J.el G2.le2 J.le2)))
end Go.Proofs.YtaecccdkjmipeaaGreat
