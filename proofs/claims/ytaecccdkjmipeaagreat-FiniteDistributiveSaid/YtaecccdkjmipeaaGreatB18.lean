/-
  Contracts: the law JoinOrder.
-/
import Derived.Test.YtaecccdkjmipeaaGreatB16
import Derived.Test.YtaecccdkjmipeaaGreatB11
namespace Go.Proofs.YtaecccdkjmipeaaGreat
open Go.RowKit
theorem Qdf {F G : Qs → Int → Int × Int} : ∀ (l : List Qs) (n n' : Int), (∀ q ∈ l, ∀ n n', n' ≤ n → (F q n).1 = 0 → (G q n').1 = 0 ∧ (G q n').2 + n = (F q n).2 + n' ∧ n ≤ (F q n).2) → n' ≤ n → (J4 F l n).1 = 0 →
  (J4 G l n').1 = 0 ∧ (J4 G l n').2 + n = (J4 F l n).2 + n' ∧ n ≤ (J4 F l n).2 ∧ ∀ q ∈ l, ∃ m, n ≤ m ∧ (F q m).1 = 0
 | [], n, n', _, _, _ => by simp [J4]; omega
 | q :: r, n, n', hF, hn, h => by
  unfold J4 at h ⊢
  split at h
  ·rename_i h0
   have h0' : (F q n).1 = 0 := by simpa using h0
   obtain ⟨g1, g2, g3⟩ := hF q (by simp) n n' hn h0'
   rw [if_pos (by simpa using g1), if_pos h0]
   obtain ⟨k1, k2, k3, k4⟩ := Qdf r (F q n).2 (G q n').2 (fun p hp => hF p (by simp [hp])) (by omega) h
   refine ⟨k1, by omega, by omega, fun p hp => ?_⟩
   rcases List.mem_cons.1 hp with rfl | hp
   ·exact ⟨n, Int.le_refl _, h0'⟩
   obtain ⟨m, hm, he⟩ := k4 p hp
   exact ⟨m, by omega, he⟩
  rename_i h0
  exact absurd (by simpa using h) h0
theorem QcV : ∀ (f : Nat) (l : Qs) (n n' : Int), n' ≤ n → (Q7 f l n).1 = 0 → ∀ g, f ≤ g → (Q7 g l n').1 = 0 ∧ (Q7 g l n').2 + n = (Q7 f l n).2 + n' ∧ n ≤ (Q7 f l n).2
 | 0, l, n, n', _, h => by simp [Q7] at h
 | f + 1, l, n, n', hn, h => by
  intro g hg
  obtain ⟨g, rfl⟩ : ∃ k, g = k + 1 := ⟨g - 1, by omega⟩
  by_cases h64 : n ≥ 64
  ·rw [QlL h64] at h; simp at h
  have h64 : n < 64 := by omega
  cases hs : Xq l != 0 with
  | true => rw [QeZ h64 hs] at h; simp at h; simp [h] at hs
  | false =>
   cases ho : orE [J7 l, Jw l, X9 l, JH l] != 0 with
   | true => rw [Qqr h64 hs ho] at h; simp at h; simp [h] at ho
   | false =>
    rw [Qcf h64 hs ho] at h ⊢
    rw [Qcf (by omega) hs ho]
    obtain ⟨k1, k2, k3, -⟩ := Qdf (F := Q7 f) (G := Q7 g) l.ps (n + 1) (n' + 1) (fun q _ n n' hn h => QcV f q n n' hn h g (by omega)) (by omega) h
    exact ⟨k1, by omega, by omega⟩
theorem orE4 {a b c d : Int} (h : orE [a, b, c, d] = 0) : a = 0 ∧ b = 0 ∧ c = 0 ∧ d = 0 := by
 simp only [orE] at h
 split at h
 ·rename_i ha
  split at h
  ·rename_i hb
   split at h
   ·rename_i hc
    split at h
    ·rename_i hd
     exact ⟨by simpa using ha, by simpa using hb, by simpa using hc, by simpa using hd⟩
    rename_i hd; exact absurd (by simpa using h) hd
   rename_i hc; exact absurd (by simpa using h) hc
  rename_i hb; exact absurd (by simpa using h) hb
 rename_i ha; exact absurd (by simpa using h) ha
theorem Kv.four {l : Qs} (h : Kv l) : J7 l = 0 ∧ Jw l = 0 ∧ X9 l = 0 ∧ JH l = 0 := by cases h; exact orE4 (by assumption)
theorem XR {l q : Qs} (h : Q0 l = 0) (hq : q ∈ l.ps) : Q0 q = 0 := by
 unfold Q0 at h ⊢
 have h' := h
 have hO := QP h
 have hs : (Xq l != 0) = false := by simp [hO.shape]
 have ho : (orE [J7 l, Jw l, X9 l, JH l] != 0) = false := by
  obtain ⟨h1, h2, h3, h4⟩ := hO.four
  rw [h1, h2, h3, h4]; rfl
 rw [show (6 : Nat) = 5 + 1 from rfl, Qcf (by decide) hs ho] at h'
 obtain ⟨-, -, -, k4⟩ := Qdf (F := Q7 5) (G := Q7 5) l.ps (0 + 1) (0 + 1) (fun q _ n n' hn h => QcV 5 q n n' hn h 5 (Nat.le_refl _)) (Int.le_refl _) h'
 obtain ⟨m, hm, he⟩ := k4 q hq
 exact (QcV 5 q m 0 (by omega) he 6 (by decide)).1
theorem ChL.of (l : Qs) (h : Q0 l = 0) : ChL l := .mk l h (fun p hp => ChL.of p (XR h hp))
termination_by l
decreasing_by exact Qs.sizeOf_ps ‹_›
theorem Qfc {l : Qs} (h : Kv l) : l.lo ≤ l.hi := by
 have h := h.four.2.2.1
 unfold X9 Yh at h
 split at h
 ·cases h
 rename_i h1
 simp only [Bool.or_eq_true, decide_eq_true_eq, not_or] at h1
 omega
theorem Wt : ∀ {xs : List Qn} {ls : List Qs}, xs.length = ls.length → (KR xs ls = true ↔ ∀ (k : Nat) (x : Qn) (q : Qs), xs[k]? = some x → ls[k]? = some q → Qr x q = true)
 | [], [], _ => by simp [KR]
 | x :: xs, q :: ls, h => by
  rw [KR, Bool.and_eq_true, Wt (by simpa using h)]
  constructor
  ·rintro ⟨h1, h2⟩ k y p hy hp
   cases k with
   | zero => simp at hy hp; subst hy hp; exact h1
   | succ k => exact h2 k y p (by simpa using hy) (by simpa using hp)
  intro h
  exact ⟨h 0 x q rfl rfl, fun k y p hy hp => h (k + 1) y p (by simpa using hy) (by simpa using hp)⟩
 | [], _ :: _, h => by simp at h
 | _ :: _, [], h => by simp at h
section
variable {l : Qs} {v : Qn}
theorem Qca (hk : l.k = 6 ∨ l.k = 7) (h1 : v.N = 0) (h2 : v.nm = []) (h3 : v.es = []) (h4 : v.ps.length = l.ps.length) (h5 : KR v.ps l.ps = true) : Qr v l = true := by
 rw [QI]
 rcases hk with hk | hk <;> rw [hk] <;> simp [JO, h1, h2, h3, h4, h5]
theorem QjH (hk : l.k = 4) (h1 : v.N = 0) (h2 : v.ps = []) (h3 : v.es = []) (h4 : Qo v.nm = true) (h5 : ∀ s ∈ v.nm, Y7 l.nm s = true) : Qr v l = true := by
 rw [QI, hk]; simp [JO, JE, h1, h2, h3, h4]; exact h5
theorem QdF (hk : l.k = 10) (h1 : v.N = 0) (h2 : v.ps = []) (h3 : v.es = []) (h4 : Qo v.nm = true) (h5 : ∀ s ∈ v.nm, Y7 l.nm s = true) (h6 : Xf l.rs v.nm = true) : Qr v l = true := by
 rw [QI, hk]; simp [JO, JE, h1, h2, h3, h4, h6]; exact h5
theorem QhM (hk : l.k = 5) {q : Qs} {r : List Qs} (hp : l.ps = q :: r) (h1 : v.N = 0) (h2 : v.es = []) (h3 : v.nm.length = v.ps.length) (h4 : Qo v.nm = true) (h5 : ∀ s ∈ v.nm, Y7 l.nm s = true) (h6 : ∀ p ∈ v.ps, Qr p q = true ∧ p ≠ QL q) : Qr v l = true := by
 rw [QI, hk, hp]
 simp [JO, JE, QbH, QdT, h1, h2, h3, h4]
 refine ⟨h5, fun p hp => ⟨(h6 p hp).1, ?_⟩⟩
 have := (h6 p hp).2
 rw [Bool.eq_false_iff]
 exact fun e => this ((J8 _ _).1 e)
end
theorem QuV (l : Qs) : (QL l).N = if l.k == 2 then l.lo else if l.k == 3 then l.hi else 0 := by rw [Ki]; rfl
theorem QnJ (l : Qs) : (QL l).nm = [] := by rw [Ki]; rfl
theorem Qka (l : Qs) : (QL l).es = [] := by rw [Ki]; rfl
theorem Qkf (l : Qs) : (QL l).ps = if l.k == 6 || l.k == 7 then l.ps.map QL else [] := by rw [Ki]; rfl
theorem Qrg {l : Qs} (h : Kv l) : ∀ r ∈ l.rs, r.i ≠ [] := fun r hr e => by
 have h := h.four.2.1
 unfold Jw at h
 split at h
 ·rename_i h1
  simp only [Bool.and_eq_true, List.all_eq_true] at h1
  have := h1.2 r hr
  simp [Wf, e] at this
 ·cases h
theorem QtO (l : Qs) (hO : Kv l) (ih : ∀ q ∈ l.ps, Qr (QL q) q = true) : Qr (QL l) l = true := by
 have hN := QuV l
 have hnm := QnJ l
 have hes := Qka l
 have hps := Qkf l
 have hr := Qfc hO
 rcases Qbi hO with hk | hk | hk | hk | hk | hk | hk | hk | hk | hk
 ·rw [QI, hk]; simp [hk] at hN hps; simp [JO, hN, hnm, hes, hps]
 ·rw [QI, hk]; simp [hk] at hN hps; simp [JO, hN, hnm, hes, hps, hr]
 ·rw [QI, hk]; simp [hk] at hN hps; simp [JO, hN, hnm, hes, hps, hr]
 ·simp [hk] at hN hps; exact QjH hk hN hps hes (by rw [hnm]; rfl) (by rw [hnm]; simp)
 ·obtain ⟨q, hq⟩ := YP hO hk
  simp [hk] at hN hps; exact QhM hk hq hN hes (by rw [hnm, hps]; rfl) (by rw [hnm]; rfl) (by rw [hnm]; simp) (by rw [hps]; simp)
 ·simp [hk] at hN hps
  refine Qca (.inl hk) hN hnm hes (by rw [hps]; simp) ?_
  rw [hps, Wt (by simp)]
  intro k x q hx hq
  rw [List.getElem?_map, hq] at hx
  cases hx
  exact ih q (List.mem_of_getElem? hq)
 ·simp [hk] at hN hps
  refine Qca (.inr hk) hN hnm hes (by rw [hps]; simp) ?_
  rw [hps, Wt (by simp)]
  intro k x q hx hq
  rw [List.getElem?_map, hq] at hx
  cases hx
  exact ih q (List.mem_of_getElem? hq)
 ·rw [QI, hk]; simp [hk] at hN hps; simp [JO, hN, hnm, hes, hps]
 ·rw [QI, hk]; simp [hk] at hN hps; simp [JO, hN, hnm, hes, hps]; rfl
 simp [hk] at hN hps
 refine QdF hk hN hps hes (by rw [hnm]; rfl) (by rw [hnm]; simp) ?_
 rw [hnm]
 unfold Xf
 rw [List.all_eq_true]
 intro r hr
 have := Qrg hO r hr
 unfold Yi
 have h2 : JR r.i [] = false := by
  rw [Bool.eq_false_iff]
  intro e
  cases hi : r.i with
  | nil => exact this hi
  | cons a b => have := Jf.1 e a (by rw [hi]; simp); simp at this
 rw [h2]; rfl
theorem K2 (l : Qs) (hO : Kv l) : Qr (QL l) l = true := QtO l hO (fun q hq => K2 q (hO.part q hq))
termination_by l
decreasing_by exact Qs.sizeOf_ps ‹_›
theorem Qta (l : Qs) (hO : Kv l) (ih : ∀ q ∈ l.ps, ∀ x, Qr x q = true → QU q (QL q) x = true) (a : Qn) (ha : Qr a l = true) : QU l (QL l) a = true := by
 have hN := QuV l
 have hnm := QnJ l
 have hes := Qka l
 have hps := Qkf l
 have hb := K2 l hO
 rcases Qbi hO with hk | hk | hk | hk | hk | hk | hk | hk | hk | hk
 ·simp [hk] at hN
  refine (JS (.inl hk)).2 ?_
  rw [QI, hk] at ha
  simp at ha
  rcases ha.2 with h | h <;> omega
 ·simp [hk] at hN
  refine (JS (.inr hk)).2 ?_
  rw [QI, hk] at ha
  simp at ha
  omega
 ·simp [hk] at hN
  refine (Wb hk).2 ?_
  rw [QI, hk] at ha
  simp at ha
  omega
 ·exact (Ys (.inl hk)).2 (by rw [hnm]; simp)
 ·obtain ⟨q, hq⟩ := YP hO hk
  obtain ⟨-, -, h3, h4, -, -⟩ := J6 ha hk hq
  obtain ⟨-, -, g3, -, -, -⟩ := J6 hb hk hq
  exact (YM hk hq g3 h3 h4).2 (by rw [hnm]; simp)
 ·obtain ⟨-, -, -, h4, h5⟩ := JJ ha (.inl hk)
  obtain ⟨-, -, -, g4, -⟩ := JJ hb (.inl hk)
  simp [hk] at hps
  rw [YI hk, Y6 g4 h4]
  intro k q x y e1 e2 e3
  rw [hps, List.getElem?_map, e1] at e2
  cases e2
  exact ih q (List.mem_of_getElem? e1) y (XP h5 e3 e1)
 ·obtain ⟨p, q, hp⟩ := Kt hO.shape hk
  obtain ⟨y1, y2, eb, v1, v2⟩ := Yw ha hk hp
  simp [hk, hp] at hps
  refine (Yc hk hp hps eb).2 ?_
  by_cases e : QL p = y1
  ·exact .inl ⟨e, ih q (by rw [hp]; simp) y2 v2⟩
  exact .inr ⟨e, ih p (by rw [hp]; simp) y1 v1⟩
 ·simp [hk] at hN
  exact (Yx hk).2 (.inl hN)
 ·obtain ⟨-, -, -, h⟩ := W6 ha hk
  obtain ⟨-, -, -, g⟩ := W6 hb hk
  exact (Qap hk g h).2 (by rw [hes]; simp)
 exact (Ys (.inr hk)).2 (by rw [hnm]; simp)
theorem QbB (l : Qs) (hO : Kv l) (a : Qn) (ha : Qr a l = true) : QU l (QL l) a = true := Qta l hO (fun q hq x hx => QbB q (hO.part q hq) x hx) a ha
termination_by l
decreasing_by exact Qs.sizeOf_ps ‹_›
theorem Qc5 : ∀ (n : Nat) (l : Qs), SizeOf.sizeOf l < n → Kv l → chainB l = true → ∀ a b, Qr a l = true → Qr b l = true → QU l a b = true ∨ QU l b a = true
 | 0, _, h, _, _, _, _, _, _ => absurd h (Nat.not_lt_zero _)
 | n + 1, l, hn, hO, hc, a, b, ha, hb => by
  rcases Qbi hO with hk | hk | hk | hk | hk | hk | hk | hk | hk | hk
  ·rw [JS (.inl hk), JS (.inl hk)]; omega
  ·rw [JS (.inr hk), JS (.inr hk)]; omega
  ·rw [Wb hk, Wb hk]; omega
  ·rw [YO (by rw [hk]; rfl) (by rw [hk]; rfl) (by rw [hk]; rfl) (.inl (by rw [hk]; rfl))] at hc; cases hc
  ·rw [YO (by rw [hk]; rfl) (by rw [hk]; rfl) (by rw [hk]; rfl) (.inl (by rw [hk]; rfl))] at hc; cases hc
  ·rw [YO (by rw [hk]; rfl) (by rw [hk]; rfl) (by rw [hk]; rfl) (.inl (by rw [hk]; rfl))] at hc; cases hc
  ·obtain ⟨p, q, hp⟩ := Kt hO.shape hk
   rw [Qc0 (by rw [hk]; rfl) hp, Bool.and_eq_true] at hc
   obtain ⟨x1, x2, ea, u1, u2⟩ := Yw ha hk hp
   obtain ⟨y1, y2, eb, v1, v2⟩ := Yw hb hk hp
   have mp : p ∈ l.ps := by rw [hp]; simp
   have mq : q ∈ l.ps := by rw [hp]; simp
   rw [Yc hk hp ea eb, Yc hk hp eb ea]
   by_cases e : x1 = y1
   ·rcases Qc5 n q (by have := Qs.sizeOf_ps mq; omega) (hO.part q mq) hc.2 x2 y2 u2 v2 with h | h
    ·exact .inl (.inl ⟨e, h⟩)
    exact .inr (.inl ⟨e.symm, h⟩)
   rcases Qc5 n p (by have := Qs.sizeOf_ps mp; omega) (hO.part p mp) hc.1 x1 y1 u1 v1 with h | h
   ·exact .inl (.inr ⟨e, h⟩)
   exact .inr (.inr ⟨fun e' => e e'.symm, h⟩)
  ·rw [YO (by rw [hk]; rfl) (by rw [hk]; rfl) (by rw [hk]; rfl) (.inl (by rw [hk]; rfl))] at hc; cases hc
  ·rw [YO (by rw [hk]; rfl) (by rw [hk]; rfl) (by rw [hk]; rfl) (.inl (by rw [hk]; rfl))] at hc; cases hc
  rw [YO (by rw [hk]; rfl) (by rw [hk]; rfl) (by rw [hk]; rfl) (.inl (by rw [hk]; rfl))] at hc; cases hc
theorem Qfx {l : Qs} (hO : Kv l) (hk : l.k = 7) {p q : Qs} (hp : l.ps = [p, q]) {x y : Qn} (hx : Qr x p = true) (hy : Qr y p = true) : QU p x y = true ∨ QU p y x = true := by
 have hc := hO.four.2.2.2
 unfold JH Yh at hc
 rw [hk, hp] at hc
 simp at hc
 exact Qc5 _ p (Nat.lt_succ_self _) (hO.part p (by rw [hp]; simp)) hc x y hx hy
theorem QrP {l : Qs} (hO : Kv l) : (∀ s ∈ l.nm, XV s = true) ∧ (l.k ≠ 6 → Qo l.nm = true) ∧ ∀ r ∈ l.rs, Qo r.i = true ∧ (∀ x ∈ r.i, x ∈ l.nm) ∧ r.t ∈ l.nm := by
 have h := hO.four.2.1
 unfold Jw at h
 split at h
 ·rename_i h1
  simp only [Bool.and_eq_true, List.all_eq_true, Bool.or_eq_true, beq_iff_eq] at h1
  obtain ⟨⟨h1, h2⟩, h3⟩ := h1
  refine ⟨fun s hs => ?_, fun hk => h2.resolve_left hk, fun r hr => ?_⟩
  ·obtain ⟨i, hi⟩ := List.mem_iff_getElem?.1 hs
   have h4 := h1 (s, i) (List.mem_of_getElem? (by simp [hi] : l.nm.zipIdx[i]? = some (s, i)))
   unfold Qab at h4
   rw [Bool.and_eq_true] at h4
   exact h4.1
  have h4 := h3 r hr
  simp only [Wf, Bool.and_eq_true] at h4
  exact ⟨h4.1.1.2, Jf.1 h4.1.2, Jb.1 h4.2⟩
 cases h
theorem Qcd {ls : List Qs} {xs ys : List Qn} (h1 : xs.length = ls.length) (h2 : ys.length = ls.length) (h : ∀ (k : Nat) (q : Qs) (x y : Qn), ls[k]? = some q → xs[k]? = some x → ys[k]? = some y → QU q x y = true) : QdP ls xs ys = true := (Y6 h1 h2).2 h
theorem Qr4 {ls : List Qs} {xs ys : List Qn} (h1 : xs.length = ls.length) (h2 : ys.length = ls.length) {k : Nat} {z : Qn} {f : Qs → Qn → Qn → Qn} {zs : List Qn} (hz : zs[k]? = some z) (hl : zs.length = ls.length) (hf : ∀ q x y, ls[k]? = some q → xs[k]? = some x → ys[k]? = some y → zs[k]? = some (f q x y)) :
  ∃ q x y, ls[k]? = some q ∧ xs[k]? = some x ∧ ys[k]? = some y ∧ z = f q x y := by
 have hk := (List.getElem?_eq_some_iff.1 hz).1
 obtain ⟨q, hq⟩ := Qk (show k < ls.length by omega)
 obtain ⟨x, hx⟩ := Qk (show k < xs.length by omega)
 obtain ⟨y, hy⟩ := Qk (show k < ys.length by omega)
 refine ⟨q, x, y, hq, hx, hy, ?_⟩
 have := hf q x y hq hx hy
 rw [hz] at this
 exact Option.some.inj this
structure Glb (l : Qs) (a b m : Qn) : Prop where
 el : Qr m l = true
 le1 : QU l m a = true
 le2 : QU l m b = true
 gr : ∀ c, Qr c l = true → QU l c a = true → QU l c b = true → QU l c m = true
theorem Qnl {q : Qs} {b : Qn} {s : Nm} {p : Qn} {z : Nm × Qn} : Qjt q b (s, p) = some z ↔ ∃ y, JZ b s = some y ∧ z = (s, Q3 q p y) ∧ Q3 q p y ≠ (KZ q).1 := by
 unfold Qjt
 cases hb : JZ b s with
 | none => simp
 | some y =>
  simp only
  by_cases e : Q3 q p y = (KZ q).1
  ·rw [if_pos ((J8 _ _).2 e)]
   simp [e]
  rw [if_neg (fun h => e ((J8 _ _).1 h))]
  constructor
  ·intro h; cases h; exact ⟨y, rfl, rfl, e⟩
  rintro ⟨y', h1, h2, -⟩; cases h1; rw [h2]
theorem Qh9 {q : Qs} {b : Qn} : ∀ (l : List (Nm × Qn)), ((l.filterMap (Qjt q b)).map Prod.fst).Sublist (l.map Prod.fst)
 | [] => List.Sublist.slnil
 | (s, p) :: l => by
  cases h : Qjt q b (s, p) with
  | none => rw [List.filterMap_cons_none h, List.map_cons]; exact (Qh9 l).cons _
  | some z =>
   rw [List.filterMap_cons_some h, List.map_cons, List.map_cons]
   obtain ⟨y, -, hz, -⟩ := Qnl.1 h
   rw [hz]
   exact (Qh9 l).cons_cons _
theorem QtM {a : Qn} (h : a.nm.length = a.ps.length) : (a.nm.zip a.ps).map Prod.fst = a.nm := List.map_fst_zip (by omega)
theorem Qq9 {v : Qn} (_ : v.nm.length = v.ps.length) {s : Nm} {y : Qn} (h : JZ v s = some y) : ∃ j : Nat, v.nm[j]? = some s ∧ v.ps[j]? = some y := by
 by_cases hm : s ∈ v.nm
 ·rcases QbP s v.nm 0 with h1 | ⟨j, h1, h2, h3⟩
  ·unfold JZ at h; rw [h1, if_pos (by decide)] at h; cases h
  have hy : v.ps[j]? = some y := by
   unfold JZ at h
   rw [h3, if_neg (by omega)] at h
   simpa using h
  refine ⟨j, ?_, hy⟩
  have key : ∀ (l : List Nm) (i j : Nat), X5 s l i = ((i + j : Nat) : Int) → l[j]? = some s := by
   intro l
   induction l with
   | nil => intro i j h; simp [X5] at h; omega
   | cons x l ih =>
    intro i j h
    unfold X5 at h
    by_cases e : (s == x) = true
    ·rw [if_pos e] at h
     obtain rfl : j = 0 := by omega
     simp at e; simp [e]
    rw [if_neg e] at h
    cases j with
    | zero =>
     rcases QbP s l (i + 1) with g | ⟨d, g1, _, g3⟩
     ·rw [g] at h; omega
     rw [g3] at h; omega
    | succ j => simpa using ih (i + 1) j (by rw [h]; congr 1; omega)
  exact key v.nm 0 j (by rw [h3]; simp)
 ·rw [Qdp hm] at h; cases h
theorem Qsy {l : Qs} (hO : Kv l) {a b : Qn} (ha : Qr a l = true) (h : QU l a b = true) : Glb l a b a := ⟨ha, Yk l hO a ha, h, fun _ _ h1 _ => h1⟩
theorem Qo6 {l : Qs} (hO : Kv l) {a b : Qn} (hb : Qr b l = true) (h : QU l b a = true) : Glb l a b b := ⟨hb, h, Yk l hO b hb, fun _ _ _ h2 => h2⟩
theorem Qnh (l : Qs) (hO : Kv l) (hC : ChL l) (hR : QaR l = false) (ih : ∀ q ∈ l.ps, ∀ x y, Qr x q = true → Qr y q = true → Glb q x y (Q3 q x y)) (a b : Qn) (ha : Qr a l = true) (hb : Qr b l = true) : Glb l a b (Q3 l a b) := by
 have tot : l.k ≠ 4 → l.k ≠ 10 → l.k ≠ 5 → l.k ≠ 6 → (l.k = 7 → Qga l.ps a.ps b.ps = none) → QU l a b = true ∨ QU l b a = true → Glb l a b (Q3 l a b) := fun h4 h10 h5 h6 hx h => by
  rw [QgV h4 h10 h5 h6 hx]
  by_cases h1 : QU l a b = true
  ·rw [if_pos h1]; exact Qsy hO ha h1
  rw [if_neg h1]
  have h2 := h.resolve_left h1
  rw [if_pos h2]; exact Qo6 hO hb h2
 have names : l.k = 4 ∨ l.k = 10 → Glb l a b (Q3 l a b) := fun hk => by
  obtain ⟨p1, p2, p3, p4, p5, p6⟩ := Yq ha hk
  obtain ⟨q1, q2, q3, q4, q5, q6⟩ := Yq hb hk
  have hE : Q3 l a b = .mk 0 (itr a.nm b.nm) [] [] := by rw [Qaj]; rcases hk with hk | hk <;> rw [hk] <;> rfl
  rw [hE]
  have hs := Qef p4 q4
  have hm : ∀ z, z ∈ itr a.nm b.nm ↔ z ∈ a.nm ∧ z ∈ b.nm := fun z => QgA p4 q4
  refine ⟨?_, (Ys hk).2 fun x hx => ((hm x).1 hx).1, (Ys hk).2 fun x hx => ((hm x).1 hx).2, fun c _ h1 h2 => (Ys hk).2 fun x hx => (hm x).2 ⟨(Ys hk).1 h1 x hx, (Ys hk).1 h2 x hx⟩⟩
  have ok : ∀ s ∈ itr a.nm b.nm, Y7 l.nm s = true := fun s hs => p5 s ((hm s).1 hs).1
  rcases hk with hk | hk
  ·exact QjH hk rfl rfl rfl hs ok
  refine QdF hk rfl rfl rfl hs ok ?_
  have ca := p6 hk
  have cb := q6 hk
  unfold Xf at ca cb ⊢
  rw [List.all_eq_true] at ca cb ⊢
  intro r hr
  have c1 := ca r hr
  have c2 := cb r hr
  simp only [Yi, Bool.not_eq_true', Bool.and_eq_false_iff, Bool.not_eq_false'] at c1 c2 ⊢
  by_cases hsub : JR r.i (itr a.nm b.nm) = true
  ·right
   have s1 : JR r.i a.nm = true := Jf.2 fun x hx => ((hm x).1 (Jf.1 hsub x hx)).1
   have s2 : JR r.i b.nm = true := Jf.2 fun x hx => ((hm x).1 (Jf.1 hsub x hx)).2
   rw [s1] at c1
   rw [s2] at c2
   have t1 := Jb.1 (c1.resolve_left (by decide))
   have t2 := Jb.1 (c2.resolve_left (by decide))
   exact Jb.2 ((hm _).2 ⟨t1, t2⟩)
  left
  show JR r.i (itr a.nm b.nm) = false
  simpa using hsub
 rcases Qbi hO with hk | hk | hk | hk | hk | hk | hk | hk | hk | hk
 ·exact tot (by omega) (by omega) (by omega) (by omega) (fun h => by omega) (by rw [JS (.inl hk), JS (.inl hk)]; omega)
 ·exact tot (by omega) (by omega) (by omega) (by omega) (fun h => by omega) (by rw [JS (.inr hk), JS (.inr hk)]; omega)
 ·exact tot (by omega) (by omega) (by omega) (by omega) (fun h => by omega) (by rw [Wb hk, Wb hk]; omega)
 ·exact names (.inl hk)
 ·-- maps
  obtain ⟨q, hp⟩ := YP hO hk
  have mq : q ∈ l.ps := by rw [hp]; simp
  obtain ⟨p1, p2, p3, p4, p5, p6⟩ := J6 ha hk hp
  obtain ⟨q1, q2, q3, q4, q5, q6⟩ := J6 hb hk hp
  have hbq : (KZ q).1 = QL q := by rw [KZ, if_pos (hC.part q mq).ok]
  obtain ⟨M, hM⟩ : ∃ M, M = (a.nm.zip a.ps).filterMap (Qjt q b) := ⟨_, rfl⟩
  have hE : Q3 l a b = .mk 0 (M.map Prod.fst) (M.map Prod.snd) [] := by rw [Qaj, hk, hp, Qpk, hM]; rfl
  rw [hE]
  have hmem : ∀ s m, (s, m) ∈ M → ∃ p y i j, a.nm[i]? = some s ∧ a.ps[i]? = some p ∧ b.nm[j]? = some s ∧ b.ps[j]? = some y ∧ m = Q3 q p y ∧ m ≠ QL q := fun s m h => by
   rw [hM, List.mem_filterMap] at h
   obtain ⟨⟨s', p⟩, hz, hf⟩ := h
   obtain ⟨y, hy, he, hne⟩ := Qnl.1 hf
   cases he
   obtain ⟨i, hi⟩ := List.mem_iff_getElem?.1 hz
   rw [List.getElem?_zip_eq_some] at hi
   obtain ⟨j, hj, hj2⟩ := Qq9 q3 hy
   exact ⟨p, y, i, j, hi.1, hi.2, hj, hj2, rfl, by rw [hbq] at hne; exact hne⟩
  have hlen : (M.map Prod.fst).length = (M.map Prod.snd).length := by simp
  have hsub : (M.map Prod.fst).Sublist a.nm := by
   have := Qh9 (q := q) (b := b) (a.nm.zip a.ps)
   rw [QtM p3, ← hM] at this; exact this
  have hsort : Qo (M.map Prod.fst) = true := Kk ((Jm p4).sublist hsub)
  have hat : ∀ (i : Nat) (s : Nm) (m : Qn), (M.map Prod.fst)[i]? = some s → (M.map Prod.snd)[i]? = some m → (s, m) ∈ M := fun i s m h1 h2 => by
   rw [List.getElem?_map] at h1 h2
   cases hz : M[i]? with
   | none => rw [hz] at h1; cases h1
   | some z => rw [hz] at h1 h2; cases h1; cases h2; exact List.mem_of_getElem? hz
  have hge : ∀ (x y : Qn), Qr x q = true → Qr y q = true → Glb q x y (Q3 q x y) := fun x y hx hy => ih q mq x y hx hy
  refine ⟨QhM hk hp rfl rfl hlen hsort (fun s hs => p5 s (hsub.subset hs)) (fun m hm => ?_), (YM hk hp (a := .mk 0 (M.map Prod.fst) (M.map Prod.snd) []) hlen p3 p4).2 fun i s m h1 h2 => ?_, (YM hk hp (a := .mk 0 (M.map Prod.fst) (M.map Prod.snd) []) hlen q3 q4).2 fun i s m h1 h2 => ?_, fun c hc h1 h2 => ?_⟩
  ·obtain ⟨⟨s, m'⟩, hz, rfl⟩ := List.mem_map.1 hm
   obtain ⟨p, y, i, j, e1, e2, e3, e4, e5, e6⟩ := hmem s _ hz
   exact ⟨e5 ▸ (hge p y (p6 p (List.mem_of_getElem? e2)).1 (q6 y (List.mem_of_getElem? e4)).1).el, e6⟩
  ·obtain ⟨p, y, i', j, e1, e2, e3, e4, e5, e6⟩ := hmem s m (hat i s m h1 h2)
   exact ⟨i', p, e1, e2, e5 ▸ (hge p y (p6 p (List.mem_of_getElem? e2)).1 (q6 y (List.mem_of_getElem? e4)).1).le1⟩
  ·obtain ⟨p, y, i', j, e1, e2, e3, e4, e5, e6⟩ := hmem s m (hat i s m h1 h2)
   exact ⟨j, y, e3, e4, e5 ▸ (hge p y (p6 p (List.mem_of_getElem? e2)).1 (q6 y (List.mem_of_getElem? e4)).1).le2⟩
  obtain ⟨-, -, r3, r4, -, r6⟩ := J6 hc hk hp
  have l1 := (YM hk hp r3 p3 p4).1 h1
  have l2 := (YM hk hp r3 q3 q4).1 h2
  refine (YM hk hp (b := .mk 0 (M.map Prod.fst) (M.map Prod.snd) []) r3 hlen hsort).2 fun i s r hs hr => ?_
  obtain ⟨j, p, hj, hpp, g1⟩ := l1 i s r hs hr
  obtain ⟨k, y, hk', hy, g2⟩ := l2 i s r hs hr
  have hpe := (p6 p (List.mem_of_getElem? hpp)).1
  have hye := (q6 y (List.mem_of_getElem? hy)).1
  have hre := r6 r (List.mem_of_getElem? hr)
  have G := hge p y hpe hye
  have hle := G.gr r hre.1 g1 g2
  have hne : Q3 q p y ≠ QL q := fun e => hre.2 (Ko q (hO.part q mq) r _ hre.1 (K2 q (hO.part q mq)) (by rw [← e]; exact hle) (QbB q (hO.part q mq) r hre.1))
  have hin : (s, Q3 q p y) ∈ M := by
   rw [hM, List.mem_filterMap]
   exact ⟨(s, p), List.mem_of_getElem? (Qc9 hj hpp), Qnl.2 ⟨y, by rw [Qdr q4 hk', hy], rfl, by rw [hbq]; exact hne⟩⟩
  obtain ⟨i', hi'⟩ := List.mem_iff_getElem?.1 hin
  exact ⟨i', Q3 q p y, by show (M.map Prod.fst)[i']? = _; rw [List.getElem?_map, hi']; rfl, by show (M.map Prod.snd)[i']? = _; rw [List.getElem?_map, hi']; rfl, hle⟩
 ·-- products
  obtain ⟨p1, p2, p3, p4, p5⟩ := JJ ha (.inl hk)
  obtain ⟨q1, q2, q3, q4, q5⟩ := JJ hb (.inl hk)
  have hE : Q3 l a b = .mk 0 [] (QaI l.ps a.ps b.ps) [] := by rw [Qaj, hk]; rfl
  rw [hE]
  have hlen := Qg6 p4 q4
  have hat : ∀ {k : Nat} {z : Qn}, (QaI l.ps a.ps b.ps)[k]? = some z → ∃ q x y, l.ps[k]? = some q ∧ a.ps[k]? = some x ∧ b.ps[k]? = some y ∧ z = Q3 q x y := fun hz => Qr4 p4 q4 hz hlen (fun q x y h1 h2 h3 => Qg0 h1 h2 h3)
  have G : ∀ {k : Nat} {q : Qs} {x y : Qn}, l.ps[k]? = some q → a.ps[k]? = some x → b.ps[k]? = some y → Glb q x y (Q3 q x y) := fun h1 h2 h3 => ih _ (List.mem_of_getElem? h1) _ _ (XP p5 h2 h1) (XP q5 h3 h1)
  refine ⟨Qca (.inl hk) rfl rfl rfl hlen ((Wt hlen).2 fun k z q hz hq => ?_), ?_, ?_, fun c hc h1 h2 => ?_⟩
  ·obtain ⟨q', x, y, e1, e2, e3, rfl⟩ := hat hz
   rw [hq] at e1; cases e1
   exact (G hq e2 e3).el
  ·rw [YI hk]
   refine Qcd hlen p4 fun k q z x hq hz hx => ?_
   obtain ⟨q', x', y, e1, e2, e3, rfl⟩ := hat hz
   rw [hq] at e1; cases e1
   have hx : a.ps[k]? = some x := hx
   rw [hx] at e2; cases e2
   exact (G hq hx e3).le1
  ·rw [YI hk]
   refine Qcd hlen q4 fun k q z y hq hz hy => ?_
   obtain ⟨q', x, y', e1, e2, e3, rfl⟩ := hat hz
   rw [hq] at e1; cases e1
   have hy : b.ps[k]? = some y := hy
   rw [hy] at e3; cases e3
   exact (G hq e2 hy).le2
  obtain ⟨-, -, -, r4, r5⟩ := JJ hc (.inl hk)
  rw [YI hk, Y6 r4 p4] at h1
  rw [YI hk, Y6 r4 q4] at h2
  rw [YI hk]
  refine Qcd r4 hlen fun k q u z hq hu hz => ?_
  obtain ⟨q', x, y, e1, e2, e3, rfl⟩ := hat hz
  rw [hq] at e1; cases e1
  exact (G hq e2 e3).gr u (XP r5 hu hq) (h1 k q u x hq hu e2) (h2 k q u y hq hu e3)
 ·-- pairs
  obtain ⟨p, q, hp⟩ := Kt hO.shape hk
  have mq : q ∈ l.ps := by rw [hp]; simp
  obtain ⟨x1, x2, ea, u1, u2⟩ := Yw ha hk hp
  obtain ⟨y1, y2, eb, v1, v2⟩ := Yw hb hk hp
  by_cases e : x1 = y1
  ·subst e
   have hE : Q3 l a b = .mk 0 [] [x1, Q3 q x2 y2] [] := by rw [Qaj, hk, hp, ea, eb]; simp [Qga, (J8 x1 x1).2 rfl]
   rw [hE]
   have G := ih q mq x2 y2 u2 v2
   have hps : (Qn.mk 0 [] [x1, Q3 q x2 y2] []).ps = [x1, Q3 q x2 y2] := rfl
   refine ⟨Qca (.inr hk) rfl rfl rfl (by rw [hps, hp]; rfl) (by rw [hps, hp]; simp [KR, u1, G.el]), (Yc hk hp hps ea).2 (.inl ⟨rfl, G.le1⟩), (Yc hk hp hps eb).2 (.inl ⟨rfl, G.le2⟩), fun c hc h1 h2 => ?_⟩
   obtain ⟨z1, z2, ec, w1, w2⟩ := Yw hc hk hp
   refine (Yc hk hp ec hps).2 ?_
   rcases (Yc hk hp ec ea).1 h1 with ⟨e1, g1⟩ | ⟨e1, g1⟩
   ·rcases (Yc hk hp ec eb).1 h2 with ⟨e2, g2⟩ | ⟨e2, g2⟩
    ·exact .inl ⟨e1, G.gr z2 w2 g1 g2⟩
    exact absurd e1 e2
   exact .inr ⟨e1, g1⟩
  have hx : Qga l.ps a.ps b.ps = none := by rw [hp, ea, eb, Qga, if_neg (fun h => e ((J8 _ _).1 h))]
  refine tot (by omega) (by omega) (by omega) (by omega) (fun _ => hx) ?_
  rw [Yc hk hp ea eb, Yc hk hp eb ea]
  rcases Qfx hO hk hp u1 v1 with h | h
  ·exact .inl (.inr ⟨e, h⟩)
  exact .inr (.inr ⟨fun e' => e e'.symm, h⟩)
 ·-- flat lattices
  by_cases h1 : QU l a b = true
  ·exact tot (by omega) (by omega) (by omega) (by omega) (fun h => by omega) (.inl h1)
  by_cases h2 : QU l b a = true
  ·exact tot (by omega) (by omega) (by omega) (by omega) (fun h => by omega) (.inr h2)
  have hE : Q3 l a b = Qn.zero := by rw [QgV (by omega) (by omega) (by omega) (by omega) (fun h => by omega), if_neg h1, if_neg h2]
  rw [hE]
  rw [Yx hk] at h1 h2
  have hz : Qr Qn.zero l = true := by rw [QI, hk]; rfl
  refine ⟨hz, (Yx hk).2 (.inl rfl), (Yx hk).2 (.inl rfl), fun c hc g1 g2 => (Yx hk).2 ?_⟩
  rcases (Yx hk).1 g1 with g | g | g
  ·exact .inl g
  ·exact absurd (.inr (.inl g)) h2
  rcases (Yx hk).1 g2 with g' | g' | g'
  ·exact .inl g'
  ·exact absurd (.inr (.inl g')) h1
  exact absurd (.inr (.inr (g.symm.trans g'))) h1
 ·rw [QcZ, hk] at hR; simp at hR
 exact names (.inr hk)
theorem KJ (l : Qs) (hO : Kv l) (hC : ChL l) (hR : QaR l = false) (a b : Qn) (ha : Qr a l = true) (hb : Qr b l = true) : Glb l a b (Q3 l a b) :=
 Qnh l hO hC hR (fun q hq x y hx hy => KJ q (hO.part q hq) (hC.part q hq) (by
  rw [QcZ, Bool.or_eq_false_iff] at hR
  have := hR.2
  rw [List.any_eq_false] at this
  simpa using this q hq) x y hx hy) a b ha hb
termination_by l
decreasing_by exact Qs.sizeOf_ps ‹_›
end Go.Proofs.YtaecccdkjmipeaaGreat
namespace Go.Proofs.YtaecccdkjmipeaaGreat
open Go.RowKit
theorem fcb {f : FuncId} {args : List AV} {b c : Bool} (h : FC Tryz.prog f args (bl b)) (e : b = c) : FC Tryz.prog f args (bl c) := e ▸ h
structure On (l : Qs) (a b c : Qn) : Prop where
 hc : Q0 l = 0
 ha : Qr a l = true
 hb : Qr b l = true
 hd : Qr c l = true
theorem On.refl {l : Qs} {a b c : Qn} (h : On l a b c) : Qlf l a a = true := by rw [Qdy h.hc h.ha h.ha]; exact Yk l (QP h.hc) a h.ha
theorem On.anti {l : Qs} {a b c : Qn} (h : On l a b c) (h1 : Qlf l a b = true) (h2 : Qlf l b a = true) : eqV a b = true := by
 rw [Qdy h.hc h.ha h.hb] at h1
 rw [Qdy h.hc h.hb h.ha] at h2
 exact (J8 _ _).2 (Ko l (QP h.hc) a b h.ha h.hb h1 h2)
theorem On.trans {l : Qs} {a b c : Qn} (h : On l a b c) (h1 : Qlf l a b = true) (h2 : Qlf l b c = true) : Qlf l a c = true := by
 rw [Qdy h.hc h.ha h.hb] at h1
 rw [Qdy h.hc h.hb h.hd] at h2
 rw [Qdy h.hc h.ha h.hd]
 exact Qaz l (QP h.hc) a b c h.ha h.hb h.hd h1 h2
end Go.Proofs.YtaecccdkjmipeaaGreat
