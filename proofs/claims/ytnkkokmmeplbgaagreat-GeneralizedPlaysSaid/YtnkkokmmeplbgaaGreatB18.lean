/-
  Contracts: the law JoinOrder.
-/
import Derived.Test.YtnkkokmmeplbgaaGreatB14
import Derived.Test.YtnkkokmmeplbgaaGreatB16
import Derived.Test.YtnkkokmmeplbgaaGreatB11
namespace Go.Proofs.YtnkkokmmeplbgaaGreat
open Go.RowKit
theorem QcI {F G : Qv → Int → Int × Int} : ∀ (l : List Qv) (n n' : Int), (∀ q ∈ l, ∀ n n', n' ≤ n → (F q n).1 = 0 → (G q n').1 = 0 ∧ (G q n').2 + n = (F q n).2 + n' ∧ n ≤ (F q n).2) → n' ≤ n → (JM F l n).1 = 0 →
  (JM G l n').1 = 0 ∧ (JM G l n').2 + n = (JM F l n).2 + n' ∧ n ≤ (JM F l n).2 ∧ ∀ q ∈ l, ∃ m, n ≤ m ∧ (F q m).1 = 0
 | [], n, n', _, _, _ => by simp [JM]; omega
 | q :: r, n, n', hF, hn, h => by
  unfold JM at h ⊢
  split at h
  ·rename_i h0
   have h0' : (F q n).1 = 0 := by simpa using h0
   obtain ⟨g1, g2, g3⟩ := hF q (by simp) n n' hn h0';rw [if_pos (by simpa using g1), if_pos h0];obtain ⟨k1, k2, k3, k4⟩ := QcI r (F q n).2 (G q n').2 (fun p hp => hF p (by simp [hp])) (by omega) h;refine ⟨k1, by omega, by omega, fun p hp => ?_⟩
   rcases List.mem_cons.1 hp with rfl | hp
   ·exact ⟨n, Int.le_refl _, h0'⟩
   obtain ⟨m, hm, he⟩ := k4 p hp;exact ⟨m, by omega, he⟩
  rename_i h0
  exact absurd (by simpa using h) h0
theorem Qdf : ∀ (f : Nat) (l : Qv) (n n' : Int), n' ≤ n → (Xd f l n).1 = 0 → ∀ g, f ≤ g → (Xd g l n').1 = 0 ∧ (Xd g l n').2 + n = (Xd f l n).2 + n' ∧ n ≤ (Xd f l n).2
 | 0, l, n, n', _, h => by simp [Xd] at h
 | f + 1, l, n, n', hn, h => by
  intro g hg
  obtain ⟨g, rfl⟩ : ∃ k, g = k + 1 := ⟨g - 1, by omega⟩
  by_cases h64 : n ≥ 64
  ·rw [QkG h64] at h; simp at h
  have h64 : n < 64 := by omega
  cases hs : Xr l != 0 with
  | true => rw [QeA h64 hs] at h; simp at h; simp [h] at hs
  | false =>
   cases ho : orE [JK l, Jy l, Jb l, Jz l] != 0 with
   | true => rw [Qqp h64 hs ho] at h; simp at h; simp [h] at ho
   | false =>
    rw [Qb7 h64 hs ho] at h ⊢
    rw [Qb7 (by omega) hs ho];obtain ⟨k1, k2, k3, -⟩ := QcI (F := Xd f) (G := Xd g) l.ps (n + 1) (n' + 1) (fun q _ n n' hn h => Qdf f q n n' hn h g (by omega)) (by omega) h;exact ⟨k1, by omega, by omega⟩
theorem orE4 {a b c d : Int} (h : orE [a, b, c, d] = 0) : a = 0 ∧ b = 0 ∧ c = 0 ∧ d = 0 := by
 simp only [orE] at h
 split at h
 ·rename_i ha
  split at h
  ·rename_i hb
   split at h
   ·rename_i hc
    split at h
    ·rename_i hd
     exact ⟨by simpa using ha, by simpa using hb, by simpa using hc, by simpa using hd⟩
    rename_i hd; exact absurd (by simpa using h) hd
   rename_i hc; exact absurd (by simpa using h) hc
  rename_i hb; exact absurd (by simpa using h) hb
 rename_i ha; exact absurd (by simpa using h) ha
theorem YM.four {l : Qv} (h : YM l) : JK l = 0 ∧ Jy l = 0 ∧ Jb l = 0 ∧ Jz l = 0 := by cases h; exact orE4 (by assumption)
theorem Qme {l q : Qv} (h : QB l = 0) (hq : q ∈ l.ps) : QB q = 0 := by
 unfold QB at h ⊢
 have h' := h
 have hO := Xb h
 have hs : (Xr l != 0) = false := by simp [hO.shape]
 have ho : (orE [JK l, Jy l, Jb l, Jz l] != 0) = false := by
  obtain ⟨h1, h2, h3, h4⟩ := hO.four
  rw [h1, h2, h3, h4]; rfl
 rw [show (6 : Nat) = 5 + 1 from rfl, Qb7 (by decide) hs ho] at h';obtain ⟨-, -, -, k4⟩ := QcI (F := Xd 5) (G := Xd 5) l.ps (0 + 1) (0 + 1) (fun q _ n n' hn h => Qdf 5 q n n' hn h 5 (Nat.le_refl _)) (Int.le_refl _) h';obtain ⟨m, hm, he⟩ := k4 q hq;exact (Qdf 5 q m 0 (by omega) he 6 (by decide)).1
theorem ChL.of (l : Qv) (h : QB l = 0) : ChL l := .mk l h (fun p hp => ChL.of p (Qme h hp))
termination_by l
decreasing_by exact Qv.sizeOf_ps ‹_›
theorem Qol {l : Qv} (h : YM l) : l.lo ≤ l.hi := by
 have h := h.four.2.2.1
 unfold Jb Yb at h
 split at h
 ·cases h
 rename_i h1
 simp only [Bool.or_eq_true, decide_eq_true_eq, not_or] at h1
 omega
theorem Qdy : ∀ {xs : List Qp} {ls : List Qv}, xs.length = ls.length → (Kj xs ls = true ↔ ∀ (k : Nat) (x : Qp) (q : Qv), xs[k]? = some x → ls[k]? = some q → Qw x q = true)
 | [], [], _ => by simp [Kj]
 | x :: xs, q :: ls, h => by
  rw [Kj, Bool.and_eq_true, Qdy (by simpa using h)]
  constructor
  ·rintro ⟨h1, h2⟩ k y p hy hp
   cases k with
   | zero => simp at hy hp; subst hy hp; exact h1
   | succ k => exact h2 k y p (by simpa using hy) (by simpa using hp)
  intro h;exact ⟨h 0 x q rfl rfl, fun k y p hy hp => h (k + 1) y p (by simpa using hy) (by simpa using hp)⟩
 | [], _ :: _, h => by simp at h
 | _ :: _, [], h => by simp at h
section
variable {l : Qv} {v : Qp}
theorem Qgs (hk : l.k = 6 ∨ l.k = 7) (h1 : v.N = 0) (h2 : v.nm = []) (h3 : v.es = []) (h4 : v.ps.length = l.ps.length) (h5 : Kj v.ps l.ps = true) : Qw v l = true := by
 rw [Qu]
 rcases hk with hk | hk <;> rw [hk] <;> simp [JP, h1, h2, h3, h4, h5]
theorem QpR (hk : l.k = 4) (h1 : v.N = 0) (h2 : v.ps = []) (h3 : v.es = []) (h4 : Qt v.nm = true) (h5 : ∀ s ∈ v.nm, YE l.nm s = true) : Qw v l = true := by
 rw [Qu, hk]; simp [JP, Jg, h1, h2, h3, h4]; exact h5
theorem Qiy (hk : l.k = 10) (h1 : v.N = 0) (h2 : v.ps = []) (h3 : v.es = []) (h4 : Qt v.nm = true) (h5 : ∀ s ∈ v.nm, YE l.nm s = true) (h6 : WS l.rs v.nm = true) : Qw v l = true := by
 rw [Qu, hk]; simp [JP, Jg, h1, h2, h3, h4, h6]; exact h5
theorem Qqu (hk : l.k = 5) {q : Qv} {r : List Qv} (hp : l.ps = q :: r) (h1 : v.N = 0) (h2 : v.es = []) (h3 : v.nm.length = v.ps.length) (h4 : Qt v.nm = true) (h5 : ∀ s ∈ v.nm, YE l.nm s = true) (h6 : ∀ p ∈ v.ps, Qw p q = true ∧ p ≠ Qn q) : Qw v l = true := by
 rw [Qu, hk, hp]
 simp [JP, Jg, Qa4, QaO, h1, h2, h3, h4]
 refine ⟨h5, fun p hp => ⟨(h6 p hp).1, ?_⟩⟩
 have := (h6 p hp).2
 rw [Bool.eq_false_iff]
 exact fun e => this ((Jl _ _).1 e)
end
theorem Quq (l : Qv) : (Qn l).N = if l.k == 2 then l.lo else if l.k == 3 then l.hi else 0 := by rw [JG]; rfl
theorem Qmh (l : Qv) : (Qn l).nm = [] := by rw [JG]; rfl
theorem Qjp (l : Qv) : (Qn l).es = [] := by rw [JG]; rfl
theorem Qjm (l : Qv) : (Qn l).ps = if l.k == 6 || l.k == 7 then l.ps.map Qn else [] := by rw [JG]; rfl
theorem Qqg {l : Qv} (h : YM l) : ∀ r ∈ l.rs, r.i ≠ [] := fun r hr e => by
 have h := h.four.2.1
 unfold Jy at h
 split at h
 ·rename_i h1
  simp only [Bool.and_eq_true, List.all_eq_true] at h1
  have := h1.2 r hr
  simp [WN, e] at this
 ·cases h
theorem Qs4 (l : Qv) (hO : YM l) (ih : ∀ q ∈ l.ps, Qw (Qn q) q = true) : Qw (Qn l) l = true := by
 have hN := Quq l
 have hnm := Qmh l
 have hes := Qjp l
 have hps := Qjm l
 have hr := Qol hO
 rcases QdR hO with hk | hk | hk | hk | hk | hk | hk | hk | hk | hk
 ·rw [Qu, hk]; simp [hk] at hN hps; simp [JP, hN, hnm, hes, hps]
 ·rw [Qu, hk]; simp [hk] at hN hps; simp [JP, hN, hnm, hes, hps, hr]
 ·rw [Qu, hk]; simp [hk] at hN hps; simp [JP, hN, hnm, hes, hps, hr]
 ·simp [hk] at hN hps; exact QpR hk hN hps hes (by rw [hnm]; rfl) (by rw [hnm]; simp)
 ·obtain ⟨q, hq⟩ := Qax hO hk
  simp [hk] at hN hps; exact Qqu hk hq hN hes (by rw [hnm, hps]; rfl) (by rw [hnm]; rfl) (by rw [hnm]; simp) (by rw [hps]; simp)
 ·simp [hk] at hN hps
  refine Qgs (.inl hk) hN hnm hes (by rw [hps]; simp) ?_;rw [hps, Qdy (by simp)];intro k x q hx hq;rw [List.getElem?_map, hq] at hx
  cases hx
  exact ih q (List.mem_of_getElem? hq)
 ·simp [hk] at hN hps
  refine Qgs (.inr hk) hN hnm hes (by rw [hps]; simp) ?_;rw [hps, Qdy (by simp)];intro k x q hx hq;rw [List.getElem?_map, hq] at hx
  cases hx
  exact ih q (List.mem_of_getElem? hq)
 ·rw [Qu, hk]; simp [hk] at hN hps; simp [JP, hN, hnm, hes, hps]
 ·rw [Qu, hk]; simp [hk] at hN hps; simp [JP, hN, hnm, hes, hps]; rfl
 simp [hk] at hN hps
 refine Qiy hk hN hps hes (by rw [hnm]; rfl) (by rw [hnm]; simp) ?_;rw [hnm]
 unfold WS
 rw [List.all_eq_true];intro r hr
 have := Qqg hO r hr
 unfold WB
 have h2 : J6 r.i [] = false := by
  rw [Bool.eq_false_iff];intro e
  cases hi : r.i with
  | nil => exact this hi
  | cons a b => have := Ka.1 e a (by rw [hi]; simp); simp at this
 rw [h2]; rfl
theorem Qbe (l : Qv) (hO : YM l) : Qw (Qn l) l = true := Qs4 l hO (fun q hq => Qbe q (hO.part q hq))
termination_by l
decreasing_by exact Qv.sizeOf_ps ‹_›
theorem Qst (l : Qv) (hO : YM l) (ih : ∀ q ∈ l.ps, ∀ x, Qw x q = true → QJ q (Qn q) x = true) (a : Qp) (ha : Qw a l = true) : QJ l (Qn l) a = true := by
 have hN := Quq l
 have hnm := Qmh l
 have hes := Qjp l
 have hps := Qjm l
 have hb := Qbe l hO
 rcases QdR hO with hk | hk | hk | hk | hk | hk | hk | hk | hk | hk
 ·simp [hk] at hN
  refine (Yg (.inl hk)).2 ?_;rw [Qu, hk] at ha
  simp at ha
  rcases ha.2 with h | h <;> omega
 ·simp [hk] at hN
  refine (Yg (.inr hk)).2 ?_;rw [Qu, hk] at ha
  simp at ha
  omega
 ·simp [hk] at hN
  refine (Qad hk).2 ?_;rw [Qu, hk] at ha
  simp at ha
  omega
 ·exact (Ki (.inl hk)).2 (by rw [hnm]; simp)
 ·obtain ⟨q, hq⟩ := Qax hO hk
  obtain ⟨-, -, h3, h4, -, -⟩ := Kc ha hk hq;obtain ⟨-, -, g3, -, -, -⟩ := Kc hb hk hq;exact (QaK hk hq g3 h3 h4).2 (by rw [hnm]; simp)
 ·obtain ⟨-, -, -, h4, h5⟩ := Ye ha (.inl hk)
  obtain ⟨-, -, -, g4, -⟩ := Ye hb (.inl hk)
  simp [hk] at hps
  rw [Wh hk, KF g4 h4];intro k q x y e1 e2 e3;rw [hps, List.getElem?_map, e1] at e2
  cases e2
  exact ih q (List.mem_of_getElem? e1) y (Jd h5 e3 e1)
 ·obtain ⟨p, q, hp⟩ := KI hO.shape hk
  obtain ⟨y1, y2, eb, v1, v2⟩ := Yw ha hk hp
  simp [hk, hp] at hps
  refine (Kg hk hp hps eb).2 ?_
  by_cases e : Qn p = y1
  ·exact .inl ⟨e, ih q (by rw [hp]; simp) y2 v2⟩
  exact .inr ⟨e, ih p (by rw [hp]; simp) y1 v1⟩
 ·simp [hk] at hN
  exact (KT hk).2 (.inl hN)
 ·obtain ⟨-, -, -, h⟩ := KK ha hk
  obtain ⟨-, -, -, g⟩ := KK hb hk;exact (QaG hk g h).2 (by rw [hes]; simp)
 exact (Ki (.inr hk)).2 (by rw [hnm]; simp)
theorem Ww (l : Qv) (hO : YM l) (a : Qp) (ha : Qw a l = true) : QJ l (Qn l) a = true := Qst l hO (fun q hq x hx => Ww q (hO.part q hq) x hx) a ha
termination_by l
decreasing_by exact Qv.sizeOf_ps ‹_›
theorem Qc4 : ∀ (n : Nat) (l : Qv), SizeOf.sizeOf l < n → YM l → chainB l = true → ∀ a b, Qw a l = true → Qw b l = true → QJ l a b = true ∨ QJ l b a = true
 | 0, _, h, _, _, _, _, _, _ => absurd h (Nat.not_lt_zero _)
 | n + 1, l, hn, hO, hc, a, b, ha, hb => by
  rcases QdR hO with hk | hk | hk | hk | hk | hk | hk | hk | hk | hk
  ·rw [Yg (.inl hk), Yg (.inl hk)]; omega
  ·rw [Yg (.inr hk), Yg (.inr hk)]; omega
  ·rw [Qad hk, Qad hk]; omega
  ·rw [Yy (by rw [hk]; rfl) (by rw [hk]; rfl) (by rw [hk]; rfl) (.inl (by rw [hk]; rfl))] at hc; cases hc
  ·rw [Yy (by rw [hk]; rfl) (by rw [hk]; rfl) (by rw [hk]; rfl) (.inl (by rw [hk]; rfl))] at hc; cases hc
  ·rw [Yy (by rw [hk]; rfl) (by rw [hk]; rfl) (by rw [hk]; rfl) (.inl (by rw [hk]; rfl))] at hc; cases hc
  ·obtain ⟨p, q, hp⟩ := KI hO.shape hk
   rw [Qc7 (by rw [hk]; rfl) hp, Bool.and_eq_true] at hc;obtain ⟨x1, x2, ea, u1, u2⟩ := Yw ha hk hp;obtain ⟨y1, y2, eb, v1, v2⟩ := Yw hb hk hp
   have mp : p ∈ l.ps := by rw [hp]; simp
   have mq : q ∈ l.ps := by rw [hp]; simp
   rw [Kg hk hp ea eb, Kg hk hp eb ea]
   by_cases e : x1 = y1
   ·rcases Qc4 n q (by have := Qv.sizeOf_ps mq; omega) (hO.part q mq) hc.2 x2 y2 u2 v2 with h | h
    ·exact .inl (.inl ⟨e, h⟩)
    exact .inr (.inl ⟨e.symm, h⟩)
   rcases Qc4 n p (by have := Qv.sizeOf_ps mp; omega) (hO.part p mp) hc.1 x1 y1 u1 v1 with h | h
   ·exact .inl (.inr ⟨e, h⟩)
   exact .inr (.inr ⟨fun e' => e e'.symm, h⟩)
  ·rw [Yy (by rw [hk]; rfl) (by rw [hk]; rfl) (by rw [hk]; rfl) (.inl (by rw [hk]; rfl))] at hc; cases hc
  ·rw [Yy (by rw [hk]; rfl) (by rw [hk]; rfl) (by rw [hk]; rfl) (.inl (by rw [hk]; rfl))] at hc; cases hc
  rw [Yy (by rw [hk]; rfl) (by rw [hk]; rfl) (by rw [hk]; rfl) (.inl (by rw [hk]; rfl))] at hc; cases hc
theorem Qic {l : Qv} (hO : YM l) (hk : l.k = 7) {p q : Qv} (hp : l.ps = [p, q]) {x y : Qp} (hx : Qw x p = true) (hy : Qw y p = true) : QJ p x y = true ∨ QJ p y x = true := by
 have hc := hO.four.2.2.2
 unfold Jz Yb at hc
 rw [hk, hp] at hc
 simp at hc
 exact Qc4 _ p (Nat.lt_succ_self _) (hO.part p (by rw [hp]; simp)) hc x y hx hy
theorem Qgv {l : Qv} (hO : YM l) : (∀ s ∈ l.nm, XP s = true) ∧ (l.k ≠ 6 → Qt l.nm = true) ∧ ∀ r ∈ l.rs, Qt r.i = true ∧ (∀ x ∈ r.i, x ∈ l.nm) ∧ r.t ∈ l.nm := by
 have h := hO.four.2.1
 unfold Jy at h
 split at h
 ·rename_i h1
  simp only [Bool.and_eq_true, List.all_eq_true, Bool.or_eq_true, beq_iff_eq] at h1
  obtain ⟨⟨h1, h2⟩, h3⟩ := h1;refine ⟨fun s hs => ?_, fun hk => h2.resolve_left hk, fun r hr => ?_⟩
  ·obtain ⟨i, hi⟩ := List.mem_iff_getElem?.1 hs
   have h4 := h1 (s, i) (List.mem_of_getElem? (by simp [hi] : l.nm.zipIdx[i]? = some (s, i)))
   unfold QaJ at h4
   rw [Bool.and_eq_true] at h4;exact h4.1
  have h4 := h3 r hr
  simp only [WN, Bool.and_eq_true] at h4
  exact ⟨h4.1.1.2, Ka.1 h4.1.2, Yn.1 h4.2⟩
 cases h
theorem QjA {l : Qv} (hO : YM l) : l.nm.length ≤ 32 ∧ l.rs.length ≤ 32 := by
 have h := hO.four.1
 unfold JK Yb at h
 have hm : Ky l.k ≤ 32 := by
  unfold Ky
  split
  ·decide
  split <;> decide
 have hl : (decide ((l.nm.length : Int) > Ky l.k) || decide ((l.rs.length : Int) > 32)) = false := by
  cases hb : (decide ((l.nm.length : Int) > Ky l.k) || decide ((l.rs.length : Int) > 32))
  ·rfl
  rw [hb] at h; cases h
 simp only [Bool.or_eq_false_iff, decide_eq_false_iff_not] at hl
 exact ⟨by omega, by omega⟩
theorem Qiu {α : Type} [BEq α] [LawfulBEq α] : ∀ (a b : List α), a.Nodup → (∀ x ∈ a, x ∈ b) → a.length ≤ b.length
 | [], b, _, _ => Nat.zero_le _
 | x :: r, b, h, hs => by
  have hx := hs x List.mem_cons_self
  obtain ⟨h1, h2⟩ := List.nodup_cons.1 h
  have := Qiu r (b.erase x) h2 (fun y hy => (List.mem_erase_of_ne (fun e => h1 (by rw [← e]; exact hy))).2 (hs y (List.mem_cons_of_mem _ hy)))
  rw [List.length_erase_of_mem hx] at this
  have := List.length_pos_of_mem hx
  simp only [List.length_cons]; omega
theorem Qvl {l : Qv} (hO : YM l) : ∀ r ∈ l.rs, r.i.length ≤ 1000000 := fun r hr => by
 obtain ⟨h1, h2, -⟩ := (Qgv hO).2.2 r hr
 have := Qiu r.i l.nm (Qb2 h1) h2
 have := (QjA hO).1
 omega
theorem QjM {ls : List Qv} {xs ys : List Qp} (h1 : xs.length = ls.length) (h2 : ys.length = ls.length) (h : ∀ (k : Nat) (q : Qv) (x y : Qp), ls[k]? = some q → xs[k]? = some x → ys[k]? = some y → QJ q x y = true) : Qch ls xs ys = true := (KF h1 h2).2 h
theorem Quk {ls : List Qv} {xs ys : List Qp} (h1 : xs.length = ls.length) (h2 : ys.length = ls.length) {k : Nat} {z : Qp} {f : Qv → Qp → Qp → Qp} {zs : List Qp} (hz : zs[k]? = some z) (hl : zs.length = ls.length) (hf : ∀ q x y, ls[k]? = some q → xs[k]? = some x → ys[k]? = some y → zs[k]? = some (f q x y)) :
  ∃ q x y, ls[k]? = some q ∧ xs[k]? = some x ∧ ys[k]? = some y ∧ z = f q x y := by
 have hk := (List.getElem?_eq_some_iff.1 hz).1
 obtain ⟨q, hq⟩ := Qq (show k < ls.length by omega);obtain ⟨x, hx⟩ := Qq (show k < xs.length by omega);obtain ⟨y, hy⟩ := Qq (show k < ys.length by omega);refine ⟨q, x, y, hq, hx, hy, ?_⟩
 have := hf q x y hq hx hy
 rw [hz] at this;exact Option.some.inj this
end Go.Proofs.YtnkkokmmeplbgaaGreat
namespace Go.Proofs.YtnkkokmmeplbgaaGreat
open Go.RowKit
theorem fcb {f : FuncId} {args : List AV} {b c : Bool} (h : FC Tryz.prog f args (bl b)) (e : b = c) : FC Tryz.prog f args (bl c) := e ▸ h
structure On (l : Qv) (a b c : Qp) : Prop where
 hc : QB l = 0
 ha : Qw a l = true
 hb : Qw b l = true
 hd : Qw c l = true
theorem On.refl {l : Qv} {a b c : Qp} (h : On l a b c) : QeC l a a = true := by rw [Qbo h.hc h.ha h.ha]; exact QaD l (Xb h.hc) a h.ha
theorem On.anti {l : Qv} {a b c : Qp} (h : On l a b c) (h1 : QeC l a b = true) (h2 : QeC l b a = true) : WH a b = true := by
 rw [Qbo h.hc h.ha h.hb] at h1;rw [Qbo h.hc h.hb h.ha] at h2;exact (Jl _ _).2 (Qaw l (Xb h.hc) a b h.ha h.hb h1 h2)
theorem On.trans {l : Qv} {a b c : Qp} (h : On l a b c) (h1 : QeC l a b = true) (h2 : QeC l b c = true) : QeC l a c = true := by
 rw [Qbo h.hc h.ha h.hb] at h1;rw [Qbo h.hc h.hb h.hd] at h2;rw [Qbo h.hc h.ha h.hd];exact Qa5 l (Xb h.hc) a b c h.ha h.hb h.hd h1 h2
end Go.Proofs.YtnkkokmmeplbgaaGreat
