/-
  Contracts: the law JoinOrder.
-/
import Derived.Test.YtnkkokmmeplbgaaGreatB15
import Derived.Test.YtnkkokmmeplbgaaGreatB16
import Derived.Test.YtnkkokmmeplbgaaGreatB11
namespace Go.Proofs.YtnkkokmmeplbgaaGreat
open Go.RowKit
theorem Qcf {F G : QD → Int → Int × Int} : ∀ (l : List QD) (n n' : Int), (∀ q ∈ l, ∀ n n', n' ≤ n → (F q n).1 = 0 → (G q n').1 = 0 ∧ (G q n').2 + n = (F q n).2 + n' ∧ n ≤ (F q n).2) → n' ≤ n → (JE F l n).1 = 0 →
  (JE G l n').1 = 0 ∧ (JE G l n').2 + n = (JE F l n).2 + n' ∧ n ≤ (JE F l n).2 ∧ ∀ q ∈ l, ∃ m, n ≤ m ∧ (F q m).1 = 0
 | [], n, n', _, _, _ => by simp [JE]; omega
 | q :: r, n, n', hF, hn, h => by
  unfold JE at h ⊢
  split at h
  ·rename_i h0
   have h0' : (F q n).1 = 0 := by simpa using h0
   obtain ⟨g1, g2, g3⟩ := hF q (by simp) n n' hn h0'
   rw [if_pos (by simpa using g1), if_pos h0]
   obtain ⟨k1, k2, k3, k4⟩ := Qcf r (F q n).2 (G q n').2 (fun p hp => hF p (by simp [hp])) (by omega) h
   refine ⟨k1, by omega, by omega, fun p hp => ?_⟩
   rcases List.mem_cons.1 hp with rfl | hp
   ·exact ⟨n, Int.le_refl _, h0'⟩
   obtain ⟨m, hm, he⟩ := k4 p hp
   exact ⟨m, by omega, he⟩
  rename_i h0
  exact absurd (by simpa using h) h0
theorem Qcw : ∀ (f : Nat) (l : QD) (n n' : Int), n' ≤ n → (Xc f l n).1 = 0 → ∀ g, f ≤ g → (Xc g l n').1 = 0 ∧ (Xc g l n').2 + n = (Xc f l n).2 + n' ∧ n ≤ (Xc f l n).2
 | 0, l, n, n', _, h => by simp [Xc] at h
 | f + 1, l, n, n', hn, h => by
  intro g hg
  obtain ⟨g, rfl⟩ : ∃ k, g = k + 1 := ⟨g - 1, by omega⟩
  by_cases h64 : n ≥ 64
  ·rw [Qjl h64] at h; simp at h
  have h64 : n < 64 := by omega
  cases hs : Xo l != 0 with
  | true => rw [Qei h64 hs] at h; simp at h; simp [h] at hs
  | false =>
   cases ho : orE [JC l, Jr l, X7 l, Js l] != 0 with
   | true => rw [QpN h64 hs ho] at h; simp at h; simp [h] at ho
   | false =>
    rw [QbA h64 hs ho] at h ⊢
    rw [QbA (by omega) hs ho]
    obtain ⟨k1, k2, k3, -⟩ := Qcf (F := Xc f) (G := Xc g) l.ps (n + 1) (n' + 1) (fun q _ n n' hn h => Qcw f q n n' hn h g (by omega)) (by omega) h
    exact ⟨k1, by omega, by omega⟩
theorem orE4 {a b c d : Int} (h : orE [a, b, c, d] = 0) : a = 0 ∧ b = 0 ∧ c = 0 ∧ d = 0 := by
 simp only [orE] at h
 split at h
 ·rename_i ha
  split at h
  ·rename_i hb
   split at h
   ·rename_i hc
    split at h
    ·rename_i hd
     exact ⟨by simpa using ha, by simpa using hb, by simpa using hc, by simpa using hd⟩
    rename_i hd; exact absurd (by simpa using h) hd
   rename_i hc; exact absurd (by simpa using h) hc
  rename_i hb; exact absurd (by simpa using h) hb
 rename_i ha; exact absurd (by simpa using h) ha
theorem YK.four {l : QD} (h : YK l) : JC l = 0 ∧ Jr l = 0 ∧ X7 l = 0 ∧ Js l = 0 := by cases h; exact orE4 (by assumption)
theorem Qk6 {l q : QD} (h : Xp l = 0) (hq : q ∈ l.ps) : Xp q = 0 := by
 unfold Xp at h ⊢
 have h' := h
 have hO := X0 h
 have hs : (Xo l != 0) = false := by simp [hO.shape]
 have ho : (orE [JC l, Jr l, X7 l, Js l] != 0) = false := by
  obtain ⟨h1, h2, h3, h4⟩ := hO.four
  rw [h1, h2, h3, h4]; rfl
 rw [show (6 : Nat) = 5 + 1 from rfl, QbA (by decide) hs ho] at h'
 obtain ⟨-, -, -, k4⟩ := Qcf (F := Xc 5) (G := Xc 5) l.ps (0 + 1) (0 + 1) (fun q _ n n' hn h => Qcw 5 q n n' hn h 5 (Nat.le_refl _)) (Int.le_refl _) h'
 obtain ⟨m, hm, he⟩ := k4 q hq
 exact (Qcw 5 q m 0 (by omega) he 6 (by decide)).1
theorem ChL.of (l : QD) (h : Xp l = 0) : ChL l := .mk l h (fun p hp => ChL.of p (Qk6 h hp))
termination_by l
decreasing_by exact QD.sizeOf_ps ‹_›
theorem Qm8 {l : QD} (h : YK l) : l.lo ≤ l.hi := by
 have h := h.four.2.2.1
 unfold X7 J1 at h
 split at h
 ·cases h
 rename_i h1
 simp only [Bool.or_eq_true, decide_eq_true_eq, not_or] at h1
 omega
theorem Qc1 : ∀ {xs : List Qw} {ls : List QD}, xs.length = ls.length → (YU xs ls = true ↔ ∀ (k : Nat) (x : Qw) (q : QD), xs[k]? = some x → ls[k]? = some q → Qt x q = true)
 | [], [], _ => by simp [YU]
 | x :: xs, q :: ls, h => by
  rw [YU, Bool.and_eq_true, Qc1 (by simpa using h)]
  constructor
  ·rintro ⟨h1, h2⟩ k y p hy hp
   cases k with
   | zero => simp at hy hp; subst hy hp; exact h1
   | succ k => exact h2 k y p (by simpa using hy) (by simpa using hp)
  intro h
  exact ⟨h 0 x q rfl rfl, fun k y p hy hp => h (k + 1) y p (by simpa using hy) (by simpa using hp)⟩
 | [], _ :: _, h => by simp at h
 | _ :: _, [], h => by simp at h
section
variable {l : QD} {v : Qw}
theorem QfJ (hk : l.k = 6 ∨ l.k = 7) (h1 : v.N = 0) (h2 : v.nm = []) (h3 : v.es = []) (h4 : v.ps.length = l.ps.length) (h5 : YU v.ps l.ps = true) : Qt v l = true := by
 rw [Qr]
 rcases hk with hk | hk <;> rw [hk] <;> simp [JG, h1, h2, h3, h4, h5]
theorem QoM (hk : l.k = 4) (h1 : v.N = 0) (h2 : v.ps = []) (h3 : v.es = []) (h4 : Qq v.nm = true) (h5 : ∀ s ∈ v.nm, Yq l.nm s = true) : Qt v l = true := by
 rw [Qr, hk]; simp [JG, Jc, h1, h2, h3, h4]; exact h5
theorem Qhj (hk : l.k = 10) (h1 : v.N = 0) (h2 : v.ps = []) (h3 : v.es = []) (h4 : Qq v.nm = true) (h5 : ∀ s ∈ v.nm, Yq l.nm s = true) (h6 : Wk l.rs v.nm = true) : Qt v l = true := by
 rw [Qr, hk]; simp [JG, Jc, h1, h2, h3, h4, h6]; exact h5
theorem Qoq (hk : l.k = 5) {q : QD} {r : List QD} (hp : l.ps = q :: r) (h1 : v.N = 0) (h2 : v.es = []) (h3 : v.nm.length = v.ps.length) (h4 : Qq v.nm = true) (h5 : ∀ s ∈ v.nm, Yq l.nm s = true) (h6 : ∀ p ∈ v.ps, Qt p q = true ∧ p ≠ QU q) : Qt v l = true := by
 rw [Qr, hk, hp]
 simp [JG, Jc, Qah, W5, h1, h2, h3, h4]
 refine ⟨h5, fun p hp => ⟨(h6 p hp).1, ?_⟩⟩
 have := (h6 p hp).2
 rw [Bool.eq_false_iff]
 exact fun e => this ((Yk _ _).1 e)
end
theorem Qr8 (l : QD) : (QU l).N = if l.k == 2 then l.lo else if l.k == 3 then l.hi else 0 := by rw [JB]; rfl
theorem Qlu (l : QD) : (QU l).nm = [] := by rw [JB]; rfl
theorem QiI (l : QD) : (QU l).es = [] := by rw [JB]; rfl
theorem Qir (l : QD) : (QU l).ps = if l.k == 6 || l.k == 7 then l.ps.map QU else [] := by rw [JB]; rfl
theorem Qp3 {l : QD} (h : YK l) : ∀ r ∈ l.rs, r.i ≠ [] := fun r hr e => by
 have h := h.four.2.1
 unfold Jr at h
 split at h
 ·rename_i h1
  simp only [Bool.and_eq_true, List.all_eq_true] at h1
  have := h1.2 r hr
  simp [K5, e] at this
 ·cases h
theorem Qqz (l : QD) (hO : YK l) (ih : ∀ q ∈ l.ps, Qt (QU q) q = true) : Qt (QU l) l = true := by
 have hN := Qr8 l
 have hnm := Qlu l
 have hes := QiI l
 have hps := Qir l
 have hr := Qm8 hO
 rcases kinds hO with hk | hk | hk | hk | hk | hk | hk | hk | hk | hk
 ·rw [Qr, hk]; simp [hk] at hN hps; simp [JG, hN, hnm, hes, hps]
 ·rw [Qr, hk]; simp [hk] at hN hps; simp [JG, hN, hnm, hes, hps, hr]
 ·rw [Qr, hk]; simp [hk] at hN hps; simp [JG, hN, hnm, hes, hps, hr]
 ·simp [hk] at hN hps; exact QoM hk hN hps hes (by rw [hnm]; rfl) (by rw [hnm]; simp)
 ·obtain ⟨q, hq⟩ := WU hO hk
  simp [hk] at hN hps; exact Qoq hk hq hN hes (by rw [hnm, hps]; rfl) (by rw [hnm]; rfl) (by rw [hnm]; simp) (by rw [hps]; simp)
 ·simp [hk] at hN hps
  refine QfJ (.inl hk) hN hnm hes (by rw [hps]; simp) ?_
  rw [hps, Qc1 (by simp)]
  intro k x q hx hq
  rw [List.getElem?_map, hq] at hx
  cases hx
  exact ih q (List.mem_of_getElem? hq)
 ·simp [hk] at hN hps
  refine QfJ (.inr hk) hN hnm hes (by rw [hps]; simp) ?_
  rw [hps, Qc1 (by simp)]
  intro k x q hx hq
  rw [List.getElem?_map, hq] at hx
  cases hx
  exact ih q (List.mem_of_getElem? hq)
 ·rw [Qr, hk]; simp [hk] at hN hps; simp [JG, hN, hnm, hes, hps]
 ·rw [Qr, hk]; simp [hk] at hN hps; simp [JG, hN, hnm, hes, hps]; rfl
 simp [hk] at hN hps
 refine Qhj hk hN hps hes (by rw [hnm]; rfl) (by rw [hnm]; simp) ?_
 rw [hnm]
 unfold Wk
 rw [List.all_eq_true]
 intro r hr
 have := Qp3 hO r hr
 unfold K8
 have h2 : JT r.i [] = false := by
  rw [Bool.eq_false_iff]
  intro e
  cases hi : r.i with
  | nil => exact this hi
  | cons a b => have := YL.1 e a (by rw [hi]; simp); simp at this
 rw [h2]; rfl
theorem Qay (l : QD) (hO : YK l) : Qt (QU l) l = true := Qqz l hO (fun q hq => Qay q (hO.part q hq))
termination_by l
decreasing_by exact QD.sizeOf_ps ‹_›
theorem Qre (l : QD) (hO : YK l) (ih : ∀ q ∈ l.ps, ∀ x, Qt x q = true → Xl q (QU q) x = true) (a : Qw) (ha : Qt a l = true) : Xl l (QU l) a = true := by
 have hN := Qr8 l
 have hnm := Qlu l
 have hes := QiI l
 have hps := Qir l
 have hb := Qay l hO
 rcases kinds hO with hk | hk | hk | hk | hk | hk | hk | hk | hk | hk
 ·simp [hk] at hN
  refine (J3 (.inl hk)).2 ?_
  rw [Qr, hk] at ha
  simp at ha
  rcases ha.2 with h | h <;> omega
 ·simp [hk] at hN
  refine (J3 (.inr hk)).2 ?_
  rw [Qr, hk] at ha
  simp at ha
  omega
 ·simp [hk] at hN
  refine (Wz hk).2 ?_
  rw [Qr, hk] at ha
  simp at ha
  omega
 ·exact (YM (.inl hk)).2 (by rw [hnm]; simp)
 ·obtain ⟨q, hq⟩ := WU hO hk
  obtain ⟨-, -, h3, h4, -, -⟩ := YO ha hk hq
  obtain ⟨-, -, g3, -, -, -⟩ := YO hb hk hq
  exact (W4 hk hq g3 h3 h4).2 (by rw [hnm]; simp)
 ·obtain ⟨-, -, -, h4, h5⟩ := J5 ha (.inl hk)
  obtain ⟨-, -, -, g4, -⟩ := J5 hb (.inl hk)
  simp [hk] at hps
  rw [KG hk, Kh g4 h4]
  intro k q x y e1 e2 e3
  rw [hps, List.getElem?_map, e1] at e2
  cases e2
  exact ih q (List.mem_of_getElem? e1) y (Ja h5 e3 e1)
 ·obtain ⟨p, q, hp⟩ := Kd hO.shape hk
  obtain ⟨y1, y2, eb, v1, v2⟩ := Ye ha hk hp
  simp [hk, hp] at hps
  refine (YI hk hp hps eb).2 ?_
  by_cases e : QU p = y1
  ·exact .inl ⟨e, ih q (by rw [hp]; simp) y2 v2⟩
  exact .inr ⟨e, ih p (by rw [hp]; simp) y1 v1⟩
 ·simp [hk] at hN
  exact (Km hk).2 (.inl hN)
 ·obtain ⟨-, -, -, h⟩ := Kc ha hk
  obtain ⟨-, -, -, g⟩ := Kc hb hk
  exact (W3 hk g h).2 (by rw [hes]; simp)
 exact (YM (.inr hk)).2 (by rw [hnm]; simp)
theorem QcN (l : QD) (hO : YK l) (a : Qw) (ha : Qt a l = true) : Xl l (QU l) a = true := Qre l hO (fun q hq x hx => QcN q (hO.part q hq) x hx) a ha
termination_by l
decreasing_by exact QD.sizeOf_ps ‹_›
theorem QcF : ∀ (n : Nat) (l : QD), SizeOf.sizeOf l < n → YK l → chainB l = true → ∀ a b, Qt a l = true → Qt b l = true → Xl l a b = true ∨ Xl l b a = true
 | 0, _, h, _, _, _, _, _, _ => absurd h (Nat.not_lt_zero _)
 | n + 1, l, hn, hO, hc, a, b, ha, hb => by
  rcases kinds hO with hk | hk | hk | hk | hk | hk | hk | hk | hk | hk
  ·rw [J3 (.inl hk), J3 (.inl hk)]; omega
  ·rw [J3 (.inr hk), J3 (.inr hk)]; omega
  ·rw [Wz hk, Wz hk]; omega
  ·rw [Yh (by rw [hk]; rfl) (by rw [hk]; rfl) (by rw [hk]; rfl) (.inl (by rw [hk]; rfl))] at hc; cases hc
  ·rw [Yh (by rw [hk]; rfl) (by rw [hk]; rfl) (by rw [hk]; rfl) (.inl (by rw [hk]; rfl))] at hc; cases hc
  ·rw [Yh (by rw [hk]; rfl) (by rw [hk]; rfl) (by rw [hk]; rfl) (.inl (by rw [hk]; rfl))] at hc; cases hc
  ·obtain ⟨p, q, hp⟩ := Kd hO.shape hk
   rw [Qck (by rw [hk]; rfl) hp, Bool.and_eq_true] at hc
   obtain ⟨x1, x2, ea, u1, u2⟩ := Ye ha hk hp
   obtain ⟨y1, y2, eb, v1, v2⟩ := Ye hb hk hp
   have mp : p ∈ l.ps := by rw [hp]; simp
   have mq : q ∈ l.ps := by rw [hp]; simp
   rw [YI hk hp ea eb, YI hk hp eb ea]
   by_cases e : x1 = y1
   ·rcases QcF n q (by have := QD.sizeOf_ps mq; omega) (hO.part q mq) hc.2 x2 y2 u2 v2 with h | h
    ·exact .inl (.inl ⟨e, h⟩)
    exact .inr (.inl ⟨e.symm, h⟩)
   rcases QcF n p (by have := QD.sizeOf_ps mp; omega) (hO.part p mp) hc.1 x1 y1 u1 v1 with h | h
   ·exact .inl (.inr ⟨e, h⟩)
   exact .inr (.inr ⟨fun e' => e e'.symm, h⟩)
  ·rw [Yh (by rw [hk]; rfl) (by rw [hk]; rfl) (by rw [hk]; rfl) (.inl (by rw [hk]; rfl))] at hc; cases hc
  ·rw [Yh (by rw [hk]; rfl) (by rw [hk]; rfl) (by rw [hk]; rfl) (.inl (by rw [hk]; rfl))] at hc; cases hc
  rw [Yh (by rw [hk]; rfl) (by rw [hk]; rfl) (by rw [hk]; rfl) (.inl (by rw [hk]; rfl))] at hc; cases hc
theorem Qhk {l : QD} (hO : YK l) (hk : l.k = 7) {p q : QD} (hp : l.ps = [p, q]) {x y : Qw} (hx : Qt x p = true) (hy : Qt y p = true) : Xl p x y = true ∨ Xl p y x = true := by
 have hc := hO.four.2.2.2
 unfold Js J1 at hc
 rw [hk, hp] at hc
 simp at hc
 exact QcF _ p (Nat.lt_succ_self _) (hO.part p (by rw [hp]; simp)) hc x y hx hy
theorem Qgp {l : QD} (hO : YK l) : (∀ s ∈ l.nm, XM s = true) ∧ (l.k ≠ 6 → Qq l.nm = true) ∧ ∀ r ∈ l.rs, Qq r.i = true ∧ (∀ x ∈ r.i, x ∈ l.nm) ∧ r.t ∈ l.nm := by
 have h := hO.four.2.1
 unfold Jr at h
 split at h
 ·rename_i h1
  simp only [Bool.and_eq_true, List.all_eq_true, Bool.or_eq_true, beq_iff_eq] at h1
  obtain ⟨⟨h1, h2⟩, h3⟩ := h1
  refine ⟨fun s hs => ?_, fun hk => h2.resolve_left hk, fun r hr => ?_⟩
  ·obtain ⟨i, hi⟩ := List.mem_iff_getElem?.1 hs
   have h4 := h1 (s, i) (List.mem_of_getElem? (by simp [hi] : l.nm.zipIdx[i]? = some (s, i)))
   unfold W0 at h4
   rw [Bool.and_eq_true] at h4
   exact h4.1
  have h4 := h3 r hr
  simp only [K5, Bool.and_eq_true] at h4
  exact ⟨h4.1.1.2, YL.1 h4.1.2, Yb.1 h4.2⟩
 cases h
theorem Qiz {l : QD} (hO : YK l) : l.nm.length ≤ 32 ∧ l.rs.length ≤ 32 := by
 have h := hO.four.1
 unfold JC J1 at h
 have hm : Y7 l.k ≤ 32 := by
  unfold Y7
  split
  ·decide
  split <;> decide
 have hl : (decide ((l.nm.length : Int) > Y7 l.k) || decide ((l.rs.length : Int) > 32)) = false := by
  cases hb : (decide ((l.nm.length : Int) > Y7 l.k) || decide ((l.rs.length : Int) > 32))
  ·rfl
  rw [hb] at h; cases h
 simp only [Bool.or_eq_false_iff, decide_eq_false_iff_not] at hl
 exact ⟨by omega, by omega⟩
theorem Qhm {α : Type} [BEq α] [LawfulBEq α] : ∀ (a b : List α), a.Nodup → (∀ x ∈ a, x ∈ b) → a.length ≤ b.length
 | [], b, _, _ => Nat.zero_le _
 | x :: r, b, h, hs => by
  have hx := hs x List.mem_cons_self
  obtain ⟨h1, h2⟩ := List.nodup_cons.1 h
  have := Qhm r (b.erase x) h2 (fun y hy => (List.mem_erase_of_ne (fun e => h1 (by rw [← e]; exact hy))).2 (hs y (List.mem_cons_of_mem _ hy)))
  rw [List.length_erase_of_mem hx] at this
  have := List.length_pos_of_mem hx
  simp only [List.length_cons]; omega
theorem QsB {l : QD} (hO : YK l) : ∀ r ∈ l.rs, r.i.length ≤ 1000000 := fun r hr => by
 obtain ⟨h1, h2, -⟩ := (Qgp hO).2.2 r hr
 have := Qhm r.i l.nm (Qbb h1) h2
 have := (Qiz hO).1
 omega
theorem Qij {ls : List QD} {xs ys : List Qw} (h1 : xs.length = ls.length) (h2 : ys.length = ls.length) (h : ∀ (k : Nat) (q : QD) (x y : Qw), ls[k]? = some q → xs[k]? = some x → ys[k]? = some y → Xl q x y = true) : QbZ ls xs ys = true := (Kh h1 h2).2 h
theorem Qr6 {ls : List QD} {xs ys : List Qw} (h1 : xs.length = ls.length) (h2 : ys.length = ls.length) {k : Nat} {z : Qw} {f : QD → Qw → Qw → Qw} {zs : List Qw} (hz : zs[k]? = some z) (hl : zs.length = ls.length) (hf : ∀ q x y, ls[k]? = some q → xs[k]? = some x → ys[k]? = some y → zs[k]? = some (f q x y)) :
  ∃ q x y, ls[k]? = some q ∧ xs[k]? = some x ∧ ys[k]? = some y ∧ z = f q x y := by
 have hk := (List.getElem?_eq_some_iff.1 hz).1
 obtain ⟨q, hq⟩ := Qn (show k < ls.length by omega)
 obtain ⟨x, hx⟩ := Qn (show k < xs.length by omega)
 obtain ⟨y, hy⟩ := Qn (show k < ys.length by omega)
 refine ⟨q, x, y, hq, hx, hy, ?_⟩
 have := hf q x y hq hx hy
 rw [hz] at this
 exact Option.some.inj this
end Go.Proofs.YtnkkokmmeplbgaaGreat
namespace Go.Proofs.YtnkkokmmeplbgaaGreat
open Go.RowKit
theorem fcb {f : FuncId} {args : List AV} {b c : Bool} (h : FC Tryz.prog f args (bl b)) (e : b = c) : FC Tryz.prog f args (bl c) := e ▸ h
structure On (l : QD) (a b c : Qw) : Prop where
 hc : Xp l = 0
 ha : Qt a l = true
 hb : Qt b l = true
 hd : Qt c l = true
theorem On.refl {l : QD} {a b c : Qw} (h : On l a b c) : Qef l a a = true := by rw [QcM h.hc h.ha h.ha]; exact Wc l (X0 h.hc) a h.ha
theorem On.anti {l : QD} {a b c : Qw} (h : On l a b c) (h1 : Qef l a b = true) (h2 : Qef l b a = true) : eqV a b = true := by
 rw [QcM h.hc h.ha h.hb] at h1
 rw [QcM h.hc h.hb h.ha] at h2
 exact (Yk _ _).2 (Qat l (X0 h.hc) a b h.ha h.hb h1 h2)
theorem On.trans {l : QD} {a b c : Qw} (h : On l a b c) (h1 : Qef l a b = true) (h2 : Qef l b c = true) : Qef l a c = true := by
 rw [QcM h.hc h.ha h.hb] at h1
 rw [QcM h.hc h.hb h.hd] at h2
 rw [QcM h.hc h.ha h.hd]
 exact QhA l (X0 h.hc) a b c h.ha h.hb h.hd h1 h2
end Go.Proofs.YtnkkokmmeplbgaaGreat
