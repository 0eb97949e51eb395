/-
  Plain laws: descriptions checked all the way down; bottom elements; chains of elements; meets.
  Plain laws: what a valid description says of its names and rules.
  Plain laws: the meet of two elements is their greatest lower bound.
-/
import Derived.Test.YtaecccdkjmipeaaGreatB14
namespace Go.Proofs.YtaecccdkjmipeaaGreat
open Go.RowKit

/-! ### a checked description's parts are checked -/
theorem visitL_mono {F G : Lat → Int → Int × Int} : ∀ (l : List Lat) (n n' : Int), (∀ q ∈ l, ∀ n n', n' ≤ n → (F q n).1 = 0 → (G q n').1 = 0 ∧ (G q n').2 + n = (F q n).2 + n' ∧ n ≤ (F q n).2) → n' ≤ n → (visitL F l n).1 = 0 →
  (visitL G l n').1 = 0 ∧ (visitL G l n').2 + n = (visitL F l n).2 + n' ∧ n ≤ (visitL F l n).2 ∧ ∀ q ∈ l, ∃ m, n ≤ m ∧ (F q m).1 = 0
 | [], n, n', _, _, _ => by simp [visitL]; omega
 | q :: r, n, n', hF, hn, h => by
  unfold visitL at h ⊢
  split at h
  ·rename_i h0
   have h0' : (F q n).1 = 0 := by simpa using h0
   obtain ⟨g1, g2, g3⟩ := hF q (by simp) n n' hn h0'
   rw [if_pos (by simpa using g1), if_pos h0]
   obtain ⟨k1, k2, k3, k4⟩ := visitL_mono r (F q n).2 (G q n').2 (fun p hp => hF p (by simp [hp])) (by omega) h
   refine ⟨k1, by omega, by omega, fun p hp => ?_⟩
   rcases List.mem_cons.1 hp with rfl | hp
   ·exact ⟨n, Int.le_refl _, h0'⟩
   obtain ⟨m, hm, he⟩ := k4 p hp
   exact ⟨m, by omega, he⟩
  rename_i h0
  exact absurd (by simpa using h) h0
theorem visitF_mono : ∀ (f : Nat) (l : Lat) (n n' : Int), n' ≤ n → (visitF f l n).1 = 0 → ∀ g, f ≤ g → (visitF g l n').1 = 0 ∧ (visitF g l n').2 + n = (visitF f l n).2 + n' ∧ n ≤ (visitF f l n).2
 | 0, l, n, n', _, h => by simp [visitF] at h
 | f + 1, l, n, n', hn, h => by
  intro g hg
  obtain ⟨g, rfl⟩ : ∃ k, g = k + 1 := ⟨g - 1, by omega⟩
  by_cases h64 : n ≥ 64
  ·rw [v_big h64] at h; simp at h
  have h64 : n < 64 := by omega
  cases hs : shapeX l != 0 with
  | true => rw [v_shape h64 hs] at h; simp at h; simp [h] at hs
  | false =>
   cases ho : orE [limitsX l, spellX l, rangesX l, chainsX l] != 0 with
   | true => rw [v_or h64 hs ho] at h; simp at h; simp [h] at ho
   | false =>
    rw [v_list h64 hs ho] at h ⊢
    rw [v_list (by omega) hs ho]
    obtain ⟨k1, k2, k3, -⟩ := visitL_mono (F := visitF f) (G := visitF g) l.ps (n + 1) (n' + 1) (fun q _ n n' hn h => visitF_mono f q n n' hn h g (by omega)) (by omega) h
    exact ⟨k1, by omega, by omega⟩
theorem orE4 {a b c d : Int} (h : orE [a, b, c, d] = 0) : a = 0 ∧ b = 0 ∧ c = 0 ∧ d = 0 := by
 simp only [orE] at h
 split at h
 ·rename_i ha
  split at h
  ·rename_i hb
   split at h
   ·rename_i hc
    split at h
    ·rename_i hd
     exact ⟨by simpa using ha, by simpa using hb, by simpa using hc, by simpa using hd⟩
    rename_i hd; exact absurd (by simpa using h) hd
   rename_i hc; exact absurd (by simpa using h) hc
  rename_i hb; exact absurd (by simpa using h) hb
 rename_i ha; exact absurd (by simpa using h) ha
theorem OkL.four {l : Lat} (h : OkL l) : limitsX l = 0 ∧ spellX l = 0 ∧ rangesX l = 0 ∧ chainsX l = 0 := by cases h; exact orE4 (by assumption)
theorem check_part {l q : Lat} (h : checkX l = 0) (hq : q ∈ l.ps) : checkX q = 0 := by
 unfold checkX at h ⊢
 have h' := h
 have hO := check_ok h
 have hs : (shapeX l != 0) = false := by simp [hO.shape]
 have ho : (orE [limitsX l, spellX l, rangesX l, chainsX l] != 0) = false := by
  obtain ⟨h1, h2, h3, h4⟩ := hO.four
  rw [h1, h2, h3, h4]; rfl
 rw [show (6 : Nat) = 5 + 1 from rfl, v_list (by decide) hs ho] at h'
 obtain ⟨-, -, -, k4⟩ := visitL_mono (F := visitF 5) (G := visitF 5) l.ps (0 + 1) (0 + 1) (fun q _ n n' hn h => visitF_mono 5 q n n' hn h 5 (Nat.le_refl _)) (Int.le_refl _) h'
 obtain ⟨m, hm, he⟩ := k4 q hq
 exact (visitF_mono 5 q m 0 (by omega) he 6 (by decide)).1
theorem ChL.of (l : Lat) (h : checkX l = 0) : ChL l := .mk l h (fun p hp => ChL.of p (check_part h hp))
termination_by l
decreasing_by exact Lat.sizeOf_ps ‹_›
theorem ranges_ok {l : Lat} (h : OkL l) : l.lo ≤ l.hi := by
 have h := h.four.2.2.1
 unfold rangesX whenE at h
 split at h
 ·cases h
 rename_i h1
 simp only [Bool.or_eq_true, decide_eq_true_eq, not_or] at h1
 omega
theorem elemZ_iff : ∀ {xs : List Val} {ls : List Lat}, xs.length = ls.length → (elemZ xs ls = true ↔ ∀ (k : Nat) (x : Val) (q : Lat), xs[k]? = some x → ls[k]? = some q → elemB x q = true)
 | [], [], _ => by simp [elemZ]
 | x :: xs, q :: ls, h => by
  rw [elemZ, Bool.and_eq_true, elemZ_iff (by simpa using h)]
  constructor
  ·rintro ⟨h1, h2⟩ k y p hy hp
   cases k with
   | zero => simp at hy hp; subst hy hp; exact h1
   | succ k => exact h2 k y p (by simpa using hy) (by simpa using hp)
  intro h
  exact ⟨h 0 x q rfl rfl, fun k y p hy hp => h (k + 1) y p (by simpa using hy) (by simpa using hp)⟩
 | [], _ :: _, h => by simp at h
 | _ :: _, [], h => by simp at h
section
variable {l : Lat} {v : Val}
theorem mk_prod (hk : l.k = 6 ∨ l.k = 7) (h1 : v.N = 0) (h2 : v.nm = []) (h3 : v.es = []) (h4 : v.ps.length = l.ps.length) (h5 : elemZ v.ps l.ps = true) : elemB v l = true := by
 rw [elemB_eq]
 rcases hk with hk | hk <;> rw [hk] <;> simp [used_iff, h1, h2, h3, h4, h5]
theorem mk_set (hk : l.k = 4) (h1 : v.N = 0) (h2 : v.ps = []) (h3 : v.es = []) (h4 : sortedB v.nm = true) (h5 : ∀ s ∈ v.nm, okName l.nm s = true) : elemB v l = true := by
 rw [elemB_eq, hk]; simp [used_iff, allowedB, h1, h2, h3, h4]; exact h5
theorem mk_closed (hk : l.k = 10) (h1 : v.N = 0) (h2 : v.ps = []) (h3 : v.es = []) (h4 : sortedB v.nm = true) (h5 : ∀ s ∈ v.nm, okName l.nm s = true) (h6 : closedB l.rs v.nm = true) : elemB v l = true := by
 rw [elemB_eq, hk]; simp [used_iff, allowedB, h1, h2, h3, h4, h6]; exact h5
theorem mk_map (hk : l.k = 5) {q : Lat} {r : List Lat} (hp : l.ps = q :: r) (h1 : v.N = 0) (h2 : v.es = []) (h3 : v.nm.length = v.ps.length) (h4 : sortedB v.nm = true) (h5 : ∀ s ∈ v.nm, okName l.nm s = true) (h6 : ∀ p ∈ v.ps, elemB p q = true ∧ p ≠ bottomV q) : elemB v l = true := by
 rw [elemB_eq, hk, hp]
 simp [used_iff, allowedB, elemA_all, elemP, h1, h2, h3, h4]
 refine ⟨h5, fun p hp => ⟨(h6 p hp).1, ?_⟩⟩
 have := (h6 p hp).2
 rw [Bool.eq_false_iff]
 exact fun e => this ((eqV_iff _ _).1 e)
end
theorem bot_N (l : Lat) : (bottomV l).N = if l.k == 2 then l.lo else if l.k == 3 then l.hi else 0 := by rw [bottomV_eq]; rfl
theorem bot_nm (l : Lat) : (bottomV l).nm = [] := by rw [bottomV_eq]; rfl
theorem bot_es (l : Lat) : (bottomV l).es = [] := by rw [bottomV_eq]; rfl
theorem bot_ps (l : Lat) : (bottomV l).ps = if l.k == 6 || l.k == 7 then l.ps.map bottomV else [] := by rw [bottomV_eq]; rfl
theorem rules_ne {l : Lat} (h : OkL l) : ∀ r ∈ l.rs, r.i ≠ [] := fun r hr e => by
 have h := h.four.2.1
 unfold spellX at h
 split at h
 ·rename_i h1
  simp only [Bool.and_eq_true, List.all_eq_true] at h1
  have := h1.2 r hr
  simp [ruleOk, e] at this
 ·cases h

theorem botel_s (l : Lat) (hO : OkL l) (ih : ∀ q ∈ l.ps, elemB (bottomV q) q = true) : elemB (bottomV l) l = true := by
 have hN := bot_N l
 have hnm := bot_nm l
 have hes := bot_es l
 have hps := bot_ps l
 have hr := ranges_ok hO
 rcases kinds hO with hk | hk | hk | hk | hk | hk | hk | hk | hk | hk
 ·rw [elemB_eq, hk]; simp [hk] at hN hps; simp [used_iff, hN, hnm, hes, hps]
 ·rw [elemB_eq, hk]; simp [hk] at hN hps; simp [used_iff, hN, hnm, hes, hps, hr]
 ·rw [elemB_eq, hk]; simp [hk] at hN hps; simp [used_iff, hN, hnm, hes, hps, hr]
 ·simp [hk] at hN hps; exact mk_set hk hN hps hes (by rw [hnm]; rfl) (by rw [hnm]; simp)
 ·obtain ⟨q, hq⟩ := shape_56 hO hk
  simp [hk] at hN hps; exact mk_map hk hq hN hes (by rw [hnm, hps]; rfl) (by rw [hnm]; rfl) (by rw [hnm]; simp) (by rw [hps]; simp)
 ·simp [hk] at hN hps
  refine mk_prod (.inl hk) hN hnm hes (by rw [hps]; simp) ?_
  rw [hps, elemZ_iff (by simp)]
  intro k x q hx hq
  rw [List.getElem?_map, hq] at hx
  cases hx
  exact ih q (List.mem_of_getElem? hq)
 ·simp [hk] at hN hps
  refine mk_prod (.inr hk) hN hnm hes (by rw [hps]; simp) ?_
  rw [hps, elemZ_iff (by simp)]
  intro k x q hx hq
  rw [List.getElem?_map, hq] at hx
  cases hx
  exact ih q (List.mem_of_getElem? hq)
 ·rw [elemB_eq, hk]; simp [hk] at hN hps; simp [used_iff, hN, hnm, hes, hps]
 ·rw [elemB_eq, hk]; simp [hk] at hN hps; simp [used_iff, hN, hnm, hes, hps]; rfl
 simp [hk] at hN hps
 refine mk_closed hk hN hps hes (by rw [hnm]; rfl) (by rw [hnm]; simp) ?_
 rw [hnm]
 unfold closedB
 rw [List.all_eq_true]
 intro r hr
 have := rules_ne hO r hr
 unfold okRule
 have h2 : subsetB r.i [] = false := by
  rw [Bool.eq_false_iff]
  intro e
  cases hi : r.i with
  | nil => exact this hi
  | cons a b => have := subset_iff.1 e a (by rw [hi]; simp); simp at this
 rw [h2]; rfl
theorem bot_elem (l : Lat) (hO : OkL l) : elemB (bottomV l) l = true := botel_s l hO (fun q hq => bot_elem q (hO.part q hq))
termination_by l
decreasing_by exact Lat.sizeOf_ps ‹_›

theorem botle_s (l : Lat) (hO : OkL l) (ih : ∀ q ∈ l.ps, ∀ x, elemB x q = true → leqB q (bottomV q) x = true) (a : Val) (ha : elemB a l = true) : leqB l (bottomV l) a = true := by
 have hN := bot_N l
 have hnm := bot_nm l
 have hes := bot_es l
 have hps := bot_ps l
 have hb := bot_elem l hO
 rcases kinds hO with hk | hk | hk | hk | hk | hk | hk | hk | hk | hk
 ·simp [hk] at hN
  refine (lq_num (.inl hk)).2 ?_
  rw [elemB_eq, hk] at ha
  simp at ha
  rcases ha.2 with h | h <;> omega
 ·simp [hk] at hN
  refine (lq_num (.inr hk)).2 ?_
  rw [elemB_eq, hk] at ha
  simp at ha
  omega
 ·simp [hk] at hN
  refine (lq_min hk).2 ?_
  rw [elemB_eq, hk] at ha
  simp at ha
  omega
 ·exact (lq_set (.inl hk)).2 (by rw [hnm]; simp)
 ·obtain ⟨q, hq⟩ := shape_56 hO hk
  obtain ⟨-, -, h3, h4, -, -⟩ := el_map ha hk hq
  obtain ⟨-, -, g3, -, -, -⟩ := el_map hb hk hq
  exact (lq_map hk hq g3 h3 h4).2 (by rw [hnm]; simp)
 ·obtain ⟨-, -, -, h4, h5⟩ := el_prod ha (.inl hk)
  obtain ⟨-, -, -, g4, -⟩ := el_prod hb (.inl hk)
  simp [hk] at hps
  rw [lq_prod hk, leqZ_iff g4 h4]
  intro k q x y e1 e2 e3
  rw [hps, List.getElem?_map, e1] at e2
  cases e2
  exact ih q (List.mem_of_getElem? e1) y (elemZ_get h5 e3 e1)
 ·obtain ⟨p, q, hp⟩ := shape_72 hO.shape hk
  obtain ⟨y1, y2, eb, v1, v2⟩ := two_of ha hk hp
  simp [hk, hp] at hps
  refine (lq_lex hk hp hps eb).2 ?_
  by_cases e : bottomV p = y1
  ·exact .inl ⟨e, ih q (by rw [hp]; simp) y2 v2⟩
  exact .inr ⟨e, ih p (by rw [hp]; simp) y1 v1⟩
 ·simp [hk] at hN
  exact (lq_flat hk).2 (.inl hN)
 ·obtain ⟨-, -, -, h⟩ := el_reg ha hk
  obtain ⟨-, -, -, g⟩ := el_reg hb hk
  exact (lq_reg hk g h).2 (by rw [hes]; simp)
 exact (lq_set (.inr hk)).2 (by rw [hnm]; simp)
theorem bot_least (l : Lat) (hO : OkL l) (a : Val) (ha : elemB a l = true) : leqB l (bottomV l) a = true := botle_s l hO (fun q hq x hx => bot_least q (hO.part q hq) x hx) a ha
termination_by l
decreasing_by exact Lat.sizeOf_ps ‹_›

/-- the order of a chain is total -/
theorem chain_total : ∀ (n : Nat) (l : Lat), SizeOf.sizeOf l < n → OkL l → chainB l = true → ∀ a b, elemB a l = true → elemB b l = true → leqB l a b = true ∨ leqB l b a = true
 | 0, _, h, _, _, _, _, _, _ => absurd h (Nat.not_lt_zero _)
 | n + 1, l, hn, hO, hc, a, b, ha, hb => by
  rcases kinds hO with hk | hk | hk | hk | hk | hk | hk | hk | hk | hk
  ·rw [lq_num (.inl hk), lq_num (.inl hk)]; omega
  ·rw [lq_num (.inr hk), lq_num (.inr hk)]; omega
  ·rw [lq_min hk, lq_min hk]; omega
  ·rw [chainB_no (by rw [hk]; rfl) (by rw [hk]; rfl) (by rw [hk]; rfl) (.inl (by rw [hk]; rfl))] at hc; cases hc
  ·rw [chainB_no (by rw [hk]; rfl) (by rw [hk]; rfl) (by rw [hk]; rfl) (.inl (by rw [hk]; rfl))] at hc; cases hc
  ·rw [chainB_no (by rw [hk]; rfl) (by rw [hk]; rfl) (by rw [hk]; rfl) (.inl (by rw [hk]; rfl))] at hc; cases hc
  ·obtain ⟨p, q, hp⟩ := shape_72 hO.shape hk
   rw [chainB_7 (by rw [hk]; rfl) hp, Bool.and_eq_true] at hc
   obtain ⟨x1, x2, ea, u1, u2⟩ := two_of ha hk hp
   obtain ⟨y1, y2, eb, v1, v2⟩ := two_of hb hk hp
   have mp : p ∈ l.ps := by rw [hp]; simp
   have mq : q ∈ l.ps := by rw [hp]; simp
   rw [lq_lex hk hp ea eb, lq_lex hk hp eb ea]
   by_cases e : x1 = y1
   ·rcases chain_total n q (by have := Lat.sizeOf_ps mq; omega) (hO.part q mq) hc.2 x2 y2 u2 v2 with h | h
    ·exact .inl (.inl ⟨e, h⟩)
    exact .inr (.inl ⟨e.symm, h⟩)
   rcases chain_total n p (by have := Lat.sizeOf_ps mp; omega) (hO.part p mp) hc.1 x1 y1 u1 v1 with h | h
   ·exact .inl (.inr ⟨e, h⟩)
   exact .inr (.inr ⟨fun e' => e e'.symm, h⟩)
  ·rw [chainB_no (by rw [hk]; rfl) (by rw [hk]; rfl) (by rw [hk]; rfl) (.inl (by rw [hk]; rfl))] at hc; cases hc
  ·rw [chainB_no (by rw [hk]; rfl) (by rw [hk]; rfl) (by rw [hk]; rfl) (.inl (by rw [hk]; rfl))] at hc; cases hc
  rw [chainB_no (by rw [hk]; rfl) (by rw [hk]; rfl) (by rw [hk]; rfl) (.inl (by rw [hk]; rfl))] at hc; cases hc
theorem lex_total {l : Lat} (hO : OkL l) (hk : l.k = 7) {p q : Lat} (hp : l.ps = [p, q]) {x y : Val} (hx : elemB x p = true) (hy : elemB y p = true) : leqB p x y = true ∨ leqB p y x = true := by
 have hc := hO.four.2.2.2
 unfold chainsX whenE at hc
 rw [hk, hp] at hc
 simp at hc
 exact chain_total _ p (Nat.lt_succ_self _) (hO.part p (by rw [hp]; simp)) hc x y hx hy
end Go.Proofs.YtaecccdkjmipeaaGreat

namespace Go.Proofs.YtaecccdkjmipeaaGreat
open Go.RowKit
theorem spell_ok {l : Lat} (hO : OkL l) : (∀ s ∈ l.nm, validB s = true) ∧ (l.k ≠ 6 → sortedB l.nm = true) ∧ ∀ r ∈ l.rs, sortedB r.i = true ∧ (∀ x ∈ r.i, x ∈ l.nm) ∧ r.t ∈ l.nm := by
 have h := hO.four.2.1
 unfold spellX at h
 split at h
 ·rename_i h1
  simp only [Bool.and_eq_true, List.all_eq_true, Bool.or_eq_true, beq_iff_eq] at h1
  obtain ⟨⟨h1, h2⟩, h3⟩ := h1
  refine ⟨fun s hs => ?_, fun hk => h2.resolve_left hk, fun r hr => ?_⟩
  ·obtain ⟨i, hi⟩ := List.mem_iff_getElem?.1 hs
   have h4 := h1 (s, i) (List.mem_of_getElem? (by simp [hi] : l.nm.zipIdx[i]? = some (s, i)))
   unfold nameOk at h4
   rw [Bool.and_eq_true] at h4
   exact h4.1
  have h4 := h3 r hr
  simp only [ruleOk, Bool.and_eq_true] at h4
  exact ⟨h4.1.1.2, subset_iff.1 h4.1.2, has_iff.1 h4.2⟩
 cases h
end Go.Proofs.YtaecccdkjmipeaaGreat

namespace Go.Proofs.YtaecccdkjmipeaaGreat
open Go.RowKit

theorem leqZ_at {ls : List Lat} {xs ys : List Val} (h1 : xs.length = ls.length) (h2 : ys.length = ls.length) (h : ∀ (k : Nat) (q : Lat) (x y : Val), ls[k]? = some q → xs[k]? = some x → ys[k]? = some y → leqB q x y = true) : leqZ ls xs ys = true := (leqZ_iff h1 h2).2 h
theorem get_3 {ls : List Lat} {xs ys : List Val} (h1 : xs.length = ls.length) (h2 : ys.length = ls.length) {k : Nat} {z : Val} {f : Lat → Val → Val → Val} {zs : List Val} (hz : zs[k]? = some z) (hl : zs.length = ls.length) (hf : ∀ q x y, ls[k]? = some q → xs[k]? = some x → ys[k]? = some y → zs[k]? = some (f q x y)) :
  ∃ q x y, ls[k]? = some q ∧ xs[k]? = some x ∧ ys[k]? = some y ∧ z = f q x y := by
 have hk := (List.getElem?_eq_some_iff.1 hz).1
 obtain ⟨q, hq⟩ := get_lt (show k < ls.length by omega)
 obtain ⟨x, hx⟩ := get_lt (show k < xs.length by omega)
 obtain ⟨y, hy⟩ := get_lt (show k < ys.length by omega)
 refine ⟨q, x, y, hq, hx, hy, ?_⟩
 have := hf q x y hq hx hy
 rw [hz] at this
 exact Option.some.inj this

end Go.Proofs.YtaecccdkjmipeaaGreat
