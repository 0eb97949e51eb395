/-
  Plain laws: the elements of a finite description, each once.
-/
import Derived.Test.YtaecccdkjmipeaaGreatF18
import Derived.Test.YtaecccdkjmipeaaGreatB18
namespace Go.Proofs.YtaecccdkjmipeaaGreat
open Go.RowKit
def Qcc (L : List Qn) : Option (List Qn) := if L.length ≤ 256 then some L else none
def QcJ : List (Option (List Qn)) → Option (List (List Qn))
 | [] => some []
 | none :: _ => none
 | some L :: r => match QcJ r with | some Ls => some (L :: Ls) | none => none
def fmV (a : Qs) (La : List Qn) : List Qn := La.filter fun x => !eqV x (QL a)
def Qgn (k lo hi : Int) (nm : List Nm) (rs : List Ru) (ps : List Qs) (As : List (Option (List Qn))) : Option (List Qn) :=
 if k = 1 then some (Y2 0 2)
 else if k = 2 ∨ k = 3 then (if hi - lo ≥ 256 then none else some (Y2 lo (hi - lo + 1).toNat))
 else if k = 4 then (if nm.length ≤ 8 then some (X6 (fun _ => true) nm (2 ^ nm.length)) else none)
 else if k = 10 then Qcc (X6 (Xf rs) nm (2 ^ nm.length))
 else if k = 8 then some (QcE nm)
 else if k = 5 then (match ps, As with | a :: _, some La :: _ => Qcc (Q8 nm (fmV a La)) | _, _ => none)
 else match QcJ As with | some Ls => Qcc (Xp Ls) | none => none
mutual
def Yz : Qs → Option (List Qn)
 | .mk k lo hi nm ps rs => Qgn k lo hi nm rs ps (Qox ps)
def Qox : List Qs → List (Option (List Qn))
 | [] => []
 | p :: r => Yz p :: Qox r
end
theorem QiP : ∀ l : List Qs, Qox l = l.map Yz
 | [] => rfl
 | p :: r => by rw [Qox, QiP r]; rfl
theorem Qac (l : Qs) : Yz l = Qgn l.k l.lo l.hi l.nm l.rs l.ps (l.ps.map Yz) := by
 cases l with
 | mk k lo hi nm ps rs => rw [Yz, QiP]; rfl
theorem Kw {L L' : List Qn} (h : Qcc L = some L') : L = L' ∧ L.length ≤ 256 := by
 unfold Qcc at h
 split at h
 ·cases h; exact ⟨rfl, ‹_›⟩
 cases h
theorem QdA : ∀ {As : List (Option (List Qn))} {Ls : List (List Qn)}, QcJ As = some Ls → As = Ls.map some
 | [], Ls, h => by cases h; rfl
 | none :: _, Ls, h => by cases h
 | some L :: r, Ls, h => by
  unfold QcJ at h
  cases hr : QcJ r with
  | none => rw [hr] at h; cases h
  | some Ms => rw [hr] at h; cases h; rw [QdA hr]; rfl
def QcC (L : List Qn) (p : Qn → Prop) : Prop := L.Nodup ∧ ∀ v, v ∈ L ↔ p v
theorem QcC.iff {L : List Qn} {p q : Qn → Prop} (h : QcC L p) (hq : ∀ v, p v ↔ q v) : QcC L q := ⟨h.1, fun v => (h.2 v).trans (hq v)⟩
theorem W9 {α β : Type} {f : α → β} {l : List α} (h : l.Nodup) (hi : ∀ x ∈ l, ∀ y ∈ l, f x = f y → x = y) : (l.map f).Nodup :=
 List.pairwise_map.2 (h.imp_of_mem fun hx hy hne e => hne (hi _ hx _ hy e))
theorem Qej (lo : Int) (n : Nat) : QcC (Y2 lo n) fun v => lo ≤ v.N ∧ v.N < lo + n ∧ v.nm = [] ∧ v.ps = [] ∧ v.es = [] := by
 refine ⟨W9 List.nodup_range fun x _ y _ e => ?_, fun v => ?_⟩
 ·have := congrArg Qn.N e
  have : lo + (x : Int) = lo + (y : Int) := this
  omega
 ·unfold Y2
  rw [List.mem_map]
  constructor
  ·rintro ⟨i, hi, rfl⟩
   have := List.mem_range.1 hi
   exact ⟨by show lo ≤ lo + (i : Int); omega, by show lo + (i : Int) < lo + n; omega, rfl, rfl, rfl⟩
  ·rintro ⟨h1, h2, h3, h4, h5⟩
   exact ⟨(v.N - lo).toNat, List.mem_range.2 (by omega), Qn.ext_ (by show lo + ((v.N - lo).toNat : Int) = v.N; omega) h3.symm h4.symm h5.symm⟩
theorem QeR : ∀ (l : List Nm) (b : Nat), (YB l b).Sublist l
 | [], _ => .slnil
 | s :: r, b => by
  unfold YB
  split
  ·exact (QeR r _).cons_cons s
  exact (QeR r _).cons s
theorem Qt6 {l s : List Nm} (h : s.Sublist l) : ∃ b, b < 2 ^ l.length ∧ YB l b = s := by
 induction h with
 | slnil => exact ⟨0, by simp, rfl⟩
 | @cons s l a h ih =>
  obtain ⟨b, hb, e⟩ := ih
  refine ⟨2 * b, by rw [List.length_cons, Nat.pow_succ]; omega, ?_⟩
  unfold YB
  rw [if_neg (by omega), Nat.mul_div_cancel_left b (by decide), e]
 | @cons_cons s l a h ih =>
  obtain ⟨b, hb, e⟩ := ih
  refine ⟨2 * b + 1, by rw [List.length_cons, Nat.pow_succ]; omega, ?_⟩
  unfold YB
  rw [if_pos (by omega), show (2 * b + 1) / 2 = b by omega, e]
theorem QkG : ∀ (l : List Nm), l.Nodup → ∀ b c, b < 2 ^ l.length → c < 2 ^ l.length → YB l b = YB l c → b = c
 | [], _, b, c, hb, hc, _ => by simp at hb hc; omega
 | s :: r, hn, b, c, hb, hc, h => by
  rw [List.length_cons, Nat.pow_succ] at hb hc
  rw [List.nodup_cons] at hn
  have no : ∀ x, s ∉ YB r x := fun x hx => hn.1 ((QeR r x).subset hx)
  have ih := QkG r hn.2 (b / 2) (c / 2) (by omega) (by omega)
  unfold YB at h
  by_cases h1 : b % 2 = 1 <;> by_cases h2 : c % 2 = 1
  ·rw [if_pos h1, if_pos h2] at h
   have := ih (by simpa using h)
   omega
  ·rw [if_pos h1, if_neg h2] at h
   exact absurd (h ▸ List.mem_cons_self) (no (c / 2))
  ·rw [if_neg h1, if_pos h2] at h
   exact absurd (h ▸ List.mem_cons_self) (no (b / 2))
  rw [if_neg h1, if_neg h2] at h
  have := ih h
  omega
theorem Qeh (acc : List Nm → Bool) {l : List Nm} (hn : l.Nodup) : QcC (X6 acc l (2 ^ l.length)) fun v => v.N = 0 ∧ v.ps = [] ∧ v.es = [] ∧ v.nm.Sublist l ∧ acc v.nm = true := by
 unfold X6
 refine ⟨W9 ((W9 List.nodup_range fun x hx y hy e => QkG l hn x y (List.mem_range.1 hx) (List.mem_range.1 hy) e).filter _) fun x _ y _ e => ?_, fun v => ?_⟩
 ·unfold Qmb at e; cases e; rfl
 rw [List.mem_map]
 constructor
 ·rintro ⟨s, hs, rfl⟩
  rw [List.mem_filter, List.mem_map] at hs
  obtain ⟨⟨b, hb, rfl⟩, ha⟩ := hs
  exact ⟨rfl, rfl, rfl, QeR l b, ha⟩
 rintro ⟨h1, h2, h3, h4, h5⟩
 obtain ⟨b, hb, e⟩ := Qt6 h4
 exact ⟨v.nm, List.mem_filter.2 ⟨List.mem_map.2 ⟨b, List.mem_range.2 hb, e⟩, h5⟩, Qn.ext_ h1.symm rfl h2.symm h3.symm⟩
theorem Wg {s l : List Nm} (hs : s.Sublist l) (hl : Qo l = true) : Qo s = true := Kk ((Jm hl).sublist hs)
theorem K3 {s l : List Nm} (h1 : Qo s = true) (h2 : Qo l = true) (h : ∀ x ∈ s, x ∈ l) : s.Sublist l := by
 have e : s = l.filter (fun x => Jn s x) := W8 h1 (Wg List.filter_sublist h2) fun x => by
  rw [List.mem_filter, Jb]
  exact ⟨fun hx => ⟨h x hx, hx⟩, fun hx => hx.2⟩
 rw [e]; exact List.filter_sublist
theorem Wp {l : Qs} (h : Kv l) : (∀ s ∈ l.nm, XV s = true) ∧ (l.k = 6 ∨ Qo l.nm = true) := by
 have h := h.four.2.1
 unfold Jw at h
 split at h
 ·rename_i h1
  simp only [Bool.and_eq_true, List.all_eq_true, Bool.or_eq_true, beq_iff_eq] at h1
  refine ⟨fun s hs => ?_, h1.1.2⟩
  obtain ⟨k, hk⟩ := List.getElem?_of_mem hs
  have := h1.1.1 (s, k) (List.mem_of_getElem? (Qem hk))
  simp [Qab] at this
  exact this.1
 cases h
theorem Qct {only : List Nm} {s : Nm} (h0 : only ≠ []) (hv : ∀ s ∈ only, XV s = true) : Y7 only s = true ↔ s ∈ only := by
 unfold Y7
 have h1 : ((only.length : Int) > 0) := by
  have := List.length_pos_iff.2 h0
  omega
 simp only [h1, decide_true, Bool.true_and, Bool.and_eq_true, Bool.not_eq_true', Bool.not_eq_false']
 rw [Jb]
 exact ⟨fun h => h.2, fun h => ⟨hv s h, h⟩⟩
theorem KV {only l : List Nm} (h0 : only ≠ []) (hv : ∀ s ∈ only, XV s = true) (ho : Qo only = true) : (Qo l = true ∧ ∀ s ∈ l, Y7 only s = true) ↔ l.Sublist only := by
 constructor
 ·rintro ⟨h1, h2⟩
  exact K3 h1 ho fun x hx => (Qct h0 hv).1 (h2 x hx)
 ·intro h
  exact ⟨Wg h ho, fun s hs => (Qct h0 hv).2 (h.subset hs)⟩
theorem Qrp {l r : List Nm} {a : Nm} (h : l.Sublist (r ++ [a])) : l.Sublist r ∨ ∃ m, l = m ++ [a] ∧ m.Sublist r := by
 obtain ⟨l1, l2, rfl, h1, h2⟩ := List.sublist_append_iff.1 h
 cases h2 with
 | cons _ h => rw [List.sublist_nil.1 h, List.append_nil]; exact .inl h1
 | cons_cons _ h => rw [List.sublist_nil.1 h]; exact .inr ⟨l1, rfl, h1⟩
theorem Qjb {L : List Qn} (hL : L.Nodup) {names : List Nm} (hn : names.Nodup) : ∀ i, i ≤ names.length → QcC (Q8 (names.take i) L) fun v => v.N = 0 ∧ v.es = [] ∧ v.nm.length = v.ps.length ∧ v.nm.Sublist (names.take i) ∧ ∀ p ∈ v.ps, p ∈ L
 | 0, _ => by
  refine ⟨by rw [List.take_zero]; simp [Q8], fun v => ?_⟩
  rw [List.take_zero]
  show v ∈ [Qn.zero] ↔ _
  rw [List.mem_singleton]
  constructor
  ·rintro rfl; exact ⟨rfl, rfl, rfl, .slnil, by intro p hp; cases hp⟩
  rintro ⟨h1, h2, h3, h4, -⟩
  have h5 := List.sublist_nil.1 h4
  rw [h5] at h3
  exact Qn.ext_ h1 h5 (List.length_eq_zero_iff.1 h3.symm) h2
 | i + 1, hi => by
  obtain ⟨key, hk⟩ := Qk (show i < names.length by omega)
  obtain ⟨ih1, ih2⟩ := Qjb hL hn i (by omega)
  rw [Wk hk]
  have ht : names.take (i + 1) = names.take i ++ [key] := by rw [List.take_add_one, hk]; rfl
  have hnk : key ∉ names.take i := by
   have := hn.sublist (List.take_sublist (i + 1) names)
   rw [ht, List.nodup_append] at this
   intro h
   exact this.2.2 key h key (by simp) rfl
  have no : ∀ {u}, u ∈ Q8 (names.take i) L → key ∉ u.nm := fun hu h => hnk (((ih2 _).1 hu).2.2.2.1.subset h)
  generalize Q8 (names.take i) L = out at ih1 ih2 no ⊢
  refine ⟨?_, fun v => ?_⟩
  ·refine List.pairwise_flatMap.2 ⟨fun u hu => ?_, ih1.imp_of_mem fun {u w} hu hw hne x hx y hy e => ?_⟩
   ·refine List.nodup_cons.2 ⟨fun h => ?_, W9 hL fun x _ y _ e => ?_⟩
    ·obtain ⟨q, -, e⟩ := List.mem_map.1 h
     exact no hu (by rw [← e]; exact List.mem_append_right _ (List.mem_singleton_self _))
    have := congrArg Qn.ps e
    exact List.singleton_inj.1 (List.append_cancel_left this)
   subst e
   rcases List.mem_cons.1 hx with rfl | hx <;> rcases List.mem_cons.1 hy with e | hy
   ·exact hne e
   ·obtain ⟨q, -, e⟩ := List.mem_map.1 hy
    exact no hu (by rw [← e]; exact List.mem_append_right _ (List.mem_singleton_self _))
   ·obtain ⟨q, -, e2⟩ := List.mem_map.1 hx
    exact no hw (by rw [← e, ← e2]; exact List.mem_append_right _ (List.mem_singleton_self _))
   obtain ⟨q, -, e1⟩ := List.mem_map.1 hx
   obtain ⟨q', -, e2⟩ := List.mem_map.1 hy
   have e := e1.trans e2.symm
   have n1 : u.nm = w.nm := List.append_inj_left' (congrArg Qn.nm e) rfl
   have n2 : u.ps = w.ps := List.append_inj_left' (congrArg Qn.ps e) rfl
   obtain ⟨a1, a2, -⟩ := (ih2 u).1 hu
   obtain ⟨b1, b2, -⟩ := (ih2 w).1 hw
   exact hne (Qn.ext_ (a1.trans b1.symm) n1 n2 (a2.trans b2.symm))
  unfold Qey
  rw [List.mem_flatMap, ht]
  constructor
  ·rintro ⟨u, hu, hv⟩
   obtain ⟨h1, h2, h3, h4, h5⟩ := (ih2 u).1 hu
   rcases List.mem_cons.1 hv with rfl | hv
   ·exact ⟨h1, h2, h3, h4.trans (List.sublist_append_left _ _), h5⟩
   obtain ⟨q, hq, rfl⟩ := List.mem_map.1 hv
   refine ⟨rfl, rfl, by show (u.nm ++ [key]).length = (u.ps ++ [q]).length; simp [h3], h4.append (List.Sublist.refl _), fun p hp => ?_⟩
   rcases List.mem_append.1 (show p ∈ u.ps ++ [q] from hp) with hp | hp
   ·exact h5 p hp
   rw [List.mem_singleton.1 hp]; exact hq
  rintro ⟨h1, h2, h3, h4, h5⟩
  rcases Qrp h4 with h4 | ⟨m, hm, h4⟩
  ·exact ⟨v, (ih2 v).2 ⟨h1, h2, h3, h4, h5⟩, List.mem_cons_self⟩
  rcases List.eq_nil_or_concat v.ps with hp | ⟨ps', q, hp⟩
  ·rw [hm, hp] at h3; simp at h3
  rw [List.concat_eq_append] at hp
  have hlen : m.length = ps'.length := by rw [hm, hp] at h3; simpa using h3
  refine ⟨.mk 0 m ps' [], (ih2 _).2 ⟨rfl, rfl, hlen, h4, fun p hp' => h5 p (by rw [hp]; exact List.mem_append_left _ hp')⟩, List.mem_cons_of_mem _ (List.mem_map.2 ⟨q, h5 q (by rw [hp]; simp), ?_⟩)⟩
  exact Qn.ext_ h1.symm hm.symm hp.symm h2.symm
theorem QmG {L : List Qn} (hL : L.Nodup) {names : List Nm} (hn : names.Nodup) : QcC (Q8 names L) fun v => v.N = 0 ∧ v.es = [] ∧ v.nm.length = v.ps.length ∧ v.nm.Sublist names ∧ ∀ p ∈ v.ps, p ∈ L := by
 have := Qjb hL hn names.length (Nat.le_refl _)
 rwa [List.take_length] at this
theorem Qg1 {Ls : List (List Qn)} (hL : ∀ L ∈ Ls, L.Nodup) : ∀ i, i ≤ Ls.length → QcC (Xp (Ls.take i)) fun v => v.N = 0 ∧ v.nm = [] ∧ v.es = [] ∧ v.ps.length = i ∧ ∀ (k : Nat) (x : Qn) (L : List Qn), v.ps[k]? = some x → Ls[k]? = some L → x ∈ L
 | 0, _ => by
  refine ⟨by rw [List.take_zero]; simp [Xp], fun v => ?_⟩
  rw [List.take_zero]
  show v ∈ [Qn.zero] ↔ _
  rw [List.mem_singleton]
  constructor
  ·rintro rfl; exact ⟨rfl, rfl, rfl, rfl, by intro k x L h; cases h⟩
  rintro ⟨h1, h2, h3, h4, -⟩
  exact Qn.ext_ h1 h2 (List.length_eq_zero_iff.1 h4) h3
 | i + 1, hi => by
  obtain ⟨M, hM⟩ := Qk (show i < Ls.length by omega)
  obtain ⟨ih1, ih2⟩ := Qg1 hL i (by omega)
  rw [Kg hM]
  generalize Xp (Ls.take i) = out at ih1 ih2 ⊢
  refine ⟨?_, fun v => ?_⟩
  ·refine List.pairwise_flatMap.2 ⟨fun u hu => W9 (hL M (List.mem_of_getElem? hM)) fun x _ y _ e => ?_, ih1.imp_of_mem fun {u w} hu hw hne x hx y hy e => ?_⟩
   ·have := congrArg Qn.ps e
    exact List.singleton_inj.1 (List.append_cancel_left this)
   subst e
   obtain ⟨q, -, e1⟩ := List.mem_map.1 hx
   obtain ⟨q', -, e2⟩ := List.mem_map.1 hy
   have n2 : u.ps = w.ps := List.append_inj_left' (congrArg Qn.ps (e1.trans e2.symm)) rfl
   obtain ⟨a1, a2, a3, -⟩ := (ih2 u).1 hu
   obtain ⟨b1, b2, b3, -⟩ := (ih2 w).1 hw
   exact hne (Qn.ext_ (a1.trans b1.symm) (a2.trans b2.symm) n2 (a3.trans b3.symm))
  unfold QfP
  rw [List.mem_flatMap]
  constructor
  ·rintro ⟨u, hu, hv⟩
   obtain ⟨h1, h2, h3, h4, h5⟩ := (ih2 u).1 hu
   obtain ⟨q, hq, rfl⟩ := List.mem_map.1 hv
   refine ⟨rfl, rfl, rfl, by show (u.ps ++ [q]).length = i + 1; simp [h4], fun k x L hx hl => ?_⟩
   have hx : (u.ps ++ [q])[k]? = some x := hx
   rcases Nat.lt_or_ge k u.ps.length with hk | hk
   ·rw [List.getElem?_append_left hk] at hx
    exact h5 k x L hx hl
   rw [List.getElem?_append_right hk] at hx
   have hk0 : k - u.ps.length = 0 := by
    rcases Nat.eq_zero_or_pos (k - u.ps.length) with h | h
    ·exact h
    rw [List.getElem?_eq_none (by simp; omega)] at hx; cases hx
   rw [hk0] at hx
   cases hx
   rw [show k = i by omega, hM] at hl
   cases hl
   exact hq
  rintro ⟨h1, h2, h3, h4, h5⟩
  rcases List.eq_nil_or_concat v.ps with hp | ⟨ps', q, hp⟩
  ·rw [hp] at h4; cases h4
  rw [List.concat_eq_append] at hp
  have hl : ps'.length = i := by rw [hp] at h4; simpa using h4
  refine ⟨.mk 0 [] ps' [], (ih2 _).2 ⟨rfl, rfl, rfl, hl, fun k x L hx hl' => h5 k x L (by
   have hx : ps'[k]? = some x := hx
   rw [hp, List.getElem?_append_left (List.getElem?_eq_some_iff.1 hx).1]; exact hx) hl'⟩, List.mem_map.2 ⟨q, h5 i q M (by rw [hp, ← hl]; simp) hM, Qn.ext_ h1.symm h2.symm hp.symm h3.symm⟩⟩
theorem Qlh {Ls : List (List Qn)} (hL : ∀ L ∈ Ls, L.Nodup) : QcC (Xp Ls) fun v => v.N = 0 ∧ v.nm = [] ∧ v.es = [] ∧ v.ps.length = Ls.length ∧ ∀ (k : Nat) (x : Qn) (L : List Qn), v.ps[k]? = some x → Ls[k]? = some L → x ∈ L := by
 have := Qg1 hL Ls.length (Nat.le_refl _)
 rwa [List.take_length] at this
theorem Qd8 {l : Qs} (h : J3 l = true) (hk : l.k = 4 ∨ l.k = 8 ∨ l.k = 5) : l.nm ≠ [] := fun e => by
 rw [Jv, e] at h
 rcases hk with hk | hk | hk <;> rw [hk] at h <;> simp at h
theorem Jy {l : Qs} (h : J3 l = true) : ∀ q ∈ l.ps, J3 q = true := by
 rw [Jv, Bool.and_eq_true, List.all_eq_true] at h
 exact h.2
theorem Qje {l : Qs} (hO : Kv l) (hk : l.k = 10) : l.nm ≠ [] := fun e => by
 have h := hO.shape
 unfold Xq at h
 rw [if_pos (by rw [hk]; decide)] at h
 have : Yg l = true := by unfold Yg; rw [hk, e]; rfl
 rw [this, Bool.or_true] at h
 cases h
theorem QbM (l : Qs) (hO : Kv l) (hF : J3 l = true) (L : List Qn) (h : Yz l = some L) : QcC L fun v => Qr v l = true := by
 rw [Qac] at h
 unfold Qgn at h
 have hr := Qfc hO
 obtain ⟨hsv, hso⟩ := Wp hO
 have nu : ∀ {v : Qn} {n li pa en : Bool}, Jx v n li pa en = true ↔ (n = true ∨ v.N = 0) ∧ (li = true ∨ v.nm = []) ∧ (pa = true ∨ v.ps = []) ∧ (en = true ∨ v.es = []) := JO
 have prodCase : (l.k = 6 ∨ l.k = 7) → QcC L fun v => Qr v l = true := by
  intro hk67
  rw [if_neg (by omega), if_neg (by omega), if_neg (by omega), if_neg (by omega), if_neg (by omega), if_neg (by omega)] at h
  cases ho : QcJ (l.ps.map Yz) with
  | none => rw [ho] at h; cases h
  | some Ls =>
   rw [ho] at h
   obtain ⟨rfl, -⟩ := Kw h
   have hLs := QdA ho
   have hlen : Ls.length = l.ps.length := by have := congrArg List.length hLs; simpa using this.symm
   have hat : ∀ {k : Nat} {q : Qs} {M : List Qn}, l.ps[k]? = some q → Ls[k]? = some M → Yz q = some M := fun {k q M} e1 e2 => by
    have := congrArg (fun z => z[k]?) hLs
    simp only [List.getElem?_map, e1, e2, Option.map_some] at this
    exact Option.some.inj this
   have hin : ∀ {k : Nat} {q : Qs} {M : List Qn}, l.ps[k]? = some q → Ls[k]? = some M → QcC M fun v => Qr v q = true := fun {k q M} e1 e2 => QbM q (hO.part q (List.mem_of_getElem? e1)) (Jy hF q (List.mem_of_getElem? e1)) M (hat e1 e2)
   refine (Qlh fun M hM => ?_).iff fun v => ?_
   ·obtain ⟨k, hkM⟩ := List.getElem?_of_mem hM
    obtain ⟨q, hq⟩ := Qk (show k < l.ps.length by rw [← hlen]; exact (List.getElem?_eq_some_iff.1 hkM).1)
    exact (hin hq hkM).1
   constructor
   ·rintro ⟨h1, h2, h3, h4, h5⟩
    refine Qca hk67 h1 h2 h3 (h4.trans hlen) ((Wt (h4.trans hlen)).2 fun k x q hx hq => ?_)
    obtain ⟨M, hM⟩ := Qk (show k < Ls.length by rw [hlen]; exact (List.getElem?_eq_some_iff.1 hq).1)
    exact ((hin hq hM).2 x).1 (h5 k x M hx hM)
   intro hv
   obtain ⟨h1, h2, h3, h4, h5⟩ := JJ hv hk67
   refine ⟨h1, h2, h3, h4.trans hlen.symm, fun k x M hx hM => ?_⟩
   obtain ⟨q, hq⟩ := Qk (show k < l.ps.length by rw [← hlen]; exact (List.getElem?_eq_some_iff.1 hM).1)
   exact ((hin hq hM).2 x).2 ((Wt h4).1 h5 k x q hx hq)
 rcases Qbi hO with hk | hk | hk | hk | hk | hk | hk | hk | hk | hk
 ·rw [if_pos hk] at h; cases h
  refine (Qej 0 2).iff fun v => ?_
  rw [QI, hk]
  simp [nu]
  constructor
  ·rintro ⟨h1, h2, h3⟩; exact ⟨h3, by omega⟩
  rintro ⟨h3, h1⟩; exact ⟨by omega, by omega, h3⟩
 ·rw [if_neg (by omega), if_pos (.inl hk)] at h
  split at h
  ·cases h
  cases h
  refine (Qej l.lo _).iff fun v => ?_
  rw [QI, hk]
  simp [nu]
  constructor
  ·rintro ⟨h1, h2, h3⟩; exact ⟨⟨h3, h1⟩, by omega⟩
  rintro ⟨⟨h3, h1⟩, h2⟩; exact ⟨h1, by omega, h3⟩
 ·rw [if_neg (by omega), if_pos (.inr hk)] at h
  split at h
  ·cases h
  cases h
  refine (Qej l.lo _).iff fun v => ?_
  rw [QI, hk]
  simp [nu]
  constructor
  ·rintro ⟨h1, h2, h3⟩; exact ⟨⟨h3, h1⟩, by omega⟩
  rintro ⟨⟨h3, h1⟩, h2⟩; exact ⟨h1, by omega, h3⟩
 ·rw [if_neg (by omega), if_neg (by omega), if_pos hk] at h
  split at h
  ·cases h
   have hs := hso.resolve_left (by omega)
   have h0 := Qd8 hF (.inl hk)
   refine (Qeh _ (Kp hs)).iff fun v => ?_
   constructor
   ·rintro ⟨h1, h2, h3, h4, -⟩
    obtain ⟨h5, h6⟩ := (KV h0 hsv hs).2 h4
    exact QjH hk h1 h2 h3 h5 h6
   intro hv
   obtain ⟨h1, h2, h3, h4, h5, -⟩ := Yq hv (.inl hk)
   exact ⟨h1, h2, h3, (KV h0 hsv hs).1 ⟨h4, h5⟩, rfl⟩
  cases h
 ·rw [if_neg (by omega), if_neg (by omega), if_neg (by omega), if_neg (by omega), if_neg (by omega), if_pos hk] at h
  obtain ⟨q, hq⟩ := YP hO hk
  rw [hq] at h
  simp only [List.map_cons] at h
  cases ha : Yz q with
  | none => rw [ha] at h; cases h
  | some La =>
   rw [ha] at h
   obtain ⟨rfl, -⟩ := Kw h
   have hqm : q ∈ l.ps := by rw [hq]; simp
   obtain ⟨i1, i2⟩ := QbM q (hO.part q hqm) (Jy hF q hqm) La ha
   have hs := hso.resolve_left (by omega)
   have h0 := Qd8 hF (.inr (.inr hk))
   have hfm : ∀ p, p ∈ fmV q La ↔ Qr p q = true ∧ p ≠ QL q := fun p => by
    unfold fmV
    rw [List.mem_filter, i2, Bool.not_eq_true', Bool.eq_false_iff]
    exact ⟨fun ⟨a, b⟩ => ⟨a, fun e => b ((J8 _ _).2 e)⟩, fun ⟨a, b⟩ => ⟨a, fun e => b ((J8 _ _).1 e)⟩⟩
   refine (QmG (i1.filter _) (Kp hs)).iff fun v => ?_
   constructor
   ·rintro ⟨h1, h2, h3, h4, h5⟩
    obtain ⟨h6, h7⟩ := (KV h0 hsv hs).2 h4
    exact QhM hk hq h1 h2 h3 h6 h7 fun p hp => (hfm p).1 (h5 p hp)
   intro hv
   obtain ⟨h1, h2, h3, h4, h5, h6⟩ := J6 hv hk hq
   exact ⟨h1, h2, h3, (KV h0 hsv hs).1 ⟨h4, h5⟩, fun p hp => (hfm p).2 (h6 p hp)⟩
 ·exact prodCase (.inl hk)
 ·exact prodCase (.inr hk)
 ·rw [if_neg (by omega), if_neg (by omega), if_neg (by omega), if_neg (by omega), if_pos hk] at h
  cases h
  have hs := hso.resolve_left (by omega)
  have h0 := Qd8 hF (.inr (.inl hk))
  refine ⟨?_, fun v => ?_⟩
  ·unfold QcE
   refine List.nodup_append.2 ⟨by simp [Qn.zero], W9 (Kp hs) fun x _ y _ e => by cases e; rfl, fun a ha b hb e => ?_⟩
   obtain ⟨s, -, rfl⟩ := List.mem_map.1 hb
   subst e
   simp [Qn.zero] at ha
  unfold QcE
  rw [List.mem_append, List.mem_map]
  constructor
  ·rintro (hv | ⟨s, hs', rfl⟩)
   ·simp at hv
    rcases hv with rfl | rfl <;> rw [QI, hk] <;> rfl
   have := (Qct h0 hsv).2 hs'
   rw [QI, hk]
   simp [JO, JE, Qo, Qn.N, Qn.nm, Qn.ps, Qn.es, this]
  intro hv
  rcases Qdw hv hk with ⟨h1, h2⟩ | ⟨-, s, rfl, hs'⟩
  ·rw [h2]
   rcases h1 with h1 | h1 <;> rw [h1] <;> exact .inl (by simp [Qn.zero])
  exact .inr ⟨s, (Qct h0 hsv).1 hs', rfl⟩
 ·exfalso
  rw [Jv, hk] at hF
  simp at hF
 rw [if_neg (by omega), if_neg (by omega), if_neg (by omega), if_pos hk] at h
 obtain ⟨rfl, -⟩ := Kw h
 have hs := hso.resolve_left (by omega)
 have h0 := Qje hO hk
 refine (Qeh _ (Kp hs)).iff fun v => ?_
 constructor
 ·rintro ⟨h1, h2, h3, h4, h5⟩
  obtain ⟨h6, h7⟩ := (KV h0 hsv hs).2 h4
  exact QdF hk h1 h2 h3 h6 h7 h5
 intro hv
 obtain ⟨h1, h2, h3, h4, h5, h6⟩ := Yq hv (.inr hk)
 exact ⟨h1, h2, h3, (KV h0 hsv hs).1 ⟨h4, h5⟩, h6 hk⟩
termination_by l
decreasing_by all_goals first | exact Qs.sizeOf_ps hqm | exact Qs.sizeOf_ps (List.mem_of_getElem? e1)
theorem Qk7 : ∀ Ls : List (List Qn), QcJ (Ls.map some) = some Ls
 | [] => rfl
 | L :: r => by
  show (match QcJ (r.map some) with | some Ls => some (L :: Ls) | none => none) = _
  rw [Qk7 r]
theorem Qds {b : Bool} {e : Int} (h : Yh b e = 0) (he : e ≠ 0) : b = false := by
 unfold Yh at h
 cases b
 ·rfl
 exact absurd h he
theorem Qft {L : List Qn} (h : Qcc L = none) : 256 < L.length := by
 unfold Qcc at h
 split at h
 ·cases h
 omega
theorem Qpn {f : Nat → Nat} (h0 : f 0 ≤ 256) : ∀ n, 256 < f n → ∃ i0, i0 < n ∧ (∀ i, i ≤ i0 → f i ≤ 256) ∧ 256 < f (i0 + 1) := fun n => by
 induction n using Nat.strongRecOn with
 | ind n ih =>
  intro h
  cases n with
  | zero => omega
  | succ n =>
   by_cases ha : ∀ i, i ≤ n → f i ≤ 256
   ·exact ⟨n, by omega, ha, h⟩
   obtain ⟨i, hi⟩ := Classical.not_forall.1 ha
   obtain ⟨hi, hf⟩ := Classical.not_imp.1 hi
   obtain ⟨i0, h1, h2, h3⟩ := ih i (by omega) (by omega)
   exact ⟨i0, by omega, h2, h3⟩
theorem QoT {f : Nat → Nat} {n : Nat} (h : ∀ i, i < n → f i ≤ f (i + 1)) {i j : Nat} (hij : i ≤ j) (hj : j ≤ n) : f i ≤ f j := by
 induction j with
 | zero =>
  obtain rfl : i = 0 := by omega
  exact Nat.le_refl _
 | succ j ih =>
  rcases Nat.lt_or_ge i (j + 1) with h1 | h1
  ·exact Nat.le_trans (ih (by omega) (by omega)) (h j (by omega))
  obtain rfl : i = j + 1 := by omega
  exact Nat.le_refl _
theorem QdK {l : Qs} (hO : Kv l) {L : List Qn} (h : Yz l = some L) : L.length ≤ 256 := by
 rw [Qac] at h
 unfold Qgn at h
 have h32 : l.nm.length ≤ 32 := by
  have h1 := Qds hO.four.1 (by decide)
  simp only [Bool.or_eq_false_iff, decide_eq_false_iff_not] at h1
  have : Kb l.k ≤ 32 := by unfold Kb; split <;> (try split) <;> omega
  omega
 split at h
 ·cases h; decide
 split at h
 ·split at h
  ·cases h
  cases h; rw [QbZ]; omega
 split at h
 ·split at h
  ·cases h; exact QfG ‹_›
  cases h
 split at h
 ·obtain ⟨rfl, h3⟩ := Kw h; exact h3
 split at h
 ·cases h; rw [QfD]; omega
 split at h
 ·split at h
  ·obtain ⟨rfl, h3⟩ := Kw h; exact h3
  cases h
 split at h
 ·obtain ⟨rfl, h3⟩ := Kw h; exact h3
 cases h
theorem Qj1 {l : Qs} (hO : Kv l) (hF : J3 l = true) {L : List Qn} (h : Yz l = some L) : QL l ∈ L := ((QbM l hO hF L h).2 _).2 (K2 l hO)
theorem Qi0 {As : List (Option (List Qn))} (h : QcJ As = none ∨ ∃ Ls, QcJ As = some Ls ∧ 256 < (Xp Ls).length) : ∀ (d : Nat) (Ls : List (List Qn)), Ls.length + d = As.length → (∀ (i : Nat) (L : List Qn), Ls[i]? = some L → As[i]? = some (some L)) → (∀ i : Nat, i ≤ Ls.length → (Xp (Ls.take i)).length ≤ 256) →
  ∃ Ms : List (List Qn), Ms.length < As.length ∧ (∀ (i : Nat) (L : List Qn), Ms[i]? = some L → As[i]? = some (some L)) ∧ (As[Ms.length]? = some none ∨ ∃ L, As[Ms.length]? = some (some L) ∧ 256 < (Xp Ms).length * L.length) ∧ ∀ i, i ≤ Ms.length → (Xp (Ms.take i)).length ≤ 256
 | 0, Ls, hl, hA, h256 => by
  exfalso
  have e : As = Ls.map some := List.ext_getElem? fun i => by
   rw [List.getElem?_map]
   cases hx : Ls[i]? with
   | none =>
    rw [List.getElem?_eq_none_iff] at hx
    exact List.getElem?_eq_none (by omega)
   | some L => exact hA i L hx
  rw [e, Qk7] at h
  rcases h with h | ⟨Ms, h1, h2⟩
  ·cases h
  cases h1
  have := h256 _ (Nat.le_refl _)
  rw [List.take_length] at this
  omega
 | d + 1, Ls, hl, hA, h256 => by
  obtain ⟨A, hAi⟩ := Qk (show Ls.length < As.length by omega)
  cases A with
  | none => exact ⟨Ls, by omega, hA, .inl hAi, h256⟩
  | some L =>
   by_cases hb : 256 < (Xp Ls).length * L.length
   ·exact ⟨Ls, by omega, hA, .inr ⟨L, hAi, hb⟩, h256⟩
   refine Qi0 h d (Ls ++ [L]) (by simp; omega) (fun i M hM => ?_) fun i hi => ?_
   ·rcases Nat.lt_or_ge i Ls.length with h1 | h1
    ·rw [List.getElem?_append_left h1] at hM; exact hA i M hM
    have := (List.getElem?_eq_some_iff.1 hM).1
    rw [List.length_append, List.length_singleton] at this
    obtain rfl : i = Ls.length := by omega
    rw [List.getElem?_append_right (Nat.le_refl _), Nat.sub_self] at hM
    cases hM; exact hAi
   rcases Nat.lt_or_ge i (Ls.length + 1) with h1 | h1
   ·rw [List.take_append_of_le_length (by omega)]; exact h256 i (by omega)
   obtain rfl : i = Ls.length + 1 := by simp at hi; omega
   rw [Kg (i := Ls.length) (L := L) (by simp), List.take_left, QbD]
   omega
abbrev GA_ (l : Qs) : Prop := (∀ L, Yz l = some L → GV 48 [.agg (QF l)] L 0 1) ∧ (Yz l = none → FC Tryz.prog 48 [.agg (QF l)] (.tup [.sl [] none, bl false]))
theorem Qpm {l : Qs} (hO : Kv l) (hk : l.k = 6 ∨ l.k = 7) : 0 < l.ps.length := by
 rcases hk with hk | hk
 ·have h := hO.shape
  unfold Xq at h
  rw [if_pos (by rw [hk]; decide)] at h
  have hb : (KE l || Yg l) = false := by
   cases hb : (KE l || Yg l)
   ·rfl
   rw [hb] at h; simp [Yh] at h
  simp [KE, Yg, Yb, hk] at hb
  have := hb.2
  have h3 := hb.1.1.1
  have : 0 < l.nm.length := List.length_pos_iff.2 this
  omega
 obtain ⟨p, q, h⟩ := Kt hO.shape hk
 rw [h]; exact Nat.succ_pos _
theorem QwD (l : Qs) (hc : Q0 l = 0) (hF : J3 l = true) (ih : ∀ q ∈ l.ps, GA_ q) : GA_ l := by
 have hO := QP hc
 have hr := Qfc hO
 have hsm := hO.small
 have hrng := Qds hO.four.2.2.1 (by decide)
 simp only [Bool.or_eq_false_iff, decide_eq_false_iff_not] at hrng
 have hlim := Qds hO.four.1 (by decide)
 simp only [Bool.or_eq_false_iff, decide_eq_false_iff_not] at hlim
 have hlim := hlim.1
 have hpp := Qpm hO
 have key : ∀ L, Yz l = some L → L.length ≤ 256 := fun L h => QdK hO h
 have he := Qac l
 have hkd := Qbi hO
 have h56 := fun hk => YP hO hk
 have hbt : ∀ q ∈ l.ps, ∀ L, Yz q = some L → L.length ≤ 256 ∧ 0 < L.length := fun q hq L h =>
  ⟨QdK (hO.part q hq) h, List.length_pos_of_mem (Qj1 (hO.part q hq) (Jy hF q hq) h)⟩
 have hch : ∀ q ∈ l.ps, Q0 q = 0 := fun q hq => XR hc hq
 have hnm := Qd8 hF
 cases l with
 | mk k lo hi nm ps rs =>
 simp only [Qs.k, Qs.lo, Qs.hi, Qs.nm, Qs.ps, Qs.rs] at *
 unfold Qgn at he
 have prodCase : (k = 6 ∨ k = 7) → GA_ (.mk k lo hi nm ps rs) := by
  intro hk67
  have e := he
  rw [if_neg (by omega), if_neg (by omega), if_neg (by omega), if_neg (by omega), if_neg (by omega), if_neg (by omega)] at e
  have hp0 : 0 < ps.length := hpp (by omega)
  have hat : ∀ (i : Nat) (p : Qs) (L : List Qn), ps[i]? = some p → (ps.map Yz)[i]? = some (some L) → GV 48 [.agg (QF p)] L 0 1 := fun i p L h1 h2 => by
   rw [List.getElem?_map, h1] at h2
   exact (ih p (List.mem_of_getElem? h1)).1 L (Option.some.inj h2)
  have h256L : ∀ (i : Nat) (L : List Qn), (ps.map Yz)[i]? = some (some L) → L.length ≤ 256 ∧ 0 < L.length := fun i L h => by
   obtain ⟨p, hp⟩ := Qk (show i < ps.length by have := (List.getElem?_eq_some_iff.1 h).1; simpa using this)
   rw [List.getElem?_map, hp] at h
   exact hbt p (List.mem_of_getElem? hp) L (Option.some.inj h)
  have bad : (QcJ (ps.map Yz) = none ∨ ∃ Ls, QcJ (ps.map Yz) = some Ls ∧ 256 < (Xp Ls).length) → FC Tryz.prog 78 [.sl (ps.map WB) none] (.tup [.sl [] none, bl false]) := fun h => by
   obtain ⟨Ms, h1, h2, h3, h4⟩ := Qi0 h (ps.map Yz).length [] (by simp) (by intro i L h; cases h) (by intro i hi; simp [Xp])
   rw [List.length_map] at h1
   refine Qkj ps Ms Ms.length h1 rfl (fun i p L e1 e2 => hat i p L e1 (h2 i L e2)) (fun p hp => ?_) h4 (fun L hL => ?_) (by omega)
   ·rw [List.getElem?_map, hp] at h3
    rcases h3 with h3 | ⟨L, h3, h5⟩
    ·exact .inl ((ih p (List.mem_of_getElem? hp)).2 (Option.some.inj h3))
    have h3 := Option.some.inj h3
    exact .inr ⟨L, (ih p (List.mem_of_getElem? hp)).1 L h3, (hbt p (List.mem_of_getElem? hp) L h3).1, h5⟩
   obtain ⟨i, hi⟩ := List.getElem?_of_mem hL
   exact (h256L i L (h2 i L hi)).1
  have good : ∀ Ls, QcJ (ps.map Yz) = some Ls → (Xp Ls).length ≤ 256 → GV 78 [.sl (ps.map WB) none] (Xp Ls) 0 1 := fun Ls h h256 => by
   have hm := QdA h
   have hl : Ls.length = ps.length := by have := congrArg List.length hm; simpa using this.symm
   have hA : ∀ (i : Nat) (L : List Qn), Ls[i]? = some L → (ps.map Yz)[i]? = some (some L) := fun i L h => by rw [hm, List.getElem?_map, h]; rfl
   have mono : ∀ i, i < Ls.length → (Xp (Ls.take i)).length ≤ (Xp (Ls.take (i + 1))).length := fun i hi => by
    obtain ⟨M, hM⟩ := Qk hi
    rw [Kg hM, QbD]
    exact Nat.le_mul_of_pos_right _ (h256L i M (hA i M hM)).2
   exact KF (QfV ps Ls hp0 hl (fun i p L e1 e2 => hat i p L e1 (hA i L e2)) (fun i hi => by
    have := QoT (f := fun i => (Xp (Ls.take i)).length) mono hi (Nat.le_refl _)
    refine Nat.le_trans this ?_
    show (Xp (Ls.take Ls.length)).length ≤ 256
    rw [List.take_length]; exact h256) (fun L hL => by
    obtain ⟨i, hi⟩ := List.getElem?_of_mem hL
    exact (h256L i L (hA i L hi)).1) (by omega))
  rw [GA_, e]
  cases ho : QcJ (ps.map Yz) with
  | none =>
   have hb := bad (.inl ho)
   rcases hk67 with rfl | rfl
   ·exact ⟨fun L h => (by cases h), fun _ => QeA lo hi nm ps rs hb⟩
   exact ⟨fun L h => (by cases h), fun _ => Qex lo hi nm ps rs hb⟩
  | some Ls =>
   show (∀ L, Qcc (Xp Ls) = some L → _) ∧ (Qcc (Xp Ls) = none → _)
   have hg := good Ls ho
   have hb : Qcc (Xp Ls) = none → _ := fun h => bad (.inr ⟨Ls, ho, Qft h⟩)
   have hs : ∀ L, Qcc (Xp Ls) = some L → L = Xp Ls ∧ (Xp Ls).length ≤ 256 := fun L h => ⟨(Kw h).1.symm, (Kw h).2⟩
   rcases hk67 with rfl | rfl
   ·exact ⟨fun L h => by rw [(hs L h).1]; exact KF (Qlg lo hi nm ps rs _ (hg (hs L h).2)), fun h => QeA lo hi nm ps rs (hb h)⟩
   exact ⟨fun L h => by rw [(hs L h).1]; exact KF (Qk1 lo hi nm ps rs _ (hg (hs L h).2)), fun h => Qex lo hi nm ps rs (hb h)⟩
 rcases hkd with rfl | rfl | rfl | rfl | rfl | hk67 | hk67 | rfl | rfl | rfl
 ·rw [if_pos rfl] at he
  rw [GA_, he]
  exact ⟨fun L h => by cases h; exact KF (Qmj _ _ _ _ _), fun h => by cases h⟩
 ·rw [if_neg (by decide), if_pos (.inl rfl)] at he
  rw [GA_, he]
  by_cases hb : hi - lo ≥ 256
  ·rw [if_pos hb]
   exact ⟨fun L h => (by cases h), fun _ => Qmm _ _ _ _ _ hb (by omega) (by omega)⟩
  rw [if_neg hb]
  exact ⟨fun L h => by cases h; exact KF (Qnj _ _ _ _ _ _ (by omega) (by omega) (by omega) (by omega)), fun h => by cases h⟩
 ·rw [if_neg (by decide), if_pos (.inr rfl)] at he
  rw [GA_, he]
  by_cases hb : hi - lo ≥ 256
  ·rw [if_pos hb]
   exact ⟨fun L h => (by cases h), fun _ => Qnn _ _ _ _ _ hb (by omega) (by omega)⟩
  rw [if_neg hb]
  exact ⟨fun L h => by cases h; exact KF (QnB _ _ _ _ _ _ (by omega) (by omega) (by omega) (by omega)), fun h => by cases h⟩
 ·rw [if_neg (by decide), if_neg (by decide), if_pos rfl] at he
  rw [GA_, he]
  by_cases hb : nm.length ≤ 8
  ·rw [if_pos hb]
   exact ⟨fun L h => by cases h; exact KF (QpI _ _ _ _ _ hb), fun h => by cases h⟩
  rw [if_neg hb]
  exact ⟨fun L h => (by cases h), fun _ => QmN _ _ _ _ _ (by omega)⟩
 ·rw [if_neg (by decide), if_neg (by decide), if_neg (by decide), if_neg (by decide), if_neg (by decide), if_pos rfl] at he
  obtain ⟨q, hq⟩ := h56 rfl
  subst hq
  have hn32 : nm.length ≤ 32 := by have : Kb 5 = 32 := rfl; omega
  have hn0 : 0 < nm.length := List.length_pos_iff.2 (hnm (.inr (.inr rfl)))
  simp only [List.map_cons] at he
  rw [GA_, he]
  obtain ⟨i1, i2⟩ := ih q (by simp)
  cases ha : Yz q with
  | none => exact ⟨fun L h => (by cases h), fun _ => Qnc _ _ _ _ _ (i2 ha)⟩
  | some La =>
   have hLa := (hbt q (by simp) La ha).1
   have hFM : (fmV q La).length ≤ 256 := Nat.le_trans (List.length_filter_le _ _) hLa
   have mono : ∀ i, i < nm.length → (Q8 (nm.take i) (fmV q La)).length ≤ (Q8 (nm.take (i + 1)) (fmV q La)).length := fun i hi => by
    obtain ⟨key, hk⟩ := Qk hi
    rw [Wk hk, Qfd]
    exact Nat.le_mul_of_pos_right _ (Nat.succ_pos _)
   have hfull : (Q8 (nm.take nm.length) (fmV q La)).length = (Q8 nm (fmV q La)).length := by rw [List.take_length]
   show (∀ L, Qcc (Q8 nm (fmV q La)) = some L → _) ∧ (Qcc (Q8 nm (fmV q La)) = none → _)
   constructor
   ·intro L h
    obtain ⟨rfl, h256⟩ := Kw h
    exact KF (Qqj lo hi nm q rs (hch q (by simp)) La (i1 La ha) (by omega) hn0 (by omega) hFM (fun i hi => by
     have := QoT (f := fun i => (Q8 (nm.take i) (fmV q La)).length) mono hi (Nat.le_refl _)
     exact Nat.le_trans this (by rw [hfull]; exact h256)))
   intro h
   have hbig := Qft h
   rw [← hfull] at hbig
   obtain ⟨i0, h1, h2, h3⟩ := Qpn (f := fun i => (Q8 (nm.take i) (fmV q La)).length) (by simp [Q8]) nm.length hbig
   exact Qnv lo hi nm q rs (hch q (by simp)) La (i1 La ha) (by omega) i0 h1 (by omega) hFM h2 h3
 ·exact prodCase (.inl hk67)
 ·exact prodCase (.inr hk67)
 ·rw [if_neg (by decide), if_neg (by decide), if_neg (by decide), if_neg (by decide), if_pos rfl] at he
  rw [GA_, he]
  exact ⟨fun L h => by cases h; exact KF (QnH _ _ _ _ _ (by have : Kb 8 = 32 := rfl; omega)), fun h => by cases h⟩
 ·rw [Jv] at hF; simp [Qs.k] at hF
 rw [if_neg (by decide), if_neg (by decide), if_neg (by decide), if_pos rfl] at he
 rw [GA_, he]
 have h12 : nm.length ≤ 12 := by have : Kb 10 = 12 := rfl; omega
 constructor
 ·intro L h
  obtain ⟨rfl, h256⟩ := Kw h
  exact KF (QjV _ _ _ _ _ h12 h256)
 intro h
 exact Qit _ _ _ _ _ h12 (Qft h)
theorem Qrl (l : Qs) (hc : Q0 l = 0) (hF : J3 l = true) : GA_ l := QwD l hc hF fun q hq => Qrl q (XR hc hq) (Jy hF q hq)
termination_by l
decreasing_by exact Qs.sizeOf_ps hq
def Qkk (L : List Qn) : List Qn := L.mergeSort fun x y => decide (Jk x y ≤ 0)
theorem QbT (L : List Qn) : (Qkk L).Perm L := List.mergeSort_perm _ _
theorem Qn3 (L : List Qn) : (Qkk L).Pairwise fun x y => Jk x y ≤ 0 := by
 have := List.pairwise_mergeSort (le := fun x y : Qn => decide (Jk x y ≤ 0)) (fun a b c h1 h2 => by
  simp only [decide_eq_true_eq] at *
  exact JN.trans a b c h1 h2) (fun a b => by
  simp only [Bool.or_eq_true, decide_eq_true_eq]
  have := JN.anti a b
  have := JN.anti b a
  omega) L
 exact this.imp fun h => by simpa using h
theorem Qtb {L : List Qn} (h : L.Nodup) : (Qkk L).Pairwise fun x y => Jk x y < 0 := by
 have h2 : (Qkk L).Nodup := (QbT L).nodup_iff.2 h
 exact (Qn3 L).imp₂ (fun {x y} h1 hne => by
  have : Jk x y ≠ 0 := fun e => hne (JN.eq _ _ e)
  omega) h2
def K9 (l : Qs) : List Qn × Int := if Q0 l = 0 then (if J3 l = true then (match Yz l with | some L => (Qkk L, 0) | none => ([], 6)) else ([], 4)) else ([], 1)
theorem Qmt (l : Qs) : FC Tryz.prog 14 [.agg (QF l)] (.tup [JM (K9 l).1, i64 (K9 l).2]) := by
 unfold K9
 by_cases hc : Q0 l = 0
 ·rw [if_pos hc]
  cases hF : J3 l with
  | false => exact QkH l hc hF
  | true =>
   rw [if_pos rfl]
   obtain ⟨h1, h2⟩ := Qrl l hc hF
   cases ha : Yz l with
   | none => exact Qmg l hc hF (h2 ha)
   | some L =>
    exact QmS l hc hF L (Qkk L) (h1 L ha) (by have := QdK (QP hc) ha; omega) (QbT L) ((Qn3 L).imp fun h => (JN.anti _ _).1 h)
 rw [if_neg hc]
 exact QkU l hc
end Go.Proofs.YtaecccdkjmipeaaGreat
