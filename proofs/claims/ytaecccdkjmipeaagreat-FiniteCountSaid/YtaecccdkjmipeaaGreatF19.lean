/-
  Plain laws: the elements of a finite description, each once.
  Contracts: finite.all at any finite description.
-/
import Derived.Test.YtaecccdkjmipeaaGreatF18
import Derived.Test.YtaecccdkjmipeaaGreatB17
namespace Go.Proofs.YtaecccdkjmipeaaGreat
open Go.RowKit

def capV (L : List Val) : Option (List Val) := if L.length ≤ 256 then some L else none
def allO : List (Option (List Val)) → Option (List (List Val))
 | [] => some []
 | none :: _ => none
 | some L :: r => match allO r with | some Ls => some (L :: Ls) | none => none
def fmV (a : Lat) (La : List Val) : List Val := La.filter fun x => !eqV x (bottomV a)
def allK (k lo hi : Int) (nm : List Nm) (rs : List Ru) (ps : List Lat) (As : List (Option (List Val))) : Option (List Val) :=
 if k = 1 then some (numsV 0 2)
 else if k = 2 ∨ k = 3 then (if hi - lo ≥ 256 then none else some (numsV lo (hi - lo + 1).toNat))
 else if k = 4 then (if nm.length ≤ 8 then some (subsV (fun _ => true) nm (2 ^ nm.length)) else none)
 else if k = 10 then capV (subsV (closedB rs) nm (2 ^ nm.length))
 else if k = 8 then some (flatV nm)
 else if k = 5 then (match ps, As with | a :: _, some La :: _ => capV (mapsV nm (fmV a La)) | _, _ => none)
 else match allO As with | some Ls => capV (prodV Ls) | none => none
mutual
/-- the elements of a finite description; none: too many -/
def allV : Lat → Option (List Val)
 | .mk k lo hi nm ps rs => allK k lo hi nm rs ps (allVs ps)
def allVs : List Lat → List (Option (List Val))
 | [] => []
 | p :: r => allV p :: allVs r
end
theorem allVs_map : ∀ l : List Lat, allVs l = l.map allV
 | [] => rfl
 | p :: r => by rw [allVs, allVs_map r]; rfl
theorem allV_eq (l : Lat) : allV l = allK l.k l.lo l.hi l.nm l.rs l.ps (l.ps.map allV) := by
 cases l with
 | mk k lo hi nm ps rs => rw [allV, allVs_map]; rfl
theorem capV_some {L L' : List Val} (h : capV L = some L') : L = L' ∧ L.length ≤ 256 := by
 unfold capV at h
 split at h
 ·cases h; exact ⟨rfl, ‹_›⟩
 cases h
theorem allO_some : ∀ {As : List (Option (List Val))} {Ls : List (List Val)}, allO As = some Ls → As = Ls.map some
 | [], Ls, h => by cases h; rfl
 | none :: _, Ls, h => by cases h
 | some L :: r, Ls, h => by
  unfold allO at h
  cases hr : allO r with
  | none => rw [hr] at h; cases h
  | some Ms => rw [hr] at h; cases h; rw [allO_some hr]; rfl
/-- each element once -/
def Lists (L : List Val) (p : Val → Prop) : Prop := L.Nodup ∧ ∀ v, v ∈ L ↔ p v
theorem Lists.iff {L : List Val} {p q : Val → Prop} (h : Lists L p) (hq : ∀ v, p v ↔ q v) : Lists L q := ⟨h.1, fun v => (h.2 v).trans (hq v)⟩
theorem map_nodup {α β : Type} {f : α → β} {l : List α} (h : l.Nodup) (hi : ∀ x ∈ l, ∀ y ∈ l, f x = f y → x = y) : (l.map f).Nodup :=
 List.pairwise_map.2 (h.imp_of_mem fun hx hy hne e => hne (hi _ hx _ hy e))

/-! ### numbers -/
theorem nums_lists (lo : Int) (n : Nat) : Lists (numsV lo n) fun v => lo ≤ v.N ∧ v.N < lo + n ∧ v.nm = [] ∧ v.ps = [] ∧ v.es = [] := by
 refine ⟨map_nodup List.nodup_range fun x _ y _ e => ?_, fun v => ?_⟩
 ·have := congrArg Val.N e
  have : lo + (x : Int) = lo + (y : Int) := this
  omega
 ·unfold numsV
  rw [List.mem_map]
  constructor
  ·rintro ⟨i, hi, rfl⟩
   have := List.mem_range.1 hi
   exact ⟨by show lo ≤ lo + (i : Int); omega, by show lo + (i : Int) < lo + n; omega, rfl, rfl, rfl⟩
  ·rintro ⟨h1, h2, h3, h4, h5⟩
   exact ⟨(v.N - lo).toNat, List.mem_range.2 (by omega), Val.ext_ (by show lo + ((v.N - lo).toNat : Int) = v.N; omega) h3.symm h4.symm h5.symm⟩

/-! ### subsets -/
theorem selB_sub : ∀ (l : List Nm) (b : Nat), (selB l b).Sublist l
 | [], _ => .slnil
 | s :: r, b => by
  unfold selB
  split
  ·exact (selB_sub r _).cons_cons s
  exact (selB_sub r _).cons s
theorem selB_of {l s : List Nm} (h : s.Sublist l) : ∃ b, b < 2 ^ l.length ∧ selB l b = s := by
 induction h with
 | slnil => exact ⟨0, by simp, rfl⟩
 | @cons s l a h ih =>
  obtain ⟨b, hb, e⟩ := ih
  refine ⟨2 * b, by rw [List.length_cons, Nat.pow_succ]; omega, ?_⟩
  unfold selB
  rw [if_neg (by omega), Nat.mul_div_cancel_left b (by decide), e]
 | @cons_cons s l a h ih =>
  obtain ⟨b, hb, e⟩ := ih
  refine ⟨2 * b + 1, by rw [List.length_cons, Nat.pow_succ]; omega, ?_⟩
  unfold selB
  rw [if_pos (by omega), show (2 * b + 1) / 2 = b by omega, e]
theorem selB_inj : ∀ (l : List Nm), l.Nodup → ∀ b c, b < 2 ^ l.length → c < 2 ^ l.length → selB l b = selB l c → b = c
 | [], _, b, c, hb, hc, _ => by simp at hb hc; omega
 | s :: r, hn, b, c, hb, hc, h => by
  rw [List.length_cons, Nat.pow_succ] at hb hc
  rw [List.nodup_cons] at hn
  have no : ∀ x, s ∉ selB r x := fun x hx => hn.1 ((selB_sub r x).subset hx)
  have ih := selB_inj r hn.2 (b / 2) (c / 2) (by omega) (by omega)
  unfold selB at h
  by_cases h1 : b % 2 = 1 <;> by_cases h2 : c % 2 = 1
  ·rw [if_pos h1, if_pos h2] at h
   have := ih (by simpa using h)
   omega
  ·rw [if_pos h1, if_neg h2] at h
   exact absurd (h ▸ List.mem_cons_self) (no (c / 2))
  ·rw [if_neg h1, if_pos h2] at h
   exact absurd (h ▸ List.mem_cons_self) (no (b / 2))
  rw [if_neg h1, if_neg h2] at h
  have := ih h
  omega
theorem subs_lists (acc : List Nm → Bool) {l : List Nm} (hn : l.Nodup) : Lists (subsV acc l (2 ^ l.length)) fun v => v.N = 0 ∧ v.ps = [] ∧ v.es = [] ∧ v.nm.Sublist l ∧ acc v.nm = true := by
 unfold subsV
 refine ⟨map_nodup ((map_nodup List.nodup_range fun x hx y hy e => selB_inj l hn x y (List.mem_range.1 hx) (List.mem_range.1 hy) e).filter _) fun x _ y _ e => ?_, fun v => ?_⟩
 ·unfold setV at e; cases e; rfl
 rw [List.mem_map]
 constructor
 ·rintro ⟨s, hs, rfl⟩
  rw [List.mem_filter, List.mem_map] at hs
  obtain ⟨⟨b, hb, rfl⟩, ha⟩ := hs
  exact ⟨rfl, rfl, rfl, selB_sub l b, ha⟩
 rintro ⟨h1, h2, h3, h4, h5⟩
 obtain ⟨b, hb, e⟩ := selB_of h4
 exact ⟨v.nm, List.mem_filter.2 ⟨List.mem_map.2 ⟨b, List.mem_range.2 hb, e⟩, h5⟩, Val.ext_ h1.symm rfl h2.symm h3.symm⟩
theorem sorted_sub {s l : List Nm} (hs : s.Sublist l) (hl : sortedB l = true) : sortedB s = true := sorted_of_pw ((sorted_pw hl).sublist hs)
theorem sub_of_sorted {s l : List Nm} (h1 : sortedB s = true) (h2 : sortedB l = true) (h : ∀ x ∈ s, x ∈ l) : s.Sublist l := by
 have e : s = l.filter (fun x => hasB s x) := sorted_ext h1 (sorted_sub List.filter_sublist h2) fun x => by
  rw [List.mem_filter, has_iff]
  exact ⟨fun hx => ⟨h x hx, hx⟩, fun hx => hx.2⟩
 rw [e]; exact List.filter_sublist

/-! ### names of a checked description -/
theorem spell_all {l : Lat} (h : OkL l) : (∀ s ∈ l.nm, validB s = true) ∧ (l.k = 6 ∨ sortedB l.nm = true) := by
 have h := h.four.2.1
 unfold spellX at h
 split at h
 ·rename_i h1
  simp only [Bool.and_eq_true, List.all_eq_true, Bool.or_eq_true, beq_iff_eq] at h1
  refine ⟨fun s hs => ?_, h1.1.2⟩
  obtain ⟨k, hk⟩ := List.getElem?_of_mem hs
  have := h1.1.1 (s, k) (List.mem_of_getElem? (zip_get hk))
  simp [nameOk] at this
  exact this.1
 cases h
theorem okName_fin {only : List Nm} {s : Nm} (h0 : only ≠ []) (hv : ∀ s ∈ only, validB s = true) : okName only s = true ↔ s ∈ only := by
 unfold okName
 have h1 : ((only.length : Int) > 0) := by
  have := List.length_pos_iff.2 h0
  omega
 simp only [h1, decide_true, Bool.true_and, Bool.and_eq_true, Bool.not_eq_true', Bool.not_eq_false']
 rw [has_iff]
 exact ⟨fun h => h.2, fun h => ⟨hv s h, h⟩⟩
theorem names_sub {only l : List Nm} (h0 : only ≠ []) (hv : ∀ s ∈ only, validB s = true) (ho : sortedB only = true) : (sortedB l = true ∧ ∀ s ∈ l, okName only s = true) ↔ l.Sublist only := by
 constructor
 ·rintro ⟨h1, h2⟩
  exact sub_of_sorted h1 ho fun x hx => (okName_fin h0 hv).1 (h2 x hx)
 ·intro h
  exact ⟨sorted_sub h ho, fun s hs => (okName_fin h0 hv).2 (h.subset hs)⟩

/-! ### maps -/
theorem sub_snoc {l r : List Nm} {a : Nm} (h : l.Sublist (r ++ [a])) : l.Sublist r ∨ ∃ m, l = m ++ [a] ∧ m.Sublist r := by
 obtain ⟨l1, l2, rfl, h1, h2⟩ := List.sublist_append_iff.1 h
 cases h2 with
 | cons _ h => rw [List.sublist_nil.1 h, List.append_nil]; exact .inl h1
 | cons_cons _ h => rw [List.sublist_nil.1 h]; exact .inr ⟨l1, rfl, h1⟩
theorem maps_take {L : List Val} (hL : L.Nodup) {names : List Nm} (hn : names.Nodup) : ∀ i, i ≤ names.length → Lists (mapsV (names.take i) L) fun v => v.N = 0 ∧ v.es = [] ∧ v.nm.length = v.ps.length ∧ v.nm.Sublist (names.take i) ∧ ∀ p ∈ v.ps, p ∈ L
 | 0, _ => by
  refine ⟨by rw [List.take_zero]; simp [mapsV], fun v => ?_⟩
  rw [List.take_zero]
  show v ∈ [Val.zero] ↔ _
  rw [List.mem_singleton]
  constructor
  ·rintro rfl; exact ⟨rfl, rfl, rfl, .slnil, by intro p hp; cases hp⟩
  rintro ⟨h1, h2, h3, h4, -⟩
  have h5 := List.sublist_nil.1 h4
  rw [h5] at h3
  exact Val.ext_ h1 h5 (List.length_eq_zero_iff.1 h3.symm) h2
 | i + 1, hi => by
  obtain ⟨key, hk⟩ := get_lt (show i < names.length by omega)
  obtain ⟨ih1, ih2⟩ := maps_take hL hn i (by omega)
  rw [mapsV_take hk]
  have ht : names.take (i + 1) = names.take i ++ [key] := by rw [List.take_add_one, hk]; rfl
  have hnk : key ∉ names.take i := by
   have := hn.sublist (List.take_sublist (i + 1) names)
   rw [ht, List.nodup_append] at this
   intro h
   exact this.2.2 key h key (by simp) rfl
  have no : ∀ {u}, u ∈ mapsV (names.take i) L → key ∉ u.nm := fun hu h => hnk (((ih2 _).1 hu).2.2.2.1.subset h)
  generalize mapsV (names.take i) L = out at ih1 ih2 no ⊢
  refine ⟨?_, fun v => ?_⟩
  ·refine List.pairwise_flatMap.2 ⟨fun u hu => ?_, ih1.imp_of_mem fun {u w} hu hw hne x hx y hy e => ?_⟩
   ·refine List.nodup_cons.2 ⟨fun h => ?_, map_nodup hL fun x _ y _ e => ?_⟩
    ·obtain ⟨q, -, e⟩ := List.mem_map.1 h
     exact no hu (by rw [← e]; exact List.mem_append_right _ (List.mem_singleton_self _))
    have := congrArg Val.ps e
    exact List.singleton_inj.1 (List.append_cancel_left this)
   subst e
   rcases List.mem_cons.1 hx with rfl | hx <;> rcases List.mem_cons.1 hy with e | hy
   ·exact hne e
   ·obtain ⟨q, -, e⟩ := List.mem_map.1 hy
    exact no hu (by rw [← e]; exact List.mem_append_right _ (List.mem_singleton_self _))
   ·obtain ⟨q, -, e2⟩ := List.mem_map.1 hx
    exact no hw (by rw [← e, ← e2]; exact List.mem_append_right _ (List.mem_singleton_self _))
   obtain ⟨q, -, e1⟩ := List.mem_map.1 hx
   obtain ⟨q', -, e2⟩ := List.mem_map.1 hy
   have e := e1.trans e2.symm
   have n1 : u.nm = w.nm := List.append_inj_left' (congrArg Val.nm e) rfl
   have n2 : u.ps = w.ps := List.append_inj_left' (congrArg Val.ps e) rfl
   obtain ⟨a1, a2, -⟩ := (ih2 u).1 hu
   obtain ⟨b1, b2, -⟩ := (ih2 w).1 hw
   exact hne (Val.ext_ (a1.trans b1.symm) n1 n2 (a2.trans b2.symm))
  unfold stepM
  rw [List.mem_flatMap, ht]
  constructor
  ·rintro ⟨u, hu, hv⟩
   obtain ⟨h1, h2, h3, h4, h5⟩ := (ih2 u).1 hu
   rcases List.mem_cons.1 hv with rfl | hv
   ·exact ⟨h1, h2, h3, h4.trans (List.sublist_append_left _ _), h5⟩
   obtain ⟨q, hq, rfl⟩ := List.mem_map.1 hv
   refine ⟨rfl, rfl, by show (u.nm ++ [key]).length = (u.ps ++ [q]).length; simp [h3], h4.append (List.Sublist.refl _), fun p hp => ?_⟩
   rcases List.mem_append.1 (show p ∈ u.ps ++ [q] from hp) with hp | hp
   ·exact h5 p hp
   rw [List.mem_singleton.1 hp]; exact hq
  rintro ⟨h1, h2, h3, h4, h5⟩
  rcases sub_snoc h4 with h4 | ⟨m, hm, h4⟩
  ·exact ⟨v, (ih2 v).2 ⟨h1, h2, h3, h4, h5⟩, List.mem_cons_self⟩
  rcases List.eq_nil_or_concat v.ps with hp | ⟨ps', q, hp⟩
  ·rw [hm, hp] at h3; simp at h3
  rw [List.concat_eq_append] at hp
  have hlen : m.length = ps'.length := by rw [hm, hp] at h3; simpa using h3
  refine ⟨.mk 0 m ps' [], (ih2 _).2 ⟨rfl, rfl, hlen, h4, fun p hp' => h5 p (by rw [hp]; exact List.mem_append_left _ hp')⟩, List.mem_cons_of_mem _ (List.mem_map.2 ⟨q, h5 q (by rw [hp]; simp), ?_⟩)⟩
  exact Val.ext_ h1.symm hm.symm hp.symm h2.symm
theorem maps_lists {L : List Val} (hL : L.Nodup) {names : List Nm} (hn : names.Nodup) : Lists (mapsV names L) fun v => v.N = 0 ∧ v.es = [] ∧ v.nm.length = v.ps.length ∧ v.nm.Sublist names ∧ ∀ p ∈ v.ps, p ∈ L := by
 have := maps_take hL hn names.length (Nat.le_refl _)
 rwa [List.take_length] at this

/-! ### products -/
theorem prods_take {Ls : List (List Val)} (hL : ∀ L ∈ Ls, L.Nodup) : ∀ i, i ≤ Ls.length → Lists (prodV (Ls.take i)) fun v => v.N = 0 ∧ v.nm = [] ∧ v.es = [] ∧ v.ps.length = i ∧ ∀ (k : Nat) (x : Val) (L : List Val), v.ps[k]? = some x → Ls[k]? = some L → x ∈ L
 | 0, _ => by
  refine ⟨by rw [List.take_zero]; simp [prodV], fun v => ?_⟩
  rw [List.take_zero]
  show v ∈ [Val.zero] ↔ _
  rw [List.mem_singleton]
  constructor
  ·rintro rfl; exact ⟨rfl, rfl, rfl, rfl, by intro k x L h; cases h⟩
  rintro ⟨h1, h2, h3, h4, -⟩
  exact Val.ext_ h1 h2 (List.length_eq_zero_iff.1 h4) h3
 | i + 1, hi => by
  obtain ⟨M, hM⟩ := get_lt (show i < Ls.length by omega)
  obtain ⟨ih1, ih2⟩ := prods_take hL i (by omega)
  rw [prodV_take hM]
  generalize prodV (Ls.take i) = out at ih1 ih2 ⊢
  refine ⟨?_, fun v => ?_⟩
  ·refine List.pairwise_flatMap.2 ⟨fun u hu => map_nodup (hL M (List.mem_of_getElem? hM)) fun x _ y _ e => ?_, ih1.imp_of_mem fun {u w} hu hw hne x hx y hy e => ?_⟩
   ·have := congrArg Val.ps e
    exact List.singleton_inj.1 (List.append_cancel_left this)
   subst e
   obtain ⟨q, -, e1⟩ := List.mem_map.1 hx
   obtain ⟨q', -, e2⟩ := List.mem_map.1 hy
   have n2 : u.ps = w.ps := List.append_inj_left' (congrArg Val.ps (e1.trans e2.symm)) rfl
   obtain ⟨a1, a2, a3, -⟩ := (ih2 u).1 hu
   obtain ⟨b1, b2, b3, -⟩ := (ih2 w).1 hw
   exact hne (Val.ext_ (a1.trans b1.symm) (a2.trans b2.symm) n2 (a3.trans b3.symm))
  unfold stepV
  rw [List.mem_flatMap]
  constructor
  ·rintro ⟨u, hu, hv⟩
   obtain ⟨h1, h2, h3, h4, h5⟩ := (ih2 u).1 hu
   obtain ⟨q, hq, rfl⟩ := List.mem_map.1 hv
   refine ⟨rfl, rfl, rfl, by show (u.ps ++ [q]).length = i + 1; simp [h4], fun k x L hx hl => ?_⟩
   have hx : (u.ps ++ [q])[k]? = some x := hx
   rcases Nat.lt_or_ge k u.ps.length with hk | hk
   ·rw [List.getElem?_append_left hk] at hx
    exact h5 k x L hx hl
   rw [List.getElem?_append_right hk] at hx
   have hk0 : k - u.ps.length = 0 := by
    rcases Nat.eq_zero_or_pos (k - u.ps.length) with h | h
    ·exact h
    rw [List.getElem?_eq_none (by simp; omega)] at hx; cases hx
   rw [hk0] at hx
   cases hx
   rw [show k = i by omega, hM] at hl
   cases hl
   exact hq
  rintro ⟨h1, h2, h3, h4, h5⟩
  rcases List.eq_nil_or_concat v.ps with hp | ⟨ps', q, hp⟩
  ·rw [hp] at h4; cases h4
  rw [List.concat_eq_append] at hp
  have hl : ps'.length = i := by rw [hp] at h4; simpa using h4
  refine ⟨.mk 0 [] ps' [], (ih2 _).2 ⟨rfl, rfl, rfl, hl, fun k x L hx hl' => h5 k x L (by
   have hx : ps'[k]? = some x := hx
   rw [hp, List.getElem?_append_left (List.getElem?_eq_some_iff.1 hx).1]; exact hx) hl'⟩, List.mem_map.2 ⟨q, h5 i q M (by rw [hp, ← hl]; simp) hM, Val.ext_ h1.symm h2.symm hp.symm h3.symm⟩⟩
theorem prods_lists {Ls : List (List Val)} (hL : ∀ L ∈ Ls, L.Nodup) : Lists (prodV Ls) fun v => v.N = 0 ∧ v.nm = [] ∧ v.es = [] ∧ v.ps.length = Ls.length ∧ ∀ (k : Nat) (x : Val) (L : List Val), v.ps[k]? = some x → Ls[k]? = some L → x ∈ L := by
 have := prods_take hL Ls.length (Nat.le_refl _)
 rwa [List.take_length] at this

/-! ### all of them -/
theorem fin_nm {l : Lat} (h : finB l = true) (hk : l.k = 4 ∨ l.k = 8 ∨ l.k = 5) : l.nm ≠ [] := fun e => by
 rw [finB_eq, e] at h
 rcases hk with hk | hk | hk <;> rw [hk] at h <;> simp at h
theorem fin_part {l : Lat} (h : finB l = true) : ∀ q ∈ l.ps, finB q = true := by
 rw [finB_eq, Bool.and_eq_true, List.all_eq_true] at h
 exact h.2
theorem closed_nm {l : Lat} (hO : OkL l) (hk : l.k = 10) : l.nm ≠ [] := fun e => by
 have h := hO.shape
 unfold shapeX at h
 rw [if_pos (by rw [hk]; decide)] at h
 have : emptyB l = true := by unfold emptyB; rw [hk, e]; rfl
 rw [this, Bool.or_true] at h
 cases h
theorem all_spec (l : Lat) (hO : OkL l) (hF : finB l = true) (L : List Val) (h : allV l = some L) : Lists L fun v => elemB v l = true := by
 rw [allV_eq] at h
 unfold allK at h
 have hr := ranges_ok hO
 obtain ⟨hsv, hso⟩ := spell_all hO
 have nu : ∀ {v : Val} {n li pa en : Bool}, usedB v n li pa en = true ↔ (n = true ∨ v.N = 0) ∧ (li = true ∨ v.nm = []) ∧ (pa = true ∨ v.ps = []) ∧ (en = true ∨ v.es = []) := used_iff
 have prodCase : (l.k = 6 ∨ l.k = 7) → Lists L fun v => elemB v l = true := by
  intro hk67
  rw [if_neg (by omega), if_neg (by omega), if_neg (by omega), if_neg (by omega), if_neg (by omega), if_neg (by omega)] at h
  cases ho : allO (l.ps.map allV) with
  | none => rw [ho] at h; cases h
  | some Ls =>
   rw [ho] at h
   obtain ⟨rfl, -⟩ := capV_some h
   have hLs := allO_some ho
   have hlen : Ls.length = l.ps.length := by have := congrArg List.length hLs; simpa using this.symm
   have hat : ∀ {k : Nat} {q : Lat} {M : List Val}, l.ps[k]? = some q → Ls[k]? = some M → allV q = some M := fun {k q M} e1 e2 => by
    have := congrArg (fun z => z[k]?) hLs
    simp only [List.getElem?_map, e1, e2, Option.map_some] at this
    exact Option.some.inj this
   have hin : ∀ {k : Nat} {q : Lat} {M : List Val}, l.ps[k]? = some q → Ls[k]? = some M → Lists M fun v => elemB v q = true := fun {k q M} e1 e2 => all_spec q (hO.part q (List.mem_of_getElem? e1)) (fin_part hF q (List.mem_of_getElem? e1)) M (hat e1 e2)
   refine (prods_lists fun M hM => ?_).iff fun v => ?_
   ·obtain ⟨k, hkM⟩ := List.getElem?_of_mem hM
    obtain ⟨q, hq⟩ := get_lt (show k < l.ps.length by rw [← hlen]; exact (List.getElem?_eq_some_iff.1 hkM).1)
    exact (hin hq hkM).1
   constructor
   ·rintro ⟨h1, h2, h3, h4, h5⟩
    refine mk_prod hk67 h1 h2 h3 (h4.trans hlen) ((elemZ_iff (h4.trans hlen)).2 fun k x q hx hq => ?_)
    obtain ⟨M, hM⟩ := get_lt (show k < Ls.length by rw [hlen]; exact (List.getElem?_eq_some_iff.1 hq).1)
    exact ((hin hq hM).2 x).1 (h5 k x M hx hM)
   intro hv
   obtain ⟨h1, h2, h3, h4, h5⟩ := el_prod hv hk67
   refine ⟨h1, h2, h3, h4.trans hlen.symm, fun k x M hx hM => ?_⟩
   obtain ⟨q, hq⟩ := get_lt (show k < l.ps.length by rw [← hlen]; exact (List.getElem?_eq_some_iff.1 hM).1)
   exact ((hin hq hM).2 x).2 ((elemZ_iff h4).1 h5 k x q hx hq)
 rcases kinds hO with hk | hk | hk | hk | hk | hk | hk | hk | hk | hk
 ·rw [if_pos hk] at h; cases h
  refine (nums_lists 0 2).iff fun v => ?_
  rw [elemB_eq, hk]
  simp [nu]
  constructor
  ·rintro ⟨h1, h2, h3⟩; exact ⟨h3, by omega⟩
  rintro ⟨h3, h1⟩; exact ⟨by omega, by omega, h3⟩
 ·rw [if_neg (by omega), if_pos (.inl hk)] at h
  split at h
  ·cases h
  cases h
  refine (nums_lists l.lo _).iff fun v => ?_
  rw [elemB_eq, hk]
  simp [nu]
  constructor
  ·rintro ⟨h1, h2, h3⟩; exact ⟨⟨h3, h1⟩, by omega⟩
  rintro ⟨⟨h3, h1⟩, h2⟩; exact ⟨h1, by omega, h3⟩
 ·rw [if_neg (by omega), if_pos (.inr hk)] at h
  split at h
  ·cases h
  cases h
  refine (nums_lists l.lo _).iff fun v => ?_
  rw [elemB_eq, hk]
  simp [nu]
  constructor
  ·rintro ⟨h1, h2, h3⟩; exact ⟨⟨h3, h1⟩, by omega⟩
  rintro ⟨⟨h3, h1⟩, h2⟩; exact ⟨h1, by omega, h3⟩
 ·rw [if_neg (by omega), if_neg (by omega), if_pos hk] at h
  split at h
  ·cases h
   have hs := hso.resolve_left (by omega)
   have h0 := fin_nm hF (.inl hk)
   refine (subs_lists _ (nodup_of hs)).iff fun v => ?_
   constructor
   ·rintro ⟨h1, h2, h3, h4, -⟩
    obtain ⟨h5, h6⟩ := (names_sub h0 hsv hs).2 h4
    exact mk_set hk h1 h2 h3 h5 h6
   intro hv
   obtain ⟨h1, h2, h3, h4, h5, -⟩ := el_set hv (.inl hk)
   exact ⟨h1, h2, h3, (names_sub h0 hsv hs).1 ⟨h4, h5⟩, rfl⟩
  cases h
 ·rw [if_neg (by omega), if_neg (by omega), if_neg (by omega), if_neg (by omega), if_neg (by omega), if_pos hk] at h
  obtain ⟨q, hq⟩ := shape_56 hO hk
  rw [hq] at h
  simp only [List.map_cons] at h
  cases ha : allV q with
  | none => rw [ha] at h; cases h
  | some La =>
   rw [ha] at h
   obtain ⟨rfl, -⟩ := capV_some h
   have hqm : q ∈ l.ps := by rw [hq]; simp
   obtain ⟨i1, i2⟩ := all_spec q (hO.part q hqm) (fin_part hF q hqm) La ha
   have hs := hso.resolve_left (by omega)
   have h0 := fin_nm hF (.inr (.inr hk))
   have hfm : ∀ p, p ∈ fmV q La ↔ elemB p q = true ∧ p ≠ bottomV q := fun p => by
    unfold fmV
    rw [List.mem_filter, i2, Bool.not_eq_true', Bool.eq_false_iff]
    exact ⟨fun ⟨a, b⟩ => ⟨a, fun e => b ((eqV_iff _ _).2 e)⟩, fun ⟨a, b⟩ => ⟨a, fun e => b ((eqV_iff _ _).1 e)⟩⟩
   refine (maps_lists (i1.filter _) (nodup_of hs)).iff fun v => ?_
   constructor
   ·rintro ⟨h1, h2, h3, h4, h5⟩
    obtain ⟨h6, h7⟩ := (names_sub h0 hsv hs).2 h4
    exact mk_map hk hq h1 h2 h3 h6 h7 fun p hp => (hfm p).1 (h5 p hp)
   intro hv
   obtain ⟨h1, h2, h3, h4, h5, h6⟩ := el_map hv hk hq
   exact ⟨h1, h2, h3, (names_sub h0 hsv hs).1 ⟨h4, h5⟩, fun p hp => (hfm p).2 (h6 p hp)⟩
 ·exact prodCase (.inl hk)
 ·exact prodCase (.inr hk)
 ·rw [if_neg (by omega), if_neg (by omega), if_neg (by omega), if_neg (by omega), if_pos hk] at h
  cases h
  have hs := hso.resolve_left (by omega)
  have h0 := fin_nm hF (.inr (.inl hk))
  refine ⟨?_, fun v => ?_⟩
  ·unfold flatV
   refine List.nodup_append.2 ⟨by simp [Val.zero], map_nodup (nodup_of hs) fun x _ y _ e => by cases e; rfl, fun a ha b hb e => ?_⟩
   obtain ⟨s, -, rfl⟩ := List.mem_map.1 hb
   subst e
   simp [Val.zero] at ha
  unfold flatV
  rw [List.mem_append, List.mem_map]
  constructor
  ·rintro (hv | ⟨s, hs', rfl⟩)
   ·simp at hv
    rcases hv with rfl | rfl <;> rw [elemB_eq, hk] <;> rfl
   have := (okName_fin h0 hsv).2 hs'
   rw [elemB_eq, hk]
   simp [used_iff, allowedB, sortedB, Val.N, Val.nm, Val.ps, Val.es, this]
  intro hv
  rcases el_flat hv hk with ⟨h1, h2⟩ | ⟨-, s, rfl, hs'⟩
  ·rw [h2]
   rcases h1 with h1 | h1 <;> rw [h1] <;> exact .inl (by simp [Val.zero])
  exact .inr ⟨s, (okName_fin h0 hsv).1 hs', rfl⟩
 ·exfalso
  rw [finB_eq, hk] at hF
  simp at hF
 rw [if_neg (by omega), if_neg (by omega), if_neg (by omega), if_pos hk] at h
 obtain ⟨rfl, -⟩ := capV_some h
 have hs := hso.resolve_left (by omega)
 have h0 := closed_nm hO hk
 refine (subs_lists _ (nodup_of hs)).iff fun v => ?_
 constructor
 ·rintro ⟨h1, h2, h3, h4, h5⟩
  obtain ⟨h6, h7⟩ := (names_sub h0 hsv hs).2 h4
  exact mk_closed hk h1 h2 h3 h6 h7 h5
 intro hv
 obtain ⟨h1, h2, h3, h4, h5, h6⟩ := el_set hv (.inr hk)
 exact ⟨h1, h2, h3, (names_sub h0 hsv hs).1 ⟨h4, h5⟩, h6 hk⟩
termination_by l
decreasing_by all_goals first | exact Lat.sizeOf_ps hqm | exact Lat.sizeOf_ps (List.mem_of_getElem? e1)
end Go.Proofs.YtaecccdkjmipeaaGreat

namespace Go.Proofs.YtaecccdkjmipeaaGreat
open Go.RowKit

theorem allO_map : ∀ Ls : List (List Val), allO (Ls.map some) = some Ls
 | [] => rfl
 | L :: r => by
  show (match allO (r.map some) with | some Ls => some (L :: Ls) | none => none) = _
  rw [allO_map r]
theorem when_no {b : Bool} {e : Int} (h : whenE b e = 0) (he : e ≠ 0) : b = false := by
 unfold whenE at h
 cases b
 ·rfl
 exact absurd h he
theorem capV_none {L : List Val} (h : capV L = none) : 256 < L.length := by
 unfold capV at h
 split at h
 ·cases h
 omega
theorem first_big {f : Nat → Nat} (h0 : f 0 ≤ 256) : ∀ n, 256 < f n → ∃ i0, i0 < n ∧ (∀ i, i ≤ i0 → f i ≤ 256) ∧ 256 < f (i0 + 1) := fun n => by
 induction n using Nat.strongRecOn with
 | ind n ih =>
  intro h
  cases n with
  | zero => omega
  | succ n =>
   by_cases ha : ∀ i, i ≤ n → f i ≤ 256
   ·exact ⟨n, by omega, ha, h⟩
   obtain ⟨i, hi⟩ := Classical.not_forall.1 ha
   obtain ⟨hi, hf⟩ := Classical.not_imp.1 hi
   obtain ⟨i0, h1, h2, h3⟩ := ih i (by omega) (by omega)
   exact ⟨i0, by omega, h2, h3⟩
theorem mono_of {f : Nat → Nat} {n : Nat} (h : ∀ i, i < n → f i ≤ f (i + 1)) {i j : Nat} (hij : i ≤ j) (hj : j ≤ n) : f i ≤ f j := by
 induction j with
 | zero =>
  obtain rfl : i = 0 := by omega
  exact Nat.le_refl _
 | succ j ih =>
  rcases Nat.lt_or_ge i (j + 1) with h1 | h1
  ·exact Nat.le_trans (ih (by omega) (by omega)) (h j (by omega))
  obtain rfl : i = j + 1 := by omega
  exact Nat.le_refl _
theorem all_256 {l : Lat} (hO : OkL l) {L : List Val} (h : allV l = some L) : L.length ≤ 256 := by
 rw [allV_eq] at h
 unfold allK at h
 have h32 : l.nm.length ≤ 32 := by
  have h1 := when_no hO.four.1 (by decide)
  simp only [Bool.or_eq_false_iff, decide_eq_false_iff_not] at h1
  have : mostN l.k ≤ 32 := by unfold mostN; split <;> (try split) <;> omega
  omega
 split at h
 ·cases h; decide
 split at h
 ·split at h
  ·cases h
  cases h; rw [numsV_len]; omega
 split at h
 ·split at h
  ·cases h; exact subsV_256 ‹_›
  cases h
 split at h
 ·obtain ⟨rfl, h3⟩ := capV_some h; exact h3
 split at h
 ·cases h; rw [flatV_len]; omega
 split at h
 ·split at h
  ·obtain ⟨rfl, h3⟩ := capV_some h; exact h3
  cases h
 split at h
 ·obtain ⟨rfl, h3⟩ := capV_some h; exact h3
 cases h
theorem all_bot {l : Lat} (hO : OkL l) (hF : finB l = true) {L : List Val} (h : allV l = some L) : bottomV l ∈ L := ((all_spec l hO hF L h).2 _).2 (bot_elem l hO)
/-- where the parts' lists first fail, or become too many -/
theorem prod_fail {As : List (Option (List Val))} (h : allO As = none ∨ ∃ Ls, allO As = some Ls ∧ 256 < (prodV Ls).length) : ∀ (d : Nat) (Ls : List (List Val)), Ls.length + d = As.length → (∀ (i : Nat) (L : List Val), Ls[i]? = some L → As[i]? = some (some L)) → (∀ i : Nat, i ≤ Ls.length → (prodV (Ls.take i)).length ≤ 256) →
  ∃ Ms : List (List Val), Ms.length < As.length ∧ (∀ (i : Nat) (L : List Val), Ms[i]? = some L → As[i]? = some (some L)) ∧ (As[Ms.length]? = some none ∨ ∃ L, As[Ms.length]? = some (some L) ∧ 256 < (prodV Ms).length * L.length) ∧ ∀ i, i ≤ Ms.length → (prodV (Ms.take i)).length ≤ 256
 | 0, Ls, hl, hA, h256 => by
  exfalso
  have e : As = Ls.map some := List.ext_getElem? fun i => by
   rw [List.getElem?_map]
   cases hx : Ls[i]? with
   | none =>
    rw [List.getElem?_eq_none_iff] at hx
    exact List.getElem?_eq_none (by omega)
   | some L => exact hA i L hx
  rw [e, allO_map] at h
  rcases h with h | ⟨Ms, h1, h2⟩
  ·cases h
  cases h1
  have := h256 _ (Nat.le_refl _)
  rw [List.take_length] at this
  omega
 | d + 1, Ls, hl, hA, h256 => by
  obtain ⟨A, hAi⟩ := get_lt (show Ls.length < As.length by omega)
  cases A with
  | none => exact ⟨Ls, by omega, hA, .inl hAi, h256⟩
  | some L =>
   by_cases hb : 256 < (prodV Ls).length * L.length
   ·exact ⟨Ls, by omega, hA, .inr ⟨L, hAi, hb⟩, h256⟩
   refine prod_fail h d (Ls ++ [L]) (by simp; omega) (fun i M hM => ?_) fun i hi => ?_
   ·rcases Nat.lt_or_ge i Ls.length with h1 | h1
    ·rw [List.getElem?_append_left h1] at hM; exact hA i M hM
    have := (List.getElem?_eq_some_iff.1 hM).1
    rw [List.length_append, List.length_singleton] at this
    obtain rfl : i = Ls.length := by omega
    rw [List.getElem?_append_right (Nat.le_refl _), Nat.sub_self] at hM
    cases hM; exact hAi
   rcases Nat.lt_or_ge i (Ls.length + 1) with h1 | h1
   ·rw [List.take_append_of_le_length (by omega)]; exact h256 i (by omega)
   obtain rfl : i = Ls.length + 1 := by simp at hi; omega
   rw [prodV_take (i := Ls.length) (L := L) (by simp), List.take_left, stepV_len]
   omega
abbrev GA_ (l : Lat) : Prop := (∀ L, allV l = some L → GV 48 [.agg (latL l)] L 0 1) ∧ (allV l = none → FC Tryz.prog 48 [.agg (latL l)] (.tup [.sl [] none, bl false]))
theorem parts_pos {l : Lat} (hO : OkL l) (hk : l.k = 6 ∨ l.k = 7) : 0 < l.ps.length := by
 rcases hk with hk | hk
 ·have h := hO.shape
  unfold shapeX at h
  rw [if_pos (by rw [hk]; decide)] at h
  have hb : (badB l || emptyB l) = false := by
   cases hb : (badB l || emptyB l)
   ·rfl
   rw [hb] at h; simp [whenE] at h
  simp [badB, emptyB, partsN, hk] at hb
  have := hb.2
  have h3 := hb.1.1.1
  have : 0 < l.nm.length := List.length_pos_iff.2 this
  omega
 obtain ⟨p, q, h⟩ := shape_72 hO.shape hk
 rw [h]; exact Nat.succ_pos _
theorem all_s (l : Lat) (hc : checkX l = 0) (hF : finB l = true) (ih : ∀ q ∈ l.ps, GA_ q) : GA_ l := by
 have hO := check_ok hc
 have hr := ranges_ok hO
 have hsm := hO.small
 have hrng := when_no hO.four.2.2.1 (by decide)
 simp only [Bool.or_eq_false_iff, decide_eq_false_iff_not] at hrng
 have hlim := when_no hO.four.1 (by decide)
 simp only [Bool.or_eq_false_iff, decide_eq_false_iff_not] at hlim
 have hlim := hlim.1
 have hpp := parts_pos hO
 have key : ∀ L, allV l = some L → L.length ≤ 256 := fun L h => all_256 hO h
 have he := allV_eq l
 have hkd := kinds hO
 have h56 := fun hk => shape_56 hO hk
 have hbt : ∀ q ∈ l.ps, ∀ L, allV q = some L → L.length ≤ 256 ∧ 0 < L.length := fun q hq L h =>
  ⟨all_256 (hO.part q hq) h, List.length_pos_of_mem (all_bot (hO.part q hq) (fin_part hF q hq) h)⟩
 have hch : ∀ q ∈ l.ps, checkX q = 0 := fun q hq => check_part hc hq
 have hnm := fin_nm hF
 cases l with
 | mk k lo hi nm ps rs =>
 simp only [Lat.k, Lat.lo, Lat.hi, Lat.nm, Lat.ps, Lat.rs] at *
 unfold allK at he
 have prodCase : (k = 6 ∨ k = 7) → GA_ (.mk k lo hi nm ps rs) := by
  intro hk67
  have e := he
  rw [if_neg (by omega), if_neg (by omega), if_neg (by omega), if_neg (by omega), if_neg (by omega), if_neg (by omega)] at e
  have hp0 : 0 < ps.length := hpp (by omega)
  have hat : ∀ (i : Nat) (p : Lat) (L : List Val), ps[i]? = some p → (ps.map allV)[i]? = some (some L) → GV 48 [.agg (latL p)] L 0 1 := fun i p L h1 h2 => by
   rw [List.getElem?_map, h1] at h2
   exact (ih p (List.mem_of_getElem? h1)).1 L (Option.some.inj h2)
  have h256L : ∀ (i : Nat) (L : List Val), (ps.map allV)[i]? = some (some L) → L.length ≤ 256 ∧ 0 < L.length := fun i L h => by
   obtain ⟨p, hp⟩ := get_lt (show i < ps.length by have := (List.getElem?_eq_some_iff.1 h).1; simpa using this)
   rw [List.getElem?_map, hp] at h
   exact hbt p (List.mem_of_getElem? hp) L (Option.some.inj h)
  have bad : (allO (ps.map allV) = none ∨ ∃ Ls, allO (ps.map allV) = some Ls ∧ 256 < (prodV Ls).length) → FC Tryz.prog 78 [.sl (ps.map latC) none] (.tup [.sl [] none, bl false]) := fun h => by
   obtain ⟨Ms, h1, h2, h3, h4⟩ := prod_fail h (ps.map allV).length [] (by simp) (by intro i L h; cases h) (by intro i hi; simp [prodV])
   rw [List.length_map] at h1
   refine productsN_fc ps Ms Ms.length h1 rfl (fun i p L e1 e2 => hat i p L e1 (h2 i L e2)) (fun p hp => ?_) h4 (fun L hL => ?_) (by omega)
   ·rw [List.getElem?_map, hp] at h3
    rcases h3 with h3 | ⟨L, h3, h5⟩
    ·exact .inl ((ih p (List.mem_of_getElem? hp)).2 (Option.some.inj h3))
    have h3 := Option.some.inj h3
    exact .inr ⟨L, (ih p (List.mem_of_getElem? hp)).1 L h3, (hbt p (List.mem_of_getElem? hp) L h3).1, h5⟩
   obtain ⟨i, hi⟩ := List.getElem?_of_mem hL
   exact (h256L i L (h2 i L hi)).1
  have good : ∀ Ls, allO (ps.map allV) = some Ls → (prodV Ls).length ≤ 256 → GV 78 [.sl (ps.map latC) none] (prodV Ls) 0 1 := fun Ls h h256 => by
   have hm := allO_some h
   have hl : Ls.length = ps.length := by have := congrArg List.length hm; simpa using this.symm
   have hA : ∀ (i : Nat) (L : List Val), Ls[i]? = some L → (ps.map allV)[i]? = some (some L) := fun i L h => by rw [hm, List.getElem?_map, h]; rfl
   have mono : ∀ i, i < Ls.length → (prodV (Ls.take i)).length ≤ (prodV (Ls.take (i + 1))).length := fun i hi => by
    obtain ⟨M, hM⟩ := get_lt hi
    rw [prodV_take hM, stepV_len]
    exact Nat.le_mul_of_pos_right _ (h256L i M (hA i M hM)).2
   exact gv_norm (products_gx ps Ls hp0 hl (fun i p L e1 e2 => hat i p L e1 (hA i L e2)) (fun i hi => by
    have := mono_of (f := fun i => (prodV (Ls.take i)).length) mono hi (Nat.le_refl _)
    refine Nat.le_trans this ?_
    show (prodV (Ls.take Ls.length)).length ≤ 256
    rw [List.take_length]; exact h256) (fun L hL => by
    obtain ⟨i, hi⟩ := List.getElem?_of_mem hL
    exact (h256L i L (hA i L hi)).1) (by omega))
  rw [GA_, e]
  cases ho : allO (ps.map allV) with
  | none =>
   have hb := bad (.inl ho)
   rcases hk67 with rfl | rfl
   ·exact ⟨fun L h => (by cases h), fun _ => allProd6N_fc lo hi nm ps rs hb⟩
   exact ⟨fun L h => (by cases h), fun _ => allProd7N_fc lo hi nm ps rs hb⟩
  | some Ls =>
   show (∀ L, capV (prodV Ls) = some L → _) ∧ (capV (prodV Ls) = none → _)
   have hg := good Ls ho
   have hb : capV (prodV Ls) = none → _ := fun h => bad (.inr ⟨Ls, ho, capV_none h⟩)
   have hs : ∀ L, capV (prodV Ls) = some L → L = prodV Ls ∧ (prodV Ls).length ≤ 256 := fun L h => ⟨(capV_some h).1.symm, (capV_some h).2⟩
   rcases hk67 with rfl | rfl
   ·exact ⟨fun L h => by rw [(hs L h).1]; exact gv_norm (allProd6_gx lo hi nm ps rs _ (hg (hs L h).2)), fun h => allProd6N_fc lo hi nm ps rs (hb h)⟩
   exact ⟨fun L h => by rw [(hs L h).1]; exact gv_norm (allProd7_gx lo hi nm ps rs _ (hg (hs L h).2)), fun h => allProd7N_fc lo hi nm ps rs (hb h)⟩
 rcases hkd with rfl | rfl | rfl | rfl | rfl | hk67 | hk67 | rfl | rfl | rfl
 ·rw [if_pos rfl] at he
  rw [GA_, he]
  exact ⟨fun L h => by cases h; exact gv_norm (allFlagG_gx _ _ _ _ _), fun h => by cases h⟩
 ·rw [if_neg (by decide), if_pos (.inl rfl)] at he
  rw [GA_, he]
  by_cases hb : hi - lo ≥ 256
  ·rw [if_pos hb]
   exact ⟨fun L h => (by cases h), fun _ => allMaxN_fc _ _ _ _ _ hb (by omega) (by omega)⟩
  rw [if_neg hb]
  exact ⟨fun L h => by cases h; exact gv_norm (allMaxG_gx _ _ _ _ _ _ (by omega) (by omega) (by omega) (by omega)), fun h => by cases h⟩
 ·rw [if_neg (by decide), if_pos (.inr rfl)] at he
  rw [GA_, he]
  by_cases hb : hi - lo ≥ 256
  ·rw [if_pos hb]
   exact ⟨fun L h => (by cases h), fun _ => allMinN_fc _ _ _ _ _ hb (by omega) (by omega)⟩
  rw [if_neg hb]
  exact ⟨fun L h => by cases h; exact gv_norm (allMinG_gx _ _ _ _ _ _ (by omega) (by omega) (by omega) (by omega)), fun h => by cases h⟩
 ·rw [if_neg (by decide), if_neg (by decide), if_pos rfl] at he
  rw [GA_, he]
  by_cases hb : nm.length ≤ 8
  ·rw [if_pos hb]
   exact ⟨fun L h => by cases h; exact gv_norm (allSet_gx _ _ _ _ _ hb), fun h => by cases h⟩
  rw [if_neg hb]
  exact ⟨fun L h => (by cases h), fun _ => allSetN_fc _ _ _ _ _ (by omega)⟩
 ·rw [if_neg (by decide), if_neg (by decide), if_neg (by decide), if_neg (by decide), if_neg (by decide), if_pos rfl] at he
  obtain ⟨q, hq⟩ := h56 rfl
  subst hq
  have hn32 : nm.length ≤ 32 := by have : mostN 5 = 32 := rfl; omega
  have hn0 : 0 < nm.length := List.length_pos_iff.2 (hnm (.inr (.inr rfl)))
  simp only [List.map_cons] at he
  rw [GA_, he]
  obtain ⟨i1, i2⟩ := ih q (by simp)
  cases ha : allV q with
  | none => exact ⟨fun L h => (by cases h), fun _ => allMapA_fc _ _ _ _ _ (i2 ha)⟩
  | some La =>
   have hLa := (hbt q (by simp) La ha).1
   have hFM : (fmV q La).length ≤ 256 := Nat.le_trans (List.length_filter_le _ _) hLa
   have mono : ∀ i, i < nm.length → (mapsV (nm.take i) (fmV q La)).length ≤ (mapsV (nm.take (i + 1)) (fmV q La)).length := fun i hi => by
    obtain ⟨key, hk⟩ := get_lt hi
    rw [mapsV_take hk, stepM_len]
    exact Nat.le_mul_of_pos_right _ (Nat.succ_pos _)
   have hfull : (mapsV (nm.take nm.length) (fmV q La)).length = (mapsV nm (fmV q La)).length := by rw [List.take_length]
   show (∀ L, capV (mapsV nm (fmV q La)) = some L → _) ∧ (capV (mapsV nm (fmV q La)) = none → _)
   constructor
   ·intro L h
    obtain ⟨rfl, h256⟩ := capV_some h
    exact gv_norm (allMap_gx lo hi nm q rs (hch q (by simp)) La (i1 La ha) (by omega) hn0 (by omega) hFM (fun i hi => by
     have := mono_of (f := fun i => (mapsV (nm.take i) (fmV q La)).length) mono hi (Nat.le_refl _)
     exact Nat.le_trans this (by rw [hfull]; exact h256)))
   intro h
   have hbig := capV_none h
   rw [← hfull] at hbig
   obtain ⟨i0, h1, h2, h3⟩ := first_big (f := fun i => (mapsV (nm.take i) (fmV q La)).length) (by simp [mapsV]) nm.length hbig
   exact allMapB_fc lo hi nm q rs (hch q (by simp)) La (i1 La ha) (by omega) i0 h1 (by omega) hFM h2 h3
 ·exact prodCase (.inl hk67)
 ·exact prodCase (.inr hk67)
 ·rw [if_neg (by decide), if_neg (by decide), if_neg (by decide), if_neg (by decide), if_pos rfl] at he
  rw [GA_, he]
  exact ⟨fun L h => by cases h; exact gv_norm (allFlat_gx _ _ _ _ _ (by have : mostN 8 = 32 := rfl; omega)), fun h => by cases h⟩
 ·rw [finB_eq] at hF; simp [Lat.k] at hF
 rw [if_neg (by decide), if_neg (by decide), if_neg (by decide), if_pos rfl] at he
 rw [GA_, he]
 have h12 : nm.length ≤ 12 := by have : mostN 10 = 12 := rfl; omega
 constructor
 ·intro L h
  obtain ⟨rfl, h256⟩ := capV_some h
  exact gv_norm (allClosed_gx _ _ _ _ _ h12 h256)
 intro h
 exact allClosedN_fc _ _ _ _ _ h12 (capV_none h)
theorem all_fc (l : Lat) (hc : checkX l = 0) (hF : finB l = true) : GA_ l := all_s l hc hF fun q hq => all_fc q (check_part hc hq) (fin_part hF q hq)
termination_by l
decreasing_by exact Lat.sizeOf_ps hq

/-! ### Values, Count -/
/-- the elements in order -/
def srtV (L : List Val) : List Val := L.mergeSort fun x y => decide (cmpVal x y ≤ 0)
theorem srtV_perm (L : List Val) : (srtV L).Perm L := List.mergeSort_perm _ _
theorem srtV_le (L : List Val) : (srtV L).Pairwise fun x y => cmpVal x y ≤ 0 := by
 have := List.pairwise_mergeSort (le := fun x y : Val => decide (cmpVal x y ≤ 0)) (fun a b c h1 h2 => by
  simp only [decide_eq_true_eq] at *
  exact cmpVal_ok.trans a b c h1 h2) (fun a b => by
  simp only [Bool.or_eq_true, decide_eq_true_eq]
  have := cmpVal_ok.anti a b
  have := cmpVal_ok.anti b a
  omega) L
 exact this.imp fun h => by simpa using h
def valuesX (l : Lat) : List Val × Int := if checkX l = 0 then (if finB l = true then (match allV l with | some L => (srtV L, 0) | none => ([], 6)) else ([], 4)) else ([], 1)
theorem values_any (l : Lat) : FC Tryz.prog 14 [.agg (latL l)] (.tup [vals (valuesX l).1, i64 (valuesX l).2]) := by
 unfold valuesX
 by_cases hc : checkX l = 0
 ·rw [if_pos hc]
  cases hF : finB l with
  | false => exact valuesE2_fc l hc hF
  | true =>
   rw [if_pos rfl]
   obtain ⟨h1, h2⟩ := all_fc l hc hF
   cases ha : allV l with
   | none => exact valuesE3_fc l hc hF (h2 ha)
   | some L =>
    exact valuesG_fc l hc hF L (srtV L) (h1 L ha) (by have := all_256 (check_ok hc) ha; omega) (srtV_perm L) ((srtV_le L).imp fun h => (cmpVal_ok.anti _ _).1 h)
 rw [if_neg hc]
 exact valuesE1_fc l hc
theorem count_any (l : Lat) : FC Tryz.prog 13 [.agg (latL l)] (.tup [i64 (valuesX l).1.length, i64 (valuesX l).2]) := countG_fc l _ _ (values_any l)
end Go.Proofs.YtaecccdkjmipeaaGreat
