/-
  Plain law: the theorem of Guigues and Duquenne: the canonical basis is equivalent to the rules, and no equivalent list has fewer premises.
-/
import Derived.Test.YthgplaledmccgaaSpec18
import Derived.Test.YthgplaledmccgaaSpec14
namespace Go.Proofs.Ythgplaledmccgaa
section
variable {u : NmL} {a b : List RuleN}
theorem closedN_iff' {rs : List RuleN} {c : NmL} : closedN rs c = true ↔ ∀ r ∈ rs, (∀ x ∈ r.1, x ∈ c) → r.2 ∈ c := by
  unfold closedN
  rw [List.all_eq_true]
  constructor
  · intro h r hr hx
    have := h r hr
    rw [decide_eq_true hx] at this
    simpa using this
  · intro h r hr
    by_cases hx : ∀ x ∈ r.1, x ∈ c
    · simp [h r hr hx]
    · rw [decide_eq_false hx]; rfl
theorem closedN_same {rs : List RuleN} {c d : NmL} (h : ∀ x, x ∈ c ↔ x ∈ d) : closedN rs c = closedN rs d := by
  rw [Bool.eq_iff_iff, closedN_iff', closedN_iff']
  constructor
  · intro H r hr hx
    exact (h _).1 (H r hr fun x hxr => (h x).2 (hx x hxr))
  · intro H r hr hx
    exact (h _).2 (H r hr fun x hxr => (h x).1 (hx x hxr))
/-- the rules of the canonical basis -/
def basisR (u : NmL) (a : List RuleN) : List RuleN := (stemR u a).flatMap fun p => p.2.map fun y => (p.1, y)
theorem mem_stemR {p : NmL × NmL} : p ∈ stemR u a ↔ p.1 ∈ subsetsN u ∧ psN u a p.1 = true ∧ p.2 = closeR u a p.1 := by
  unfold stemR
  rw [List.mem_map]
  constructor
  · rintro ⟨l, hl, rfl⟩
    rw [List.mem_filter] at hl
    exact ⟨hl.1, hl.2, rfl⟩
  · rintro ⟨h1, h2, h3⟩
    exact ⟨p.1, List.mem_filter.2 ⟨h1, h2⟩, by rw [← h3]⟩
theorem mem_basisR {r : RuleN} : r ∈ basisR u a ↔ r.1 ∈ subsetsN u ∧ psN u a r.1 = true ∧ r.2 ∈ closeR u a r.1 := by
  unfold basisR
  rw [List.mem_flatMap]
  constructor
  · rintro ⟨p, hp, hr⟩
    obtain ⟨y, hy, rfl⟩ := List.mem_map.1 hr
    obtain ⟨h1, h2, h3⟩ := mem_stemR.1 hp
    exact ⟨h1, h2, by rw [← h3]; exact hy⟩
  · rintro ⟨h1, h2, h3⟩
    exact ⟨(r.1, closeR u a r.1), mem_stemR.2 ⟨h1, h2, rfl⟩, List.mem_map.2 ⟨r.2, h3, rfl⟩⟩
theorem basisR_rules (h0 : checkE u a = 0) : rulesE u (basisR u a) = 0 := by
  rw [rulesE_ok]
  intro r hr
  obtain ⟨h1, _, h3⟩ := mem_basisR.1 hr
  exact ⟨asc_sublist (checkE_ok.1 h0).2.1 (subsetsN_sublist h1), fun x hx => (subsetsN_sublist h1).subset hx, closeR_sub _ h3⟩
theorem sub_u {c : NmL} (h : c ∈ subsetsN u) : ∀ x ∈ c, x ∈ u := fun x hx => (subsetsN_sublist h).subset hx
/-- a set below which the pseudo-closed sets are closed is closed or pseudo-closed -/
theorem quasi (h0 : checkE u a = 0) {c : NmL} (hc : c ∈ subsetsN u) (h : ∀ k ∈ subsetsN u, psN u a k = true → k.length < c.length → (∀ x ∈ k, x ∈ c) → ∀ x ∈ closeR u a k, x ∈ c) (ho : closedN a c = false) : psN u a c = true := by
  rw [psN_rec h0 hc, ho]
  simp only [Bool.not_false, Bool.true_and, List.all_eq_true]
  intro k hk
  rw [Bool.not_eq_true', Bool.eq_false_iff]
  intro hb
  simp only [Bool.and_eq_true, decide_eq_true_eq, Bool.not_eq_true', decide_eq_false_iff_not] at hb
  exact hb.2 (h k hk hb.1.1.1 hb.1.1.2 hb.1.2)
theorem pseudo_below (h0 : checkE u a = 0) {c : NmL} (hc : c ∈ subsetsN u) (hp : psN u a c = true) {k : NmL} (hk : k ∈ subsetsN u) (hpk : psN u a k = true) (hl : k.length < c.length) (hs : ∀ x ∈ k, x ∈ c) : ∀ x ∈ closeR u a k, x ∈ c := by
  rw [psN_rec h0 hc, Bool.and_eq_true, List.all_eq_true] at hp
  have := hp.2 k hk
  rw [Bool.not_eq_true', Bool.eq_false_iff] at this
  apply Classical.byContradiction
  intro hn
  apply this
  simp only [Bool.and_eq_true, decide_eq_true_eq, Bool.not_eq_true', decide_eq_false_iff_not]
  exact ⟨⟨⟨hpk, hl⟩, hs⟩, hn⟩
theorem basis_closed (h0 : checkE u a = 0) {c : NmL} (hc : c ∈ subsetsN u) (h : closedN (basisR u a) c = true) : closedN a c = true := by
  rw [closedN_iff'] at h
  cases ho : closedN a c with
  | true => rfl
  | false =>
    have hp := quasi h0 hc (fun k hk hpk _ hs x hx => h (k, x) (mem_basisR.2 ⟨hk, hpk, hx⟩) hs) ho
    have hcl : ∀ x ∈ closeR u a c, x ∈ c := fun x hx => h (c, x) (mem_basisR.2 ⟨hc, hp, hx⟩) fun _ h => h
    have e := closedN_same (rs := a) (c := c) (d := closeR u a c) fun x => ⟨closeR_ext h0 (sub_u hc) x, hcl x⟩
    rw [closeR_closed h0 (sub_u hc), ho] at e
    cases e
theorem entR_iff {rs : List RuleN} {r : RuleN} : entR u rs r = true ↔ r.2 ∈ closeR u rs r.1 := by unfold entR; rw [decide_eq_true_eq]
theorem basis_eq (h0 : checkE u a = 0) : eqR u a (basisR u a) = true := by
  have hb : checkE u (basisR u a) = 0 := by rw [checkE_other' h0]; exact basisR_rules h0
  obtain ⟨_, ha, hr⟩ := checkE_ok.1 h0
  unfold eqR
  rw [Bool.and_eq_true, List.all_eq_true, List.all_eq_true]
  constructor
  · intro r hra
    rw [entR_iff]
    have ho := hr r hra
    have hcl := closeR_closed hb ho.2.1
    have := basis_closed h0 (filter_subsetsN u _) hcl
    exact (closedN_iff'.1 this) r hra (closeR_ext hb ho.2.1)
  · intro r hrb
    rw [entR_iff]
    exact (mem_basisR.1 hrb).2.2
/-- equivalent rules have the same closed sets -/
theorem eq_closed (h0 : checkE u a = 0) (hb : checkE u b = 0) (h : eqR u a b = true) {c : NmL} (hc : ∀ x ∈ c, x ∈ u) : closedN a c = true → closedN b c = true := by
  unfold eqR at h
  rw [Bool.and_eq_true, List.all_eq_true, List.all_eq_true] at h
  intro hca
  rw [closedN_iff']
  intro r hr hx
  have := entR_iff.1 (h.2 r hr)
  exact closeR_least h0 ((checkE_ok.1 hb).2.2 r hr).2.1 hc hx hca _ this
/-- the premises of the rules that say something, each once -/
def premF (ps : List NmL) (b : List RuleN) : List NmL := b.foldl (fun ps r => if r.2 ∈ r.1 ∨ r.1 ∈ ps then ps else ps ++ [r.1]) ps
theorem premF_mem (b : List RuleN) (ps : List NmL) : (∀ p ∈ ps, p ∈ premF ps b) ∧ ∀ r ∈ b, r.2 ∉ r.1 → r.1 ∈ premF ps b := by
  induction b generalizing ps with
  | nil => exact ⟨fun _ h => h, by simp⟩
  | cons r b ih =>
    have hk : ∀ p ∈ ps, p ∈ (if r.2 ∈ r.1 ∨ r.1 ∈ ps then ps else ps ++ [r.1]) := by
      intro p hp
      split
      · exact hp
      · exact List.mem_append_left _ hp
    have e : premF ps (r :: b) = premF (if r.2 ∈ r.1 ∨ r.1 ∈ ps then ps else ps ++ [r.1]) b := rfl
    rw [e]
    refine ⟨fun p hp => (ih _).1 p (hk p hp), fun s hs hn => ?_⟩
    rcases List.mem_cons.1 hs with rfl | hs
    · refine (ih _).1 _ ?_
      split
      · next h =>
        rcases h with h | h
        · exact absurd h hn
        · exact h
      · simp
    · exact (ih _).2 s hs hn
theorem nodup_le {α : Type} {l1 l2 : List α} (h1 : l1.Nodup) (h : ∀ x ∈ l1, x ∈ l2) : l1.length ≤ l2.length := by
  induction l1 generalizing l2 with
  | nil => simp
  | cons x t ih =>
    rw [List.nodup_cons] at h1
    obtain ⟨s1, s2, rfl⟩ := List.append_of_mem (h x (by simp))
    have := ih (l2 := s1 ++ s2) h1.2 fun y hy => by
      have hm := h y (by simp [hy])
      rw [List.mem_append, List.mem_cons] at hm
      rw [List.mem_append]
      rcases hm with hm | rfl | hm
      · exact .inl hm
      · exact absurd hy h1.1
      · exact .inr hm
    simp at this ⊢
    omega
theorem subsetsN_of_sublist {u c : NmL} (h : c.Sublist u) : c ∈ subsetsN u := by
  induction h with
  | slnil => simp [subsetsN]
  | cons x _ ih => rw [subsetsN, List.mem_append]; exact .inl ih
  | cons_cons x _ ih => rw [subsetsN, List.mem_append, List.mem_map]; exact .inr ⟨_, ih, rfl⟩
theorem subsets_ext (ha : ascB u = true) {c d : NmL} (hc : c ∈ subsetsN u) (hd : d ∈ subsetsN u) (h : ∀ x, x ∈ c ↔ x ∈ d) : c = d := by
  rw [← subsets_map] at hc hd
  obtain ⟨s, hs, rfl⟩ := List.mem_map.1 hc
  obtain ⟨t, ht, rfl⟩ := List.mem_map.1 hd
  have hs := mem_subsetsB.1 hs
  have ht := mem_subsetsB.1 ht
  rw [← memB_names ha hs, ← memB_names ha ht]
  congr 1
  unfold memB
  apply List.map_congr_left
  intro x _
  rw [decide_eq_decide]
  exact h x
theorem subsetsN_nodup (ha : ascB u = true) : (subsetsN u).Nodup := by
  rw [← subsets_map]
  rw [List.Nodup, List.pairwise_map]
  refine List.Pairwise.imp_of_mem ?_ (subsetsB_sorted u.length)
  intro s t hs ht hlt e
  have hs := mem_subsetsB.1 hs
  have ht := mem_subsetsB.1 ht
  rw [← memB_names ha hs, ← memB_names ha ht, e] at hlt
  omega
/-- two pseudo-closed sets over one premise whose conclusion, a consequence of it, both lack: one lies in the other -/
theorem pseudo_in (h0 : checkE u a = 0) {p q x : NmL} (hp : p ∈ subsetsN u) (hq : q ∈ subsetsN u) (hpp : psN u a p = true) (hqq : psN u a q = true) (hxp : ∀ z ∈ x, z ∈ p) (hxq : ∀ z ∈ x, z ∈ q) {y : List UInt8} (hy : y ∈ closeR u a x) (hyp : y ∉ p) : ∀ z ∈ p, z ∈ q := by
  have hR : (p.filter fun z => decide (z ∈ q)) ∈ subsetsN u := subsetsN_of_sublist ((List.filter_sublist).trans (subsetsN_sublist hp))
  have hmem : ∀ z, z ∈ (p.filter fun z => decide (z ∈ q)) ↔ z ∈ p ∧ z ∈ q := by intro z; simp
  have hxR : ∀ z ∈ x, z ∈ (p.filter fun z => decide (z ∈ q)) := fun z hz => (hmem z).2 ⟨hxp z hz, hxq z hz⟩
  have hlp : (p.filter fun z => decide (z ∈ q)).length ≤ p.length := List.length_filter_le _ _
  have hxu : ∀ z ∈ x, z ∈ u := fun z hz => sub_u hp z (hxp z hz)
  by_cases hlt : (p.filter fun z => decide (z ∈ q)).length < p.length
  · exfalso
    generalize hr : (p.filter fun z => decide (z ∈ q)) = r at *
    have hlq : r.length ≤ q.length := nodup_le (by rw [← hr]; exact ((asc_pair (asc_sublist (checkE_ok.1 h0).2.1 (subsetsN_sublist hp))).imp fun h => bl_ne h).filter _) fun z hz => ((hmem z).1 hz).2
    have hyR : y ∈ closeR u a r := closeR_least h0 hxu closeR_sub (fun z hz => closeR_ext h0 (sub_u hR) z (hxR z hz)) (closeR_closed h0 (sub_u hR)) _ hy
    cases ho : closedN a r with
    | true =>
      exact hyp (((hmem y).1 (closeR_least h0 (sub_u hR) (sub_u hR) (fun _ h => h) ho _ hyR)).1)
    | false =>
      have hps : psN u a r = true := by
        refine quasi h0 hR (fun k hk hpk hl hs z hz => (hmem z).2 ⟨?_, ?_⟩) ho
        · exact pseudo_below h0 hp hpp hk hpk (by omega) (fun w hw => ((hmem w).1 (hs w hw)).1) z hz
        · exact pseudo_below h0 hq hqq hk hpk (by omega) (fun w hw => ((hmem w).1 (hs w hw)).2) z hz
      exact hyp (pseudo_below h0 hp hpp hR hps hlt (fun w hw => ((hmem w).1 hw).1) y hyR)
  · intro z hz
    have : (p.filter fun z => decide (z ∈ q)) = p := (List.filter_sublist).eq_of_length (by omega)
    rw [← this] at hz
    exact ((hmem z).1 hz).2
theorem stem_least (h0 : checkE u a = 0) (hb : checkE u b = 0) (h : eqR u a b = true) : (stemR u a).length ≤ (premF [] b).length := by
  have ha := (checkE_ok.1 h0).2.1
  have hrule : ∀ p, p ∈ (subsetsN u).filter (psN u a) → ∃ r ∈ b, (∀ x ∈ r.1, x ∈ p) ∧ r.2 ∉ p := by
    intro p hp
    rw [List.mem_filter] at hp
    have ho := psN_open h0 hp.1 hp.2
    have hob : closedN b p ≠ true := fun hcb => by
      have h' : eqR u b a = true := by
        unfold eqR at h ⊢
        rw [Bool.and_comm]; exact h
      have := eq_closed hb h0 h' (sub_u hp.1) hcb
      rw [ho] at this; cases this
    apply Classical.byContradiction
    intro hn
    apply hob
    rw [closedN_iff']
    intro r hr hx
    apply Classical.byContradiction
    intro hy
    exact hn ⟨r, hr, hx, hy⟩
  let f : NmL → NmL := fun p => if hp : p ∈ (subsetsN u).filter (psN u a) then (hrule p hp).choose.1 else []
  have hf : ∀ p, p ∈ (subsetsN u).filter (psN u a) → ∃ r ∈ b, f p = r.1 ∧ (∀ x ∈ r.1, x ∈ p) ∧ r.2 ∉ p := by
    intro p hp
    refine ⟨(hrule p hp).choose, (hrule p hp).choose_spec.1, ?_, (hrule p hp).choose_spec.2⟩
    simp only [f, dif_pos hp]
  have hlen : (stemR u a).length = (((subsetsN u).filter (psN u a)).map f).length := by unfold stemR; rw [List.length_map, List.length_map]
  rw [hlen]
  have hent : ∀ r ∈ b, r.2 ∈ closeR u a r.1 := by
    intro r hr
    unfold eqR at h
    rw [Bool.and_eq_true, List.all_eq_true, List.all_eq_true] at h
    exact entR_iff.1 (h.2 r hr)
  refine nodup_le ?_ ?_
  · rw [List.Nodup, List.pairwise_map]
    refine List.Pairwise.imp_of_mem ?_ ((subsetsN_nodup ha).filter _)
    intro p q hp hq hne e
    apply hne
    obtain ⟨r, hr, e1, r1, r2⟩ := hf p hp
    obtain ⟨s, hs, e2, s1, s2⟩ := hf q hq
    rw [List.mem_filter] at hp hq
    rw [e1, e2] at e
    have hrq : ∀ z ∈ r.1, z ∈ q := by rw [e]; exact s1
    have hsp : ∀ z ∈ s.1, z ∈ p := by rw [← e]; exact r1
    exact subsets_ext ha hp.1 hq.1 fun z => ⟨pseudo_in h0 hp.1 hq.1 hp.2 hq.2 r1 hrq (hent r hr) r2 z, pseudo_in h0 hq.1 hp.1 hq.2 hp.2 s1 hsp (hent s hs) s2 z⟩
  · intro x hx
    obtain ⟨p, hp, rfl⟩ := List.mem_map.1 hx
    obtain ⟨r, hr, e1, r1, r2⟩ := hf p hp
    rw [e1]
    exact (premF_mem b []).2 r hr fun hm => r2 (r1 _ hm)
theorem stemR_small (_h0 : checkE u a = 0) : ∀ p ∈ stemR u a, p.1.length ≤ u.length ∧ p.2.length ≤ u.length ∧ ∀ x ∈ p.2, x ∈ u := by
  intro p hp
  obtain ⟨h1, _, h3⟩ := mem_stemR.1 hp
  refine ⟨(subsetsN_sublist h1).length_le, ?_, ?_⟩
  · rw [h3]; exact List.length_filter_le _ _
  · rw [h3]; exact closeR_sub
end
end Go.Proofs.Ythgplaledmccgaa
