/-
  Plain laws: what the entries since a register are to a join, at the description of registers.
-/
import Derived.Test.YthldgioggjpnpaaGreatT3
import Derived.Test.YthldgioggjpnpaaGreatB21
namespace Go.Proofs.YthldgioggjpnpaaGreat
open Go.RowKit
theorem regC : checkX regL = 0 := by decide
theorem regO : OkL regL := check_ok regC
theorem RegOk.sub {a b : List En} (h : RegOk b) (hs : a.Sublist b) : RegOk a :=
 ⟨fun x hx => h.valid x (hs.subset hx), fun x hx => h.ne x (hs.subset hx), fun x hx => h.name x (hs.subset hx), h.sorted.sublist hs, fun x hx y hy => h.anti x (hs.subset hx) y (hs.subset hy)⟩
def regV (es : List En) : Val := .mk 0 [] [] es
theorem reg_parts {v : Val} (h : smallR v = true) : v = regV v.es ∧ v.es.length ≤ 12 ∧ RegOk v.es := by
 unfold smallR validV at h
 simp only [Bool.and_eq_true, decide_eq_true_eq] at h
 obtain ⟨h1, h2, h3, h4⟩ := el_reg h.2.2 rfl
 refine ⟨?_, h.1, h4⟩
 rw [← Val.eta v, h1, h2, h3]
 rfl
theorem reg_el {es : List En} (h : RegOk es) : elemB (regV es) regL = true := by
 unfold regV
 rw [elemB_eq, show regL.k = 9 from rfl]
 simp [used_iff, Val.N, Val.nm, Val.ps]
 exact h.regB_
theorem reg_clk {es : List En} (h : RegOk es) : ∀ e ∈ es, e.1.length ≤ 64 := fun e he => by
 rcases vc_len e.1 (-1) (h.valid e he) with h1 | h1
 ·omega
 rw [h1]; exact Nat.zero_le _
theorem reg_sm {es : List En} (h : RegOk es) (hl : es.length ≤ 12) : SmV 1000 (regV es) :=
 .mk _ (Nat.zero_le _) (Nat.zero_le _) (show es.length ≤ 1000 by omega) (reg_clk h) (fun p hp => by cases hp)
theorem reg_join (a b : List En) : joinV regL (regV a) (regV b) = regV (mergedE a b) := by rw [joinV_eq]; rfl
theorem mem_since {v o : List En} (hv : RegOk v) (ho : RegOk o) (x : En) : x ∈ sinceE v o ↔ x ∈ v ∧ ¬ ∃ y ∈ o, leE x y := by
 unfold sinceE
 rw [List.mem_filter]
 refine and_congr_right fun hx => ?_
 rw [Bool.not_eq_true', Bool.eq_false_iff, ne_eq, covered_iff (hv.valid x hx) ho.valid]
theorem since_ok {v o : List En} (hv : RegOk v) : RegOk (sinceE v o) := hv.sub List.filter_sublist
theorem since_join {v o : List En} (hv : RegOk v) (ho : RegOk o) : mergedE o (sinceE v o) = mergedE o v := by
 have hs := since_ok (o := o) hv
 refine (merged_ok ho hs).ext_ (merged_ok ho hv) fun z => ?_
 rw [merged_mem ho hs, merged_mem ho hv]
 have hm := fun x => mem_since hv ho x
 constructor
 ·rintro (⟨h1, h2⟩ | ⟨h1, h2⟩)
  ·by_cases hc : ∃ y ∈ v, leE z y
   ·obtain ⟨y, hy, hl⟩ := hc
    by_cases hd : ∃ u ∈ o, leE y u
    ·obtain ⟨u, hu, hl2⟩ := hd
     have e := ho.le_eq h1 hu (leE_trans hl hl2)
     subst e
     have e : z = y := by
      rcases hl with hl | e
      ·exact absurd (ltE_leE hl hl2) (ltE_irrefl z)
      exact e
     subst e
     exact .inr ⟨hy, fun ⟨x, hx, hlt⟩ => ho.anti z h1 x hx hlt⟩
    exact absurd ⟨y, (hm y).2 ⟨hy, hd⟩, hl⟩ h2
   exact .inl ⟨h1, hc⟩
  exact .inr ⟨((hm z).1 h1).1, h2⟩
 rintro (⟨h1, h2⟩ | ⟨h1, h2⟩)
 ·exact .inl ⟨h1, fun ⟨y, hy, hl⟩ => h2 ⟨y, ((hm y).1 hy).1, hl⟩⟩
 by_cases hc : ∃ y ∈ o, leE z y
 ·obtain ⟨y, hy, hl⟩ := hc
  rcases hl with hl | e
  ·exact absurd ⟨y, hy, hl⟩ h2
  subst e
  refine .inl ⟨hy, fun ⟨x, hx, hl⟩ => ?_⟩
  obtain ⟨x1, x2⟩ := (hm x).1 hx
  have e := hv.le_eq h1 x1 hl
  subst e
  exact x2 ⟨z, hy, leE_refl z⟩
 exact .inr ⟨(hm z).2 ⟨h1, hc⟩, h2⟩
def lessE (s : List En) (i : Nat) : List En := s.take i ++ s.drop (i + 1)
theorem less_ok {s : List En} (h : RegOk s) (i : Nat) : RegOk (lessE s i) :=
 h.sub (by
  have : (s.take i ++ s.drop (i + 1)).Sublist (s.take i ++ s.drop i) := List.Sublist.append (List.Sublist.refl _) (List.drop_sublist_drop_left s (Nat.le_succ i))
  rwa [List.take_append_drop] at this)
theorem less_len (s : List En) (i : Nat) : (lessE s i).length ≤ s.length := by
 unfold lessE; rw [List.length_append, List.length_take, List.length_drop]; omega
theorem since_needed {v o : List En} (hv : RegOk v) (ho : RegOk o) {i : Nat} (hi : i < (sinceE v o).length) : mergedE o (lessE (sinceE v o) i) ≠ mergedE o v := by
 have hs := since_ok (o := o) hv
 have hm := fun x => mem_since hv ho x
 generalize hse : sinceE v o = s at *
 have hx : s[i] ∈ s := List.getElem_mem hi
 obtain ⟨h1, h2⟩ := (hm s[i]).1 hx
 intro e
 have h3 : s[i] ∈ mergedE o (lessE s i) := by
  rw [e]
  exact (merged_mem ho hv).2 (.inr ⟨h1, fun ⟨y, hy, hl⟩ => h2 ⟨y, hy, .inl hl⟩⟩)
 have hn : s = s.take i ++ s[i] :: s.drop (i + 1) := by
  rw [← List.drop_eq_getElem_cons hi, List.take_append_drop]
 rcases (merged_mem ho (less_ok hs i)).1 h3 with ⟨h4, -⟩ | ⟨h4, -⟩
 ·exact h2 ⟨s[i], h4, leE_refl _⟩
 have hd := hs.nodup
 rw [hn] at hd
 rw [List.nodup_append] at hd
 obtain ⟨h5, h6, h7⟩ := hd
 rcases List.mem_append.1 h4 with h8 | h8
 ·exact h7 _ h8 _ List.mem_cons_self rfl
 exact (List.nodup_cons.1 h6).1 h8
theorem covers_leq {v o : List En} (hv : RegOk v) (ho : RegOk o) : v.all (coveredB o) = leqB regL (regV v) (regV o) := by
 have h1 := coverL_iff hv.valid ho.valid
 have h2 := lq_reg (l := regL) (a := regV v) (b := regV o) rfl hv ho
 rw [Bool.eq_iff_iff]
 exact h1.trans h2.symm
end Go.Proofs.YthldgioggjpnpaaGreat
