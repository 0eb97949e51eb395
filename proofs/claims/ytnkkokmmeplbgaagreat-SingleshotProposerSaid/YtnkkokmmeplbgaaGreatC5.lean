/-
  Plain laws: the reference's clocks and registers are the pro
-/
import Derived.Test.YtnkkokmmeplbgaaGreatB18
import Derived.Test.YtnkkokmmeplbgaaGreatC2
import Derived.Test.YtnkkokmmeplbgaaGreatC4
import Derived.Test.YtnkkokmmeplbgaaGreatB15
namespace Go.Proofs.YtnkkokmmeplbgaaGreat
set_option maxRecDepth 100000
set_option maxHeartbeats 1000000
open Go.RowKit
theorem QiE : ∀ (l : List Tk) (last p : Int), QP last l = true → 63 < p → Qc9 l p = 0
 | [], _, _, _, _ => rfl
 | x :: r, last, p, h, hp => by
  obtain ⟨h1, h2⟩ := Kl.1 h
  have := YE.1 h1
  rw [XR, if_neg (by omega)]
  exact QiE r x.1 p h2 hp
theorem QkO {a b : List Tk} (ha : QP (-1) a = true) (hb : QP (-1) b = true) : Qni a b = true ↔ cle a b := by
 unfold Qni Qgm
 rw [List.all_eq_true, ha, hb]
 constructor
 ·intro h p
  by_cases h1 : p ≤ -1
  ·rw [WE a (-1) p ha h1, WE b (-1) p hb h1]; exact Int.le_refl _
  by_cases h2 : 63 < p
  ·rw [QiE a (-1) p ha h2, QiE b (-1) p hb h2]; exact Int.le_refl _
  obtain ⟨n, rfl⟩ : ∃ n : Nat, p = n := ⟨p.toNat, by omega⟩
  simpa using h n (List.mem_range.2 (by omega))
 intro h n _
 simpa using h n
theorem Qds {a b : List Tk} (ha : QP (-1) a = true) (hb : QP (-1) b = true) : Kw a b = true ↔ cle a b ∧ ¬ cle b a := by
 unfold Kw
 rw [ha, hb]
 simp only [Bool.true_and, Bool.and_eq_true, Bool.not_eq_true', ← Bool.not_eq_true, QkO ha hb, QkO hb ha]
def Qbp (l : List En) (p : En × Nat) : Bool := !((p.1.1.length : Int) == 0) && QP (-1) p.1.1 && XM p.1.2 && !(decide ((p.2 : Int) > 0) && (match l[p.2 - 1]? with | some y => decide (Jb y p.1 ≥ 0) | none => false)) && l.all fun f => !Kw p.1.1 f.1
theorem Qqd (l : List En) : l.zipIdx.all (Qbp l) = Qiv l := by
 rw [Bool.eq_iff_iff]
 constructor
 ·intro h
  have h' : ∀ k x, l[k]? = some x → x.1 ≠ [] ∧ QP (-1) x.1 = true ∧ XM x.2 = true ∧ (∀ y, 0 < k → l[k - 1]? = some y → Jb y x < 0) ∧ ∀ y ∈ l, Kw x.1 y.1 = false := by
   intro k x hx
   have hr := List.all_eq_true.1 h (x, k) (List.mem_of_getElem? (XF hx))
   unfold Qbp at hr
   simp only [Bool.and_eq_true, Bool.not_eq_true', List.all_eq_true, and_assoc] at hr
   obtain ⟨r1, r2, r3, r4, r5⟩ := hr
   refine ⟨fun e => by simp [e] at r1, r2, r3, fun y hk hy => ?_, r5⟩
   have h0 : ((k : Int) > 0) := by omega
   rw [hy] at r4
   simp only [h0, decide_true, Bool.true_and, decide_eq_false_iff_not] at r4
   omega
  have hj : ∀ x ∈ l, ∃ j : Nat, l[j]? = some x := fun x hx => List.mem_iff_getElem?.1 hx
  have hv : ∀ x ∈ l, QP (-1) x.1 = true := fun x hx => by obtain ⟨j, hj⟩ := hj x hx; exact (h' j x hj).2.1
  refine JP.regB_ ⟨hv, fun x hx => ?_, fun x hx => ?_, ?_, fun x hx y hy hlt => ?_⟩
  ·obtain ⟨j, hj⟩ := hj x hx; exact (h' j x hj).1
  ·obtain ⟨j, hj⟩ := hj x hx; exact (h' j x hj).2.2.1
  ·exact Wh l (fun j e d he hd => (h' (j + 1) e he).2.2.2.1 d (by omega) hd)
  obtain ⟨j, hj⟩ := hj x hx
  have := (h' j x hj).2.2.2.2 y hy
  rw [(Qds (hv x hx) (hv y hy)).2 hlt] at this
  cases this
 intro h
 have ho := JP.of h
 rw [List.all_eq_true]
 intro p hp
 obtain ⟨k, hk⟩ := List.mem_iff_getElem?.1 hp
 have h2 := (List.getElem?_eq_some_iff.1 hk).1
 rw [Qaz] at h2
 have h3 := XF (List.getElem?_eq_getElem h2)
 rw [hk] at h3
 cases h3
 have hm : l[k] ∈ l := List.getElem_mem h2
 have hr := (Qgy (List.getElem?_eq_getElem h2)).1 (Qie.1 h k _ (List.getElem?_eq_getElem h2))
 have hb : ∀ y ∈ l, Kw l[k].1 y.1 = false := fun y hy => by
  cases hb : Kw l[k].1 y.1
  ·rfl
  exact absurd ((Qds (ho.valid _ hm) (ho.valid y hy)).1 hb) (ho.anti _ hm y hy)
 unfold Qbp
 simp only [Bool.and_eq_true, Bool.not_eq_true', List.all_eq_true, and_assoc]
 refine ⟨?_, hr.2.1, hr.2.2.1, ?_, hb⟩
 ·have := hr.1
  cases hc : l[k].1 with
  | nil => exact absurd hc this
  | cons a r => simp; omega
 by_cases hk0 : 0 < k
 ·have h1 : l[k - 1]? = some l[k - 1] := List.getElem?_eq_getElem (by omega)
  have := hr.2.2.2.1 _ hk0 h1
  rw [h1]
  simp; omega
 simp [hk0]
def WA (p q : En) : Bool := p.2 == q.2 && decide (p.1 = q.1) || Kw p.1 q.1
theorem Qc4 {p q : En} (hp : QP (-1) p.1 = true) (hq : QP (-1) q.1 = true) : WA p q = QbL p q := by
 rw [Bool.eq_iff_iff, Qav hp hq]
 unfold WA leE ltE
 rw [Bool.or_eq_true, Qds hp hq]
 simp only [Bool.and_eq_true, beq_iff_eq, decide_eq_true_eq]
 constructor
 ·rintro (⟨h1, h2⟩ | h)
  ·exact .inr (Prod.ext h2 h1)
  exact .inl h
 rintro (h | rfl)
 ·exact .inr h
 exact .inl ⟨rfl, rfl⟩
def Qn9 (l : List En) (p : En) : Bool := l.any (WA p)
theorem Qne {l : List En} {p : En} (hp : QP (-1) p.1 = true) (hl : ∀ y ∈ l, QP (-1) y.1 = true) : Qn9 l p = JK l p := by
 unfold Qn9 JK
 rw [Bool.eq_iff_iff, List.any_eq_true, List.any_eq_true]
 exact ⟨fun ⟨y, hy, h⟩ => ⟨y, hy, by rwa [← Qc4 hp (hl y hy)]⟩, fun ⟨y, hy, h⟩ => ⟨y, hy, by rwa [Qc4 hp (hl y hy)]⟩⟩
theorem KN (only l : List Nm) : FC Tryz.prog 143 [X1 only, X1 l] (bl (Jc only l)) := by
 refine Qg [4] Tryz.func143 rfl rfl 34 Tryz.ntmps143 (Nat.le_of_ble_eq_true rfl) ?_
 intro E hN
 refine Jj 1 rfl (fun hl1 => ?_)
 refine XB ?_
 refine Ql (fun x : {k : Nat // k ≤ (l).length ∧ (l.drop k).all (Yq only) = l.all (Yq only)} => ⟨[(0, X1 only), (1, X1 l), (5, i64 (x.1 : Nat))], [], 0⟩) (fun x => (l).length - x.1) (⟨0, Nat.zero_le _, by simp⟩) ?_ ?_
 ·
  exact Qa rfl (JO trivial) trivial
 rintro ⟨k, hk, hg⟩
 dsimp only
 refine XN ?_
 refine zq ?_ ?_ <;> intro h6
 rotate_left
 ·
  have hge : (l).length ≤ k := by simpa using h6
  refine Qv ?_; refine zP (Qc (Qk8 l) rfl rfl rfl) ?_; refine zS ?_; refine zQ ?_
  exact Qm (by rw [Jc, XU hg hge, Bool.and_true])
 have hlt : k < (l).length := by simpa using h6
 obtain ⟨x, hx⟩ := Qn hlt
 refine Q4 ?_; refine zP (Qf rfl rfl rfl k rfl _ (Qk hx) rfl) ?_; refine zL ?_; refine zP (Qc (Qgk x) rfl rfl rfl) ?_
 refine Qu ?_
 refine zc 18 ?_ ?_ <;> intro h9
 ·
  refine QeU ?_; refine zQ ?_
  exact Qm (by rw [Jc, Q3 hg hx (by simp_all [Yq])]; simp)
 refine Qv ?_
 refine zc 22 ?_ ?_ <;> intro h11
 rotate_left
 ·
  refine Q4 ?_; refine uP (Xj (m1 (n0 h9))) (Xw rfl rfl h11 rfl) ?_; refine XN ?_; refine Qb ?_
  exact ⟨⟨k + 1, hlt, Xx hg hx (by simp_all [Yq])⟩, Qa rfl (JI ⟨(Q0 (by dsimp only; omega)), rfl, trivial⟩) trivial, by dsimp only; omega⟩
 refine Qs ?_; refine uP (XG h11) (Qf rfl rfl rfl k rfl _ (Qk hx) rfl) ?_; refine Jk ?_
 refine uP (XG h11) (Qc (Qej only x) rfl rfl rfl) ?_; refine Jk ?_; refine uP (Xj (m1 (n0 h9))) (Xu rfl rfl h11 rfl) ?_; refine Qu ?_
 refine zq ?_ ?_ <;> intro h14
 ·
  refine Qs ?_; refine zQ ?_
  exact Qm (by rw [Jc, Q3 hg hx (by simp_all [Yq])]; simp)
 refine QF ?_; refine Qb ?_
 exact ⟨⟨k + 1, hlt, Xx hg hx (by simp_all [Yq])⟩, Qa rfl (JI ⟨(Q0 (by dsimp only; omega)), rfl, trivial⟩) trivial, by dsimp only; omega⟩
theorem Qlw (rs : List Ru) (l : List Nm) (hi : ∀ r ∈ rs, r.i.length ≤ 1000000) : FC Tryz.prog 145 [rus rs, X1 l] (bl (Wk rs l)) := by
 refine Qg [4] Tryz.func145 rfl rfl 29 Tryz.ntmps145 (Nat.le_of_ble_eq_true rfl) ?_
 intro E hN
 refine Jj 0 rfl (fun hl0 => ?_)
 refine XB ?_
 refine Ql (fun x : {k : Nat // k ≤ (rs).length ∧ (rs.drop k).all (K8 l) = rs.all (K8 l)} => ⟨[(0, rus rs), (1, X1 l), (5, i64 (x.1 : Nat))], [], 0⟩) (fun x => (rs).length - x.1) (⟨0, Nat.zero_le _, by simp⟩) ?_ ?_
 ·
  exact Qa rfl (JO trivial) trivial
 rintro ⟨k, hk, hg⟩
 dsimp only
 refine XN ?_
 refine zq ?_ ?_ <;> intro h6
 rotate_left
 ·
  have hge : (rs).length ≤ k := by simpa using h6
  refine Qv ?_; refine zQ ?_
  exact Qm (XU hg hge).symm
 have hlt : k < (rs).length := by simpa using h6
 obtain ⟨x, hx⟩ := Qn hlt
 refine Q4 ?_; refine zP (Qf rfl rfl rfl k rfl _ (Qk hx) rfl) ?_; refine Qs ?_
 refine zP (Qc (Qdv x.i l (hi x (List.mem_of_getElem? hx))) rfl rfl rfl) ?_; refine zM ?_
 refine zc 19 ?_ ?_ <;> intro h10
 rotate_left
 ·
  refine Qcb ?_; refine Qb ?_
  exact ⟨⟨k + 1, hlt, Xx hg hx (by simp_all [K8])⟩, Qa rfl (JI ⟨(Q0 (by dsimp only; omega)), rfl, trivial⟩) trivial, by dsimp only; omega⟩
 refine Qs ?_; refine uP (XG h10) (Qf rfl rfl rfl k rfl _ (Qk hx) rfl) ?_; refine Qu ?_
 refine uP (XG h10) (Qc (Qej l x.t) rfl rfl rfl) ?_; refine Qs ?_
 refine zq ?_ ?_ <;> intro h14
 ·
  refine Qs ?_; refine zQ ?_
  exact Qm (Q3 hg hx (by simp_all [K8])).symm
 refine QF ?_; refine Qb ?_
 exact ⟨⟨k + 1, hlt, Xx hg hx (by simp_all [K8])⟩, Qa rfl (JI ⟨(Q0 (by dsimp only; omega)), rfl, trivial⟩) trivial, by dsimp only; omega⟩
theorem Qkf (l : List En) : FC Tryz.prog 144 [W7 l] (bl (Qiv l)) := by
 refine Qg [2] Tryz.func144 rfl rfl 68 Tryz.ntmps144 (Nat.le_of_ble_eq_true rfl) ?_
 intro E hN
 refine Jj 0 rfl (fun hl0 => ?_)
 rw [← Qqd l]
 refine XB ?_
 refine Ql (fun x : {k : Nat // k ≤ (l).length ∧ (l.zipIdx.drop k).all (Qbp l) = l.zipIdx.all (Qbp l)} => ⟨[(0, W7 l), (3, i64 (x.1 : Nat))], [], 0⟩) (fun x => (l).length - x.1) (⟨0, Nat.zero_le _, by simp⟩) ?_ ?_
 ·
  exact Qa rfl (JI trivial) trivial
 rintro ⟨k, hk, hg⟩
 dsimp only
 refine XN ?_
 refine zq ?_ ?_ <;> intro h5
 rotate_left
 ·
  have hge : (l).length ≤ k := by simpa using h5
  refine Qv ?_; refine zQ ?_
  exact Qm (XU hg (by rw [Qaz]; exact hge)).symm
 have hlt : k < (l).length := by simpa using h5
 obtain ⟨x, hx⟩ := Qn hlt
 refine XN ?_; refine zP (Qf rfl rfl rfl k rfl _ (Qk hx) rfl) ?_; refine QF ?_
 refine zc 18 ?_ ?_ <;> intro h10
 ·
  refine Qo9 ?_; refine zQ ?_
  exact Qm (Q3 hg (XF hx) (by unfold Qbp; simp_all)).symm
 refine Qu ?_; refine uP (Xj h10) (Qf rfl rfl rfl k rfl _ (Qk hx) rfl) ?_; refine Qu ?_
 refine uP (Xj h10) (Qc (Qbx _) rfl rfl rfl) ?_; refine Qs ?_
 refine zc 27 ?_ ?_ <;> intro h14
 ·
  refine YR ?_; refine zQ ?_
  exact Qm (Q3 hg (XF hx) (by unfold Qbp; simp_all)).symm
 refine Qu ?_; refine uP (Xj (m1 (n0 h14))) (Qf rfl rfl rfl k rfl _ (Qk hx) rfl) ?_; refine Qu ?_
 refine uP (Xj (m1 (n0 h14))) (Qc (Qgk _) rfl rfl rfl) ?_; refine Qs ?_
 refine zq ?_ ?_ <;> intro h18
 ·
  refine Qs ?_; refine zQ ?_
  exact Qm (Q3 hg (XF hx) (by unfold Qbp; simp_all)).symm
 refine Qs ?_; refine Qd 14 (by kernel_rfl) (by kernel_rfl) ?_; refine Qs ?_
 refine zd 38 ?_ ?_ <;> intro h19
 rotate_left
 ·
  refine Jv ?_; change Qj _ _ _ _ _ _; refine JA ?_
  refine Ql (fun x1 : {j : Nat // j ≤ l.length ∧ (l.drop j).all (fun f => !Kw x.1 f.1) = l.all (fun f => !Kw x.1 f.1)} => ⟨[(0, W7 l), (3, i64 (k : Nat)), (4, i64 (x1.1 : Nat))], [], 0⟩) (fun x1 => l.length - x1.1) (⟨0, Nat.zero_le _, by simp⟩) ?_ ?_
  ·
   exact Qa rfl (JO trivial) trivial
  rintro ⟨j, hj, hgj⟩
  dsimp only
  refine XN ?_
  refine zq ?_ ?_ <;> intro h45
  rotate_left
  ·
   have hgej : l.length ≤ j := by simpa using h45
   have hA := XU hgj hgej
   refine QF ?_; refine Qb ?_
   exact ⟨⟨k + 1, hlt, Xx hg (XF hx) (by unfold Qbp; rw [hA]; simp_all)⟩, Qa rfl (Xv ⟨(Q0 (by dsimp only; omega)), rfl, trivial⟩) trivial, by dsimp only; omega⟩
  have hltj : j < l.length := by simpa using h45
  obtain ⟨y2, hy2⟩ := Qn hltj
  refine Qv ?_; refine Qd 10 (by kernel_rfl) (by kernel_rfl) ?_; refine Qu ?_; refine zp (Qf rfl rfl rfl k rfl _ (Qk hx) rfl) ?_
  refine Qv ?_; refine zp (Qf rfl rfl rfl j rfl _ (Qk hy2) rfl) ?_; refine Qu ?_; change Qj _ _ _ _ _ _
  refine zP (Qc (Qc7 _ _) rfl rfl rfl) ?_; refine zN ?_
  refine zq ?_ ?_ <;> intro h52
  ·
   refine Qs ?_; refine zQ ?_
   exact Qm (Q3 hg (XF hx) (by unfold Qbp; rw [Q3 hgj hy2 (by simp_all)]; simp)).symm
  refine QF ?_; refine Qb ?_
  exact ⟨⟨j + 1, hltj, Xx hgj hy2 (by simp_all)⟩, Qa rfl (JI ⟨(Q0 (by dsimp only; omega)), rfl, trivial⟩) trivial, by dsimp only; omega⟩
 have hk0 : 0 < k := by simpa using h19
 obtain ⟨y, hy⟩ := Qn (show k - 1 < l.length by omega)
 refine Qu ?_; refine vP (XG h19) (KM rfl rfl rfl (by omega)) ?_
 refine vP (XG h19) (Qf rfl rfl rfl (k - 1) (by omega) _ (Qk hy) rfl) ?_; refine Qs ?_
 refine vP (XG h19) (Qf rfl rfl rfl k rfl _ (Qk hx) rfl) ?_; refine Jk ?_; refine vP (XG h19) (Qc (QcH y x) rfl rfl rfl) ?_
 refine Jk ?_; change Qj _ _ _ _ _ _; refine Qu ?_
 refine zq ?_ ?_ <;> intro h26
 ·
  refine Qs ?_; refine zQ ?_
  exact Qm (Q3 hg (XF hx) (by unfold Qbp; simp_all)).symm
 refine Q8 ?_
 refine Ql (fun x1 : {j : Nat // j ≤ l.length ∧ (l.drop j).all (fun f => !Kw x.1 f.1) = l.all (fun f => !Kw x.1 f.1)} => ⟨[(0, W7 l), (3, i64 (k : Nat)), (4, i64 (x1.1 : Nat))], [], 0⟩) (fun x1 => l.length - x1.1) (⟨0, Nat.zero_le _, by simp⟩) ?_ ?_
 ·
  exact Qa rfl (JO trivial) trivial
 rintro ⟨j, hj, hgj⟩
 dsimp only
 refine XN ?_
 refine zq ?_ ?_ <;> intro h31
 rotate_left
 ·
  have hgej : l.length ≤ j := by simpa using h31
  have hA := XU hgj hgej
  refine QF ?_; refine Qb ?_
  exact ⟨⟨k + 1, hlt, Xx hg (XF hx) (by unfold Qbp; rw [hA]; simp_all)⟩, Qa rfl (Xv ⟨(Q0 (by dsimp only; omega)), rfl, trivial⟩) trivial, by dsimp only; omega⟩
 have hltj : j < l.length := by simpa using h31
 obtain ⟨y2, hy2⟩ := Qn hltj
 refine Qv ?_; refine Qd 10 (by kernel_rfl) (by kernel_rfl) ?_; refine Qu ?_; refine zp (Qf rfl rfl rfl k rfl _ (Qk hx) rfl) ?_
 refine Qv ?_; refine zp (Qf rfl rfl rfl j rfl _ (Qk hy2) rfl) ?_; refine Qu ?_; change Qj _ _ _ _ _ _
 refine zP (Qc (Qc7 _ _) rfl rfl rfl) ?_; refine zN ?_
 refine zq ?_ ?_ <;> intro h38
 ·
  refine Qs ?_; refine zQ ?_
  exact Qm (Q3 hg (XF hx) (by unfold Qbp; rw [Q3 hgj hy2 (by simp_all)]; simp)).symm
 refine QF ?_; refine Qb ?_
 exact ⟨⟨j + 1, hltj, Xx hgj hy2 (by simp_all)⟩, Qa rfl (JI ⟨(Q0 (by dsimp only; omega)), rfl, trivial⟩) trivial, by dsimp only; omega⟩
theorem Qq7 (l : QD) (hp : l.ps.length ≤ 64) (ih : ∀ p ∈ l.ps, FC Tryz.prog 106 [.agg (Q2 p)] (.agg (Qz (QU p)))) : FC Tryz.prog 106 [.agg (Q2 l)] (.agg (Qz (QU l))) := by
 refine Jf [.c 2 30 4 true] ⟨⟨inferInstance, rfl⟩, trivial⟩ Tryz.func106 rfl rfl 40 Tryz.ntmps106 (Nat.le_of_ble_eq_true rfl) ?_
 intro E hN
 refine rn23 ?_
 refine zq ?_ ?_ <;> intro h9
 ·
  refine Jv ?_; refine Qh ?_
  change (resY _ _).bind AV.fzt = some _
  refine XD rfl ?_
  rw [JB]
  refine Qha (QS ?_) rfl ?_ rfl
  ·simp_all [Qw.N]
  first | (simp_all [Qw.ps]; done) | (refine QdH ?_; simp_all [Qw.ps, List.take_of_length_le])
 refine QF ?_
 refine zq ?_ ?_ <;> intro h16
 ·
  refine Jv ?_; refine Qh ?_
  change (resY _ _).bind AV.fzt = some _
  refine XD rfl ?_
  rw [JB]
  refine Qha (QS ?_) rfl ?_ rfl
  ·simp_all [Qw.N]
  first | (simp_all [Qw.ps]; done) | (refine QdH ?_; simp_all [Qw.ps, List.take_of_length_le])
 refine Q8 ?_
 refine zq ?_ ?_ <;> intro h23
 ·
  refine Q4 ?_; refine QI (J7 rfl 2 2 30 4 rfl rfl rfl) ?_
  refine Ql (fun x : {k : Nat // k ≤ (l.ps).length ∧ True} => ⟨[(1, .ptr 0 0), (2, .ptr 1 0), (3, .ptr 2 0), (4, i64 (x.1 : Nat))], [(0, .var 26 (Q2 l)), (1, .var 30 [i64 0, .p (.slice none 0 0), .p (.slice none 0 0), .p (.slice none 0 0)]), (2, .var 30 [i64 0, .p (.slice none 0 0), .sl (((l.ps.take x.1).map QU).map JV) (some 3), .p (.slice none 0 0)]), (3, .tok 30 4 ((l.ps.take x.1).map QU).length)], 4⟩) (fun x => (l.ps).length - x.1) (⟨0, Nat.zero_le _, by simp⟩) ?_ ?_
  ·
   exact Qa rfl (JH trivial) ⟨rfl, rfl, rfl, rfl, rfl, rfl, rfl, rfl, rfl, rfl, rfl, rfl, trivial⟩
  rintro ⟨k, hk, hg⟩
  dsimp only
  refine JA ?_
  refine zq ?_ ?_ <;> intro h31
  rotate_left
  ·
   have hge : (l.ps).length ≤ k := by simpa using h31
   refine Q8 ?_; refine Qh ?_
   change (resY _ _).bind AV.fzt = some _
   refine XD rfl ?_
   rw [JB]
   refine Qha (QS ?_) rfl ?_ rfl
   ·simp_all [Qw.N]
   first | (simp_all [Qw.ps]; done) | (refine QdH ?_; simp_all [Qw.ps, List.take_of_length_le])
  have hlt : k < (l.ps).length := by simpa using h31
  obtain ⟨x, hx⟩ := Qn hlt
  refine Qs ?_; refine Qd 9 (by kernel_rfl) (by kernel_rfl) ?_; refine QF ?_; refine zp (Qf rfl rfl rfl k rfl _ (XK hx) rfl) ?_
  refine zl ?_; refine zp (Qc (ih x (List.mem_of_getElem? hx)) rfl rfl rfl) ?_
  refine zp (QE rfl rfl rfl rfl (by exact rfl) (by decide) (by decide)) ?_; change Qj _ _ _ _ _ _
  refine QG hN rfl rfl rfl (by simp) rfl rfl (QN YF _) rfl (by simp [XH]; omega) rfl rfl rfl rfl ?_
  refine Q4 ?_; refine Qb ?_
  exact ⟨⟨k + 1, hlt, trivial⟩, Qa rfl (JO ⟨(Q0 (by dsimp only; omega)), rfl, trivial⟩) ⟨rfl, rfl, rfl, rfl, rfl, rfl, (cgV (Qd9 hx)), rfl, rfl, (cgT (by simp [XH]; omega)), rfl, rfl, trivial⟩, by dsimp only; omega⟩
 refine Qv ?_
 refine zq ?_ ?_ <;> intro h46
 rotate_left
 ·
  refine Q8 ?_; refine Qh ?_
  change (resY _ _).bind AV.fzt = some _
  refine XD rfl ?_
  rw [JB]
  refine Qha (QS ?_) rfl ?_ rfl
  ·simp_all [Qw.N]
  first | (simp_all [Qw.ps]; done) | (refine QdH ?_; simp_all [Qw.ps, List.take_of_length_le])
 refine QF ?_; refine QI (J7 rfl 2 2 30 4 rfl rfl rfl) ?_
 refine Ql (fun x : {k : Nat // k ≤ (l.ps).length ∧ True} => ⟨[(1, .ptr 0 0), (2, .ptr 1 0), (3, .ptr 2 0), (4, i64 (x.1 : Nat))], [(0, .var 26 (Q2 l)), (1, .var 30 [i64 0, .p (.slice none 0 0), .p (.slice none 0 0), .p (.slice none 0 0)]), (2, .var 30 [i64 0, .p (.slice none 0 0), .sl (((l.ps.take x.1).map QU).map JV) (some 3), .p (.slice none 0 0)]), (3, .tok 30 4 ((l.ps.take x.1).map QU).length)], 4⟩) (fun x => (l.ps).length - x.1) (⟨0, Nat.zero_le _, by simp⟩) ?_ ?_
 ·
  exact Qa rfl (JH trivial) ⟨rfl, rfl, rfl, rfl, rfl, rfl, rfl, rfl, rfl, rfl, rfl, rfl, trivial⟩
 rintro ⟨k, hk, hg⟩
 dsimp only
 refine JA ?_
 refine zq ?_ ?_ <;> intro h54
 rotate_left
 ·
  have hge : (l.ps).length ≤ k := by simpa using h54
  refine Q8 ?_; refine Qh ?_
  change (resY _ _).bind AV.fzt = some _
  refine XD rfl ?_
  rw [JB]
  refine Qha (QS ?_) rfl ?_ rfl
  ·simp_all [Qw.N]
  first | (simp_all [Qw.ps]; done) | (refine QdH ?_; simp_all [Qw.ps, List.take_of_length_le])
 have hlt : k < (l.ps).length := by simpa using h54
 obtain ⟨x, hx⟩ := Qn hlt
 refine Qs ?_; refine Qd 9 (by kernel_rfl) (by kernel_rfl) ?_; refine QF ?_; refine zp (Qf rfl rfl rfl k rfl _ (XK hx) rfl) ?_
 refine zl ?_; refine zp (Qc (ih x (List.mem_of_getElem? hx)) rfl rfl rfl) ?_
 refine zp (QE rfl rfl rfl rfl (by exact rfl) (by decide) (by decide)) ?_; change Qj _ _ _ _ _ _
 refine QG hN rfl rfl rfl (by simp) rfl rfl (QN YF _) rfl (by simp [XH]; omega) rfl rfl rfl rfl ?_
 refine Q4 ?_; refine Qb ?_
 exact ⟨⟨k + 1, hlt, trivial⟩, Qa rfl (JO ⟨(Q0 (by dsimp only; omega)), rfl, trivial⟩) ⟨rfl, rfl, rfl, rfl, rfl, rfl, (cgV (Qd9 hx)), rfl, rfl, (cgT (by simp [XH]; omega)), rfl, rfl, trivial⟩, by dsimp only; omega⟩
theorem QeJ (l : QD) (h : YK l) : FC Tryz.prog 106 [.agg (Q2 l)] (.agg (Qz (QU l))) := Qq7 l h.small (fun p hp => QeJ p (h.part p hp))
termination_by l
decreasing_by exact QD.sizeOf_ps ‹_›
end Go.Proofs.YtnkkokmmeplbgaaGreat
