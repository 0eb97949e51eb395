/-
  Plain laws: the reference's clocks and registers are the pro
-/
import Derived.Test.YtnkkokmmeplbgaaGreatB18
import Derived.Test.YtnkkokmmeplbgaaGreatC2
import Derived.Test.YtnkkokmmeplbgaaGreatC4
import Derived.Test.YtnkkokmmeplbgaaGreatB15
namespace Go.Proofs.YtnkkokmmeplbgaaGreat
set_option maxRecDepth 100000
set_option maxHeartbeats 1000000
open Go.RowKit
theorem Qi4 : ∀ (l : List Tk) (last p : Int), QV last l = true → 63 < p → QdH l p = 0
 | [], _, _, _, _ => rfl
 | x :: r, last, p, h, hp => by
  obtain ⟨h1, h2⟩ := K0.1 h
  have := YV.1 h1
  rw [XT, if_neg (by omega)];exact Qi4 r x.1 p h2 hp
theorem Qlo {a b : List Tk} (ha : QV (-1) a = true) (hb : QV (-1) b = true) : Qom a b = true ↔ cle a b := by
 unfold Qom QgH
 rw [List.all_eq_true, ha, hb]
 constructor
 ·intro h p
  by_cases h1 : p ≤ -1
  ·rw [Qas a (-1) p ha h1, Qas b (-1) p hb h1]; exact Int.le_refl _
  by_cases h2 : 63 < p
  ·rw [Qi4 a (-1) p ha h2, Qi4 b (-1) p hb h2]; exact Int.le_refl _
  obtain ⟨n, rfl⟩ : ∃ n : Nat, p = n := ⟨p.toNat, by omega⟩
  simpa using h n (List.mem_range.2 (by omega))
 intro h n _
 simpa using h n
theorem Qd6 {a b : List Tk} (ha : QV (-1) a = true) (hb : QV (-1) b = true) : K5 a b = true ↔ cle a b ∧ ¬ cle b a := by
 unfold K5
 rw [ha, hb]
 simp only [Bool.true_and, Bool.and_eq_true, Bool.not_eq_true', ← Bool.not_eq_true, Qlo ha hb, Qlo hb ha]
def QbI (l : List En) (p : En × Nat) : Bool := !((p.1.1.length : Int) == 0) && QV (-1) p.1.1 && XP p.1.2 && !(decide ((p.2 : Int) > 0) && (match l[p.2 - 1]? with | some y => decide (Jh y p.1 ≥ 0) | none => false)) && l.all fun f => !K5 p.1.1 f.1
theorem QsD (l : List En) : l.zipIdx.all (QbI l) = Qju l := by
 rw [Bool.eq_iff_iff]
 constructor
 ·intro h
  have h' : ∀ k x, l[k]? = some x → x.1 ≠ [] ∧ QV (-1) x.1 = true ∧ XP x.2 = true ∧ (∀ y, 0 < k → l[k - 1]? = some y → Jh y x < 0) ∧ ∀ y ∈ l, K5 x.1 y.1 = false := by
   intro k x hx
   have hr := List.all_eq_true.1 h (x, k) (List.mem_of_getElem? (XI hx))
   unfold QbI at hr
   simp only [Bool.and_eq_true, Bool.not_eq_true', List.all_eq_true, and_assoc] at hr
   obtain ⟨r1, r2, r3, r4, r5⟩ := hr;refine ⟨fun e => by simp [e] at r1, r2, r3, fun y hk hy => ?_, r5⟩;have h0 : ((k : Int) > 0) := by omega
   rw [hy] at r4
   simp only [h0, decide_true, Bool.true_and, decide_eq_false_iff_not] at r4
   omega
  have hj : ∀ x ∈ l, ∃ j : Nat, l[j]? = some x := fun x hx => List.mem_iff_getElem?.1 hx
  have hv : ∀ x ∈ l, QV (-1) x.1 = true := fun x hx => by obtain ⟨j, hj⟩ := hj x hx; exact (h' j x hj).2.1
  refine J0.regB_ ⟨hv, fun x hx => ?_, fun x hx => ?_, ?_, fun x hx y hy hlt => ?_⟩
  ·obtain ⟨j, hj⟩ := hj x hx; exact (h' j x hj).1
  ·obtain ⟨j, hj⟩ := hj x hx; exact (h' j x hj).2.2.1
  ·exact WP l (fun j e d he hd => (h' (j + 1) e he).2.2.2.1 d (by omega) hd)
  obtain ⟨j, hj⟩ := hj x hx
  have := (h' j x hj).2.2.2.2 y hy
  rw [(Qd6 (hv x hx) (hv y hy)).2 hlt] at this
  cases this
 intro h
 have ho := J0.of h
 rw [List.all_eq_true];intro p hp;obtain ⟨k, hk⟩ := List.mem_iff_getElem?.1 hp
 have h2 := (List.getElem?_eq_some_iff.1 hk).1
 rw [Qba] at h2
 have h3 := XI (List.getElem?_eq_getElem h2)
 rw [hk] at h3
 cases h3
 have hm : l[k] ∈ l := List.getElem_mem h2
 have hr := (QgB (List.getElem?_eq_getElem h2)).1 (Qjq.1 h k _ (List.getElem?_eq_getElem h2))
 have hb : ∀ y ∈ l, K5 l[k].1 y.1 = false := fun y hy => by
  cases hb : K5 l[k].1 y.1
  ·rfl
  exact absurd ((Qd6 (ho.valid _ hm) (ho.valid y hy)).1 hb) (ho.anti _ hm y hy)
 unfold QbI
 simp only [Bool.and_eq_true, Bool.not_eq_true', List.all_eq_true, and_assoc]
 refine ⟨?_, hr.2.1, hr.2.2.1, ?_, hb⟩
 ·have := hr.1
  cases hc : l[k].1 with
  | nil => exact absurd hc this
  | cons a r => simp; omega
 by_cases hk0 : 0 < k
 ·have h1 : l[k - 1]? = some l[k - 1] := List.getElem?_eq_getElem (by omega)
  have := hr.2.2.2.1 _ hk0 h1
  rw [h1]
  simp; omega
 simp [hk0]
def Qae (p q : En) : Bool := p.2 == q.2 && decide (p.1 = q.1) || K5 p.1 q.1
theorem Qdv {p q : En} (hp : QV (-1) p.1 = true) (hq : QV (-1) q.1 = true) : Qae p q = Qcb p q := by
 rw [Bool.eq_iff_iff, Qa7 hp hq]
 unfold Qae leE ltE
 rw [Bool.or_eq_true, Qd6 hp hq]
 simp only [Bool.and_eq_true, beq_iff_eq, decide_eq_true_eq]
 constructor
 ·rintro (⟨h1, h2⟩ | h)
  ·exact .inr (Prod.ext h2 h1)
  exact .inl h
 rintro (h | rfl)
 ·exact .inr h
 exact .inl ⟨rfl, rfl⟩
def Qqo (l : List En) (p : En) : Bool := l.any (Qae p)
theorem QoH {l : List En} {p : En} (hp : QV (-1) p.1 = true) (hl : ∀ y ∈ l, QV (-1) y.1 = true) : Qqo l p = J1 l p := by
 unfold Qqo J1
 rw [Bool.eq_iff_iff, List.any_eq_true, List.any_eq_true];exact ⟨fun ⟨y, hy, h⟩ => ⟨y, hy, by rwa [← Qdv hp (hl y hy)]⟩, fun ⟨y, hy, h⟩ => ⟨y, hy, by rwa [Qdv hp (hl y hy)]⟩⟩
theorem Wp (only l : List Nm) : FC Tryz.prog 143 [XS only, XS l] (bl (Jg only l)) := by
 refine Qh [4] Tryz.func143 rfl rfl 34 Tryz.ntmps143 (Nat.le_of_ble_eq_true rfl) ?_
 intro E hN;refine Jq 1 rfl (fun hl1 => ?_);refine Xs ?_;refine Qm (fun x : {k : Nat // k ≤ (l).length ∧ (l.drop k).all (YE only) = l.all (YE only)} => ⟨[(0, XS only), (1, XS l), (5, i64 (x.1 : Nat))], [], 0⟩) (fun x => (l).length - x.1) (⟨0, Nat.zero_le _, by simp⟩) ?_ ?_
 ·exact Qa rfl (JZ trivial) trivial
 rintro ⟨k, hk, hg⟩;dsimp only;refine Xo ?_
 refine zq ?_ ?_ <;> intro h6
 rotate_left
 ·have hge : (l).length ≤ k := by simpa using h6
  refine QC ?_;refine zP (Qd (QmM l) rfl rfl rfl) ?_;refine zS ?_;refine zQ ?_;exact Qo (by rw [Jg, X4 hg hge, Bool.and_true])
 have hlt : k < (l).length := by simpa using h6
 obtain ⟨x, hx⟩ := Qq hlt;refine Xg ?_;refine zP (Qf rfl rfl rfl k rfl _ (Qi hx) rfl) ?_;refine zL ?_;refine zP (Qd (Qgu x) rfl rfl rfl) ?_;refine QH ?_
 refine zc 18 ?_ ?_ <;> intro h9
 ·refine Wn ?_;refine zQ ?_;exact Qo (by rw [Jg, Q6 hg hx (by simp_all [YE])]; simp)
 refine QC ?_
 refine zc 22 ?_ ?_ <;> intro h11
 rotate_left
 ·refine Xg ?_;refine uP (X0 (m1 (n0 h9))) (Xx rfl rfl h11 rfl) ?_;refine Xo ?_;refine Qb ?_;exact ⟨⟨k + 1, hlt, XG hg hx (by simp_all [YE])⟩, Qa rfl (Yf ⟨X5, rfl, trivial⟩) trivial, by dsimp only; omega⟩
 refine QD ?_;refine uP (XO h11) (Qf rfl rfl rfl k rfl _ (Qi hx) rfl) ?_;refine JB ?_;refine uP (XO h11) (Qd (Qe8 only x) rfl rfl rfl) ?_;refine JB ?_;refine uP (X0 (m1 (n0 h9))) (XF rfl rfl h11 rfl) ?_;refine QH ?_
 refine zq ?_ ?_ <;> intro h14
 ·refine QD ?_;refine zQ ?_;exact Qo (by rw [Jg, Q6 hg hx (by simp_all [YE])]; simp)
 refine Qy ?_;refine Qb ?_;exact ⟨⟨k + 1, hlt, XG hg hx (by simp_all [YE])⟩, Qa rfl (Yf ⟨X5, rfl, trivial⟩) trivial, by dsimp only; omega⟩
theorem Qmm (rs : List Ru) (l : List Nm) (hi : ∀ r ∈ rs, r.i.length ≤ 1000000) : FC Tryz.prog 145 [rus rs, XS l] (bl (WS rs l)) := by
 refine Qh [4] Tryz.func145 rfl rfl 29 Tryz.ntmps145 (Nat.le_of_ble_eq_true rfl) ?_
 intro E hN;refine Jq 0 rfl (fun hl0 => ?_);refine Xs ?_;refine Qm (fun x : {k : Nat // k ≤ (rs).length ∧ (rs.drop k).all (WB l) = rs.all (WB l)} => ⟨[(0, rus rs), (1, XS l), (5, i64 (x.1 : Nat))], [], 0⟩) (fun x => (rs).length - x.1) (⟨0, Nat.zero_le _, by simp⟩) ?_ ?_
 ·exact Qa rfl (JZ trivial) trivial
 rintro ⟨k, hk, hg⟩;dsimp only;refine Xo ?_
 refine zq ?_ ?_ <;> intro h6
 rotate_left
 ·have hge : (rs).length ≤ k := by simpa using h6
  refine QC ?_;refine zQ ?_;exact Qo (X4 hg hge).symm
 have hlt : k < (rs).length := by simpa using h6
 obtain ⟨x, hx⟩ := Qq hlt;refine Xg ?_;refine zP (Qf rfl rfl rfl k rfl _ (Qi hx) rfl) ?_;refine QD ?_;refine zP (Qd (Qeg x.i l (hi x (List.mem_of_getElem? hx))) rfl rfl rfl) ?_;refine zM ?_
 refine zc 19 ?_ ?_ <;> intro h10
 rotate_left
 ·refine QaL ?_;refine Qb ?_;exact ⟨⟨k + 1, hlt, XG hg hx (by simp_all [WB])⟩, Qa rfl (Yf ⟨X5, rfl, trivial⟩) trivial, by dsimp only; omega⟩
 refine QD ?_;refine uP (XO h10) (Qf rfl rfl rfl k rfl _ (Qi hx) rfl) ?_;refine QH ?_;refine uP (XO h10) (Qd (Qe8 l x.t) rfl rfl rfl) ?_;refine QD ?_
 refine zq ?_ ?_ <;> intro h14
 ·refine QD ?_;refine zQ ?_;exact Qo (Q6 hg hx (by simp_all [WB])).symm
 refine Qy ?_;refine Qb ?_;exact ⟨⟨k + 1, hlt, XG hg hx (by simp_all [WB])⟩, Qa rfl (Yf ⟨X5, rfl, trivial⟩) trivial, by dsimp only; omega⟩
theorem QkZ (l : List En) : FC Tryz.prog 144 [WA l] (bl (Qju l)) := by
 refine Qh [2] Tryz.func144 rfl rfl 68 Tryz.ntmps144 (Nat.le_of_ble_eq_true rfl) ?_
 intro E hN;refine Jq 0 rfl (fun hl0 => ?_);rw [← QsD l];refine Xs ?_;refine Qm (fun x : {k : Nat // k ≤ (l).length ∧ (l.zipIdx.drop k).all (QbI l) = l.zipIdx.all (QbI l)} => ⟨[(0, WA l), (3, i64 (x.1 : Nat))], [], 0⟩) (fun x => (l).length - x.1) (⟨0, Nat.zero_le _, by simp⟩) ?_ ?_
 ·exact Qa rfl (Yf trivial) trivial
 rintro ⟨k, hk, hg⟩;dsimp only;refine Xo ?_
 refine zq ?_ ?_ <;> intro h5
 rotate_left
 ·have hge : (l).length ≤ k := by simpa using h5
  refine QC ?_;refine zQ ?_;exact Qo (X4 hg (by rw [Qba]; exact hge)).symm
 have hlt : k < (l).length := by simpa using h5
 obtain ⟨x, hx⟩ := Qq hlt;refine Xo ?_;refine zP (Qf rfl rfl rfl k rfl _ (Qi hx) rfl) ?_;refine Qy ?_
 refine zc 18 ?_ ?_ <;> intro h10
 ·refine Qof ?_;refine zQ ?_;exact Qo (Q6 hg (XI hx) (by unfold QbI; simp_all)).symm
 refine QH ?_;refine uP (X0 h10) (Qf rfl rfl rfl k rfl _ (Qi hx) rfl) ?_;refine QH ?_;refine uP (X0 h10) (Qd (Qcl _) rfl rfl rfl) ?_;refine QD ?_
 refine zc 27 ?_ ?_ <;> intro h14
 ·refine WV ?_;refine zQ ?_;exact Qo (Q6 hg (XI hx) (by unfold QbI; simp_all)).symm
 refine QH ?_;refine uP (X0 (m1 (n0 h14))) (Qf rfl rfl rfl k rfl _ (Qi hx) rfl) ?_;refine QH ?_;refine uP (X0 (m1 (n0 h14))) (Qd (Qgu _) rfl rfl rfl) ?_;refine QD ?_
 refine zq ?_ ?_ <;> intro h18
 ·refine QD ?_;refine zQ ?_;exact Qo (Q6 hg (XI hx) (by unfold QbI; simp_all)).symm
 refine QD ?_;refine zD 14 ?_;refine QD ?_
 refine zd 38 ?_ ?_ <;> intro h19
 rotate_left
 ·refine Qdb ?_;refine Qm (fun x1 : {j : Nat // j ≤ l.length ∧ (l.drop j).all (fun f => !K5 x.1 f.1) = l.all (fun f => !K5 x.1 f.1)} => ⟨[(0, WA l), (3, i64 (k : Nat)), (4, i64 (x1.1 : Nat))], [], 0⟩) (fun x1 => l.length - x1.1) (⟨0, Nat.zero_le _, by simp⟩) ?_ ?_
  ·exact Qa rfl (JZ trivial) trivial
  rintro ⟨j, hj, hgj⟩;dsimp only;refine Xo ?_
  refine zq ?_ ?_ <;> intro h45
  rotate_left
  ·have hgej : l.length ≤ j := by simpa using h45
   have hA := X4 hgj hgej
   refine Qy ?_;refine Qb ?_;exact ⟨⟨k + 1, hlt, XG hg (XI hx) (by unfold QbI; rw [hA]; simp_all)⟩, Qa rfl (XE ⟨X5, rfl, trivial⟩) trivial, by dsimp only; omega⟩
  have hltj : j < l.length := by simpa using h45
  obtain ⟨y2, hy2⟩ := Qq hltj;refine QC ?_;refine zD 10 ?_;refine QH ?_;refine zp (Qf rfl rfl rfl k rfl _ (Qi hx) rfl) ?_;refine QC ?_;refine zp (Qf rfl rfl rfl j rfl _ (Qi hy2) rfl) ?_;refine QH ?_;refine zP (Qd (Qdq _ _) rfl rfl rfl) ?_;refine zN ?_
  refine zq ?_ ?_ <;> intro h52
  ·refine QD ?_;refine zQ ?_;exact Qo (Q6 hg (XI hx) (by unfold QbI; rw [Q6 hgj hy2 (by simp_all)]; simp)).symm
  refine Qy ?_;refine Qb ?_;exact ⟨⟨j + 1, hltj, XG hgj hy2 (by simp_all)⟩, Qa rfl (Yf ⟨X5, rfl, trivial⟩) trivial, by dsimp only; omega⟩
 have hk0 : 0 < k := by simpa using h19
 obtain ⟨y, hy⟩ := Qq (show k - 1 < l.length by omega);refine QH ?_;refine vP (XO h19) (Kb rfl rfl rfl (by omega)) ?_;refine vP (XO h19) (Qf rfl rfl rfl (k - 1) (by omega) _ (Qi hy) rfl) ?_;refine QD ?_;refine vP (XO h19) (Qf rfl rfl rfl k rfl _ (Qi hx) rfl) ?_;refine JB ?_;refine vP (XO h19) (Qd (QdG y x) rfl rfl rfl) ?_;refine QD ?_
 refine zq ?_ ?_ <;> intro h26
 ·refine QD ?_;refine zQ ?_;exact Qo (Q6 hg (XI hx) (by unfold QbI; simp_all)).symm
 refine Xk ?_;refine Qm (fun x1 : {j : Nat // j ≤ l.length ∧ (l.drop j).all (fun f => !K5 x.1 f.1) = l.all (fun f => !K5 x.1 f.1)} => ⟨[(0, WA l), (3, i64 (k : Nat)), (4, i64 (x1.1 : Nat))], [], 0⟩) (fun x1 => l.length - x1.1) (⟨0, Nat.zero_le _, by simp⟩) ?_ ?_
 ·exact Qa rfl (JZ trivial) trivial
 rintro ⟨j, hj, hgj⟩;dsimp only;refine Xo ?_
 refine zq ?_ ?_ <;> intro h31
 rotate_left
 ·have hgej : l.length ≤ j := by simpa using h31
  have hA := X4 hgj hgej
  refine Qy ?_;refine Qb ?_;exact ⟨⟨k + 1, hlt, XG hg (XI hx) (by unfold QbI; rw [hA]; simp_all)⟩, Qa rfl (XE ⟨X5, rfl, trivial⟩) trivial, by dsimp only; omega⟩
 have hltj : j < l.length := by simpa using h31
 obtain ⟨y2, hy2⟩ := Qq hltj;refine QC ?_;refine zD 10 ?_;refine QH ?_;refine zp (Qf rfl rfl rfl k rfl _ (Qi hx) rfl) ?_;refine QC ?_;refine zp (Qf rfl rfl rfl j rfl _ (Qi hy2) rfl) ?_;refine QH ?_;refine zP (Qd (Qdq _ _) rfl rfl rfl) ?_;refine zN ?_
 refine zq ?_ ?_ <;> intro h38
 ·refine QD ?_;refine zQ ?_;exact Qo (Q6 hg (XI hx) (by unfold QbI; rw [Q6 hgj hy2 (by simp_all)]; simp)).symm
 refine Qy ?_;refine Qb ?_;exact ⟨⟨j + 1, hltj, XG hgj hy2 (by simp_all)⟩, Qa rfl (Yf ⟨X5, rfl, trivial⟩) trivial, by dsimp only; omega⟩
theorem Qtd (l : Qv) (hp : l.ps.length ≤ 64) (ih : ∀ p ∈ l.ps, FC Tryz.prog 106 [.agg (Q2 p)] (.agg (QF (Qn p)))) : FC Tryz.prog 106 [.agg (Q2 l)] (.agg (QF (Qn l))) := by
 refine Ju [.c 2 30 4 true] ⟨⟨inferInstance, rfl⟩, trivial⟩ Tryz.func106 rfl rfl 40 Tryz.ntmps106 (Nat.le_of_ble_eq_true rfl) ?_
 intro E hN;refine QrA ?_
 refine zq ?_ ?_ <;> intro h9
 ·refine Xn ?_;refine Qg ?_;change (resY _ _).bind AV.fzt = some _;refine Xm rfl ?_;rw [JG];refine QhO (QZ ?_) rfl ?_ rfl
  ·simp_all [Qp.N]
  first | (simp_all [Qp.ps]; done) | (refine Qd9 ?_; simp_all [Qp.ps, List.take_of_length_le])
 refine Qy ?_
 refine zq ?_ ?_ <;> intro h16
 ·refine Xn ?_;refine Qg ?_;change (resY _ _).bind AV.fzt = some _;refine Xm rfl ?_;rw [JG];refine QhO (QZ ?_) rfl ?_ rfl
  ·simp_all [Qp.N]
  first | (simp_all [Qp.ps]; done) | (refine Qd9 ?_; simp_all [Qp.ps, List.take_of_length_le])
 refine Xk ?_
 refine zq ?_ ?_ <;> intro h23
 ·refine Xg ?_;refine Qx (Yh rfl 2 2 30 4 rfl rfl rfl) ?_
  refine Qm (fun x : {k : Nat // k ≤ (l.ps).length ∧ True} => ⟨[(1, .ptr 0 0), (2, .ptr 1 0), (3, .ptr 2 0), (4, i64 (x.1 : Nat))], [(0, .var 26 (Q2 l)), (1, .var 30 [i64 0, .p (.slice none 0 0), .p (.slice none 0 0), .p (.slice none 0 0)]), (2, .var 30 [i64 0, .p (.slice none 0 0), .sl (((l.ps.take x.1).map Qn).map KV) (some 3), .p (.slice none 0 0)]), (3, .tok 30 4 ((l.ps.take x.1).map Qn).length)], 4⟩) (fun x => (l.ps).length - x.1) (⟨0, Nat.zero_le _, by simp⟩) ?_ ?_
  ·exact Qa rfl (YO trivial) ⟨rfl, rfl, rfl, rfl, rfl, rfl, rfl, rfl, rfl, rfl, rfl, rfl, trivial⟩
  rintro ⟨k, hk, hg⟩;dsimp only;refine X3 ?_
  refine zq ?_ ?_ <;> intro h31
  rotate_left
  ·have hge : (l.ps).length ≤ k := by simpa using h31
   refine Xk ?_;refine Qg ?_;change (resY _ _).bind AV.fzt = some _;refine Xm rfl ?_;rw [JG];refine QhO (QZ ?_) rfl ?_ rfl
   ·simp_all [Qp.N]
   first | (simp_all [Qp.ps]; done) | (refine Qd9 ?_; simp_all [Qp.ps, List.take_of_length_le])
  have hlt : k < (l.ps).length := by simpa using h31
  obtain ⟨x, hx⟩ := Qq hlt;refine QD ?_;refine zD 9 ?_;refine Qy ?_;refine zp (Qf rfl rfl rfl k rfl _ (XK hx) rfl) ?_;refine zl ?_;refine zp (Qd (ih x (List.mem_of_getElem? hx)) rfl rfl rfl) ?_;refine zp (QG rfl rfl rfl rfl (by exact rfl) (by decide) (by decide)) ?_;refine QM hN rfl rfl rfl (by simp) rfl rfl (QP Y7 _) rfl (by simp [XM]; omega) rfl rfl rfl rfl ?_;refine Xg ?_;refine Qb ?_
  exact ⟨⟨k + 1, hlt, trivial⟩, Qa rfl (JZ ⟨X5, rfl, trivial⟩) ⟨rfl, rfl, rfl, rfl, rfl, rfl, (cgV (QeP hx)), rfl, rfl, (cgT (by simp [XM]; omega)), rfl, rfl, trivial⟩, by dsimp only; omega⟩
 refine QC ?_
 refine zq ?_ ?_ <;> intro h46
 rotate_left
 ·refine Xk ?_;refine Qg ?_;change (resY _ _).bind AV.fzt = some _;refine Xm rfl ?_;rw [JG];refine QhO (QZ ?_) rfl ?_ rfl
  ·simp_all [Qp.N]
  first | (simp_all [Qp.ps]; done) | (refine Qd9 ?_; simp_all [Qp.ps, List.take_of_length_le])
 refine Qy ?_;refine Qx (Yh rfl 2 2 30 4 rfl rfl rfl) ?_
 refine Qm (fun x : {k : Nat // k ≤ (l.ps).length ∧ True} => ⟨[(1, .ptr 0 0), (2, .ptr 1 0), (3, .ptr 2 0), (4, i64 (x.1 : Nat))], [(0, .var 26 (Q2 l)), (1, .var 30 [i64 0, .p (.slice none 0 0), .p (.slice none 0 0), .p (.slice none 0 0)]), (2, .var 30 [i64 0, .p (.slice none 0 0), .sl (((l.ps.take x.1).map Qn).map KV) (some 3), .p (.slice none 0 0)]), (3, .tok 30 4 ((l.ps.take x.1).map Qn).length)], 4⟩) (fun x => (l.ps).length - x.1) (⟨0, Nat.zero_le _, by simp⟩) ?_ ?_
 ·exact Qa rfl (YO trivial) ⟨rfl, rfl, rfl, rfl, rfl, rfl, rfl, rfl, rfl, rfl, rfl, rfl, trivial⟩
 rintro ⟨k, hk, hg⟩;dsimp only;refine X3 ?_
 refine zq ?_ ?_ <;> intro h54
 rotate_left
 ·have hge : (l.ps).length ≤ k := by simpa using h54
  refine Xk ?_;refine Qg ?_;change (resY _ _).bind AV.fzt = some _;refine Xm rfl ?_;rw [JG];refine QhO (QZ ?_) rfl ?_ rfl
  ·simp_all [Qp.N]
  first | (simp_all [Qp.ps]; done) | (refine Qd9 ?_; simp_all [Qp.ps, List.take_of_length_le])
 have hlt : k < (l.ps).length := by simpa using h54
 obtain ⟨x, hx⟩ := Qq hlt;refine QD ?_;refine zD 9 ?_;refine Qy ?_;refine zp (Qf rfl rfl rfl k rfl _ (XK hx) rfl) ?_;refine zl ?_;refine zp (Qd (ih x (List.mem_of_getElem? hx)) rfl rfl rfl) ?_;refine zp (QG rfl rfl rfl rfl (by exact rfl) (by decide) (by decide)) ?_;refine QM hN rfl rfl rfl (by simp) rfl rfl (QP Y7 _) rfl (by simp [XM]; omega) rfl rfl rfl rfl ?_;refine Xg ?_;refine Qb ?_
 exact ⟨⟨k + 1, hlt, trivial⟩, Qa rfl (JZ ⟨X5, rfl, trivial⟩) ⟨rfl, rfl, rfl, rfl, rfl, rfl, (cgV (QeP hx)), rfl, rfl, (cgT (by simp [XM]; omega)), rfl, rfl, trivial⟩, by dsimp only; omega⟩
theorem Qdr (l : Qv) (h : YM l) : FC Tryz.prog 106 [.agg (Q2 l)] (.agg (QF (Qn l))) := Qtd l h.small (fun p hp => Qdr p (h.part p hp))
termination_by l
decreasing_by exact Qv.sizeOf_ps ‹_›
end Go.Proofs.YtnkkokmmeplbgaaGreat
