/-
  Contracts of the reference: descriptions are checked.
-/
import Derived.Test.YtaecccdkjmipeaaGreatC1
import Derived.Test.YtaecccdkjmipeaaGreatB3
import Derived.Test.YtaecccdkjmipeaaGreatB11
namespace Go.Proofs.YtaecccdkjmipeaaGreat
set_option maxRecDepth 100000
set_option maxHeartbeats 1000000
open Go.RowKit
instance tpairTick : QqO Tryz.prog 153 := ⟨by kernel_rfl, by kernel_rfl, by kernel_rfl, by kernel_rfl⟩
theorem Qji (s : Nm) : FC Tryz.prog 162 [sv s] (bl (XV s)) := by
 refine Qd [2] Tryz.func162 rfl rfl 56 Tryz.ntmps162 (Nat.le_of_ble_eq_true rfl) ?_
 intro E hN
 refine YJ ?_
 refine zc 7 ?_ ?_ <;> intro h3
 ·
  have hv := QdC (s := s) (.inl (by have := of_decide_eq_true h3; omega))
  refine Qil ?_; refine zQ ?_
  exact Qt hv.symm
 obtain ⟨c0, hc0, hh⟩ := Qtv (s := s) (by have := of_decide_eq_false h3; omega)
 refine QA ?_
 refine zc 12 ?_ ?_ <;> intro h5
 ·
  have hv := QdC (s := s) (.inr (.inl (by have := of_decide_eq_true h5; omega)))
  refine WG ?_; refine zQ ?_
  exact Qt hv.symm
 have h16 : s.length ≤ 16 := by have := of_decide_eq_false h5; omega
 refine KO ?_; refine uP (JI h5) (Wd rfl rfl rfl 0 rfl _ hc0) ?_; refine QC ?_
 refine zc 17 ?_ ?_ <;> intro h7
 ·
  have hv := QdC (s := s) (.inr (.inr (by rw [hh]; have := of_decide_eq_true h7; rw [decide_eq_false (by omega)]; rfl)))
  refine JU ?_; refine zQ ?_
  exact Qt hv.symm
 have h97 : 97 ≤ (c0.toNat : Int) := by have := of_decide_eq_false h7; omega
 refine KO ?_; refine uP (JI h7) (Wd rfl rfl rfl 0 rfl _ hc0) ?_; refine QC ?_
 refine zq ?_ ?_ <;> intro h9
 ·
  have hv := QdC (s := s) (.inr (.inr (by rw [hh]; have := of_decide_eq_true h9; rw [decide_eq_false (show ¬ (c0.toNat : Int) ≤ 122 by omega), Bool.and_false])))
  refine QC ?_; refine zQ ?_
  exact Qt hv.symm
 have hv : XV s = s.all (fun c => Ye c.toNat) := by
  have := of_decide_eq_false h9
  rw [XV, hh, decide_eq_true h16, decide_eq_true h97, decide_eq_true (by omega)]; rfl
 refine Xz ?_
 refine Qi (fun x : {k : Nat // k ≤ (s).length ∧ (s.drop k).all (fun c => Ye c.toNat) = s.all (fun c => Ye c.toNat)} => ⟨[(0, sv s), (3, i64 (x.1 : Nat))], [], 0⟩) (fun x => (s).length - x.1) (⟨0, Nat.zero_le _, by simp⟩) ?_ ?_
 ·
  exact Qa rfl (Jg trivial) trivial
 rintro ⟨k, hk, hg⟩
 dsimp only
 refine XJ ?_
 refine zq ?_ ?_ <;> intro h13
 rotate_left
 ·
  have hge : (s).length ≤ k := by simpa using h13
  refine QJ ?_; refine zQ ?_
  exact Qt (by rw [hv, X4 hg hge])
 have hlt : k < (s).length := by simpa using h13
 obtain ⟨x, hx⟩ := Qk hlt
 refine Xz ?_; refine zP (Wd rfl rfl rfl k rfl _ hx) ?_; refine QO ?_
 refine zc 32 ?_ ?_ <;> intro h15
 ·
  refine XJ ?_; refine zP (Wd rfl rfl rfl k rfl _ hx) ?_; refine QO ?_
  refine zc 43 ?_ ?_ <;> intro h17
  ·
   refine JU ?_; refine zP (Wd rfl rfl rfl k rfl _ hx) ?_; refine QC ?_
   refine zq ?_ ?_ <;> intro h19
   ·
    refine QC ?_; refine zQ ?_
    exact Qt (by rw [hv, Q6 hg hx (by first | (simp_all; done) | (simp_all [Ye]; done) | (simp_all [Ye]; omega))])
   refine QA ?_; refine Qb ?_
   exact ⟨⟨k + 1, hlt, XF hg hx (by first | (simp_all; done) | (simp_all [Ye]; done) | (simp_all [Ye]; omega))⟩, Qa rfl (Xu ⟨(QE (by dsimp only; omega)), rfl, trivial⟩) trivial, by dsimp only; omega⟩
  refine QO ?_; refine uP (JI h17) (Wd rfl rfl rfl k rfl _ hx) ?_; refine QJ ?_
  refine zc 50 ?_ ?_ <;> intro h22
  ·
   refine QO ?_; refine uP (X7 h22) (Wd rfl rfl rfl k rfl _ hx) ?_; refine QC ?_
   refine zq ?_ ?_ <;> intro h24
   ·
    refine QC ?_; refine zQ ?_
    exact Qt (by rw [hv, Q6 hg hx (by first | (simp_all; done) | (simp_all [Ye]; done) | (simp_all [Ye]; omega))])
   refine QA ?_; refine Qb ?_
   exact ⟨⟨k + 1, hlt, XF hg hx (by first | (simp_all; done) | (simp_all [Ye]; done) | (simp_all [Ye]; omega))⟩, Qa rfl (Xu ⟨(QE (by dsimp only; omega)), rfl, trivial⟩) trivial, by dsimp only; omega⟩
  refine JA ?_; refine Qb ?_
  exact ⟨⟨k + 1, hlt, XF hg hx (by first | (simp_all; done) | (simp_all [Ye]; done) | (simp_all [Ye]; omega))⟩, Qa rfl (Xu ⟨(QE (by dsimp only; omega)), rfl, trivial⟩) trivial, by dsimp only; omega⟩
 refine QO ?_; refine uP (JI h15) (Wd rfl rfl rfl k rfl _ hx) ?_; refine QC ?_
 refine zc 38 ?_ ?_ <;> intro h28
 rotate_left
 ·
  refine Yd ?_; refine Qb ?_
  exact ⟨⟨k + 1, hlt, XF hg hx (by first | (simp_all; done) | (simp_all [Ye]; done) | (simp_all [Ye]; omega))⟩, Qa rfl (Xu ⟨(QE (by dsimp only; omega)), rfl, trivial⟩) trivial, by dsimp only; omega⟩
 refine QO ?_; refine uP (X7 h28) (Wd rfl rfl rfl k rfl _ hx) ?_; refine QO ?_
 refine zc 43 ?_ ?_ <;> intro h30
 ·
  refine QJ ?_; refine uP (X7 h28) (XI rfl rfl h30 rfl) ?_; refine QJ ?_; refine zP (Wd rfl rfl rfl k rfl _ hx) ?_; refine QC ?_
  refine zq ?_ ?_ <;> intro h32
  ·
   refine QC ?_; refine zQ ?_
   exact Qt (by rw [hv, Q6 hg hx (by first | (simp_all; done) | (simp_all [Ye]; done) | (simp_all [Ye]; omega))])
  refine QA ?_; refine Qb ?_
  exact ⟨⟨k + 1, hlt, XF hg hx (by first | (simp_all; done) | (simp_all [Ye]; done) | (simp_all [Ye]; omega))⟩, Qa rfl (Xu ⟨(QE (by dsimp only; omega)), rfl, trivial⟩) trivial, by dsimp only; omega⟩
 refine QO ?_; refine uP (JI h30) (Wd rfl rfl rfl k rfl _ hx) ?_; refine KO ?_; refine uP (X7 h28) (Ji rfl rfl h30 rfl) ?_; refine QO ?_
 refine zc 50 ?_ ?_ <;> intro h35
 ·
  refine QO ?_; refine uP (X7 h35) (Wd rfl rfl rfl k rfl _ hx) ?_; refine QC ?_
  refine zq ?_ ?_ <;> intro h37
  ·
   refine QC ?_; refine zQ ?_
   exact Qt (by rw [hv, Q6 hg hx (by first | (simp_all; done) | (simp_all [Ye]; done) | (simp_all [Ye]; omega))])
  refine QA ?_; refine Qb ?_
  exact ⟨⟨k + 1, hlt, XF hg hx (by first | (simp_all; done) | (simp_all [Ye]; done) | (simp_all [Ye]; omega))⟩, Qa rfl (Xu ⟨(QE (by dsimp only; omega)), rfl, trivial⟩) trivial, by dsimp only; omega⟩
 refine JA ?_; refine Qb ?_
 exact ⟨⟨k + 1, hlt, XF hg hx (by first | (simp_all; done) | (simp_all [Ye]; done) | (simp_all [Ye]; omega))⟩, Qa rfl (Xu ⟨(QE (by dsimp only; omega)), rfl, trivial⟩) trivial, by dsimp only; omega⟩
theorem Qj9 (l : List Nm) (s : Nm) : FC Tryz.prog 163 [XU l, sv s] (bl (Jn l s)) := by
 refine Qd [4] Tryz.func163 rfl rfl 18 Tryz.ntmps163 (Nat.le_of_ble_eq_true rfl) ?_
 intro E hN
 refine JK 0 rfl (fun hl0 => ?_)
 refine XN ?_
 refine Qi (fun x : {k : Nat // k ≤ (l).length ∧ (l.drop k).any (s == ·) = l.any (s == ·)} => ⟨[(0, XU l), (1, sv s), (5, i64 (x.1 : Nat))], [], 0⟩) (fun x => (l).length - x.1) (⟨0, Nat.zero_le _, by simp⟩) ?_ ?_
 ·
  exact Qa rfl (Xl trivial) trivial
 rintro ⟨k, hk, hg⟩
 dsimp only
 refine XJ ?_
 refine zq ?_ ?_ <;> intro h7
 rotate_left
 ·
  have hge : (l).length ≤ k := by simpa using h7
  refine QJ ?_; refine zQ ?_
  exact Qt (QnZ hg hge).symm
 have hlt : k < (l).length := by simpa using h7
 obtain ⟨x, hx⟩ := Qk hlt
 refine Xz ?_; refine zP (Qh rfl rfl rfl k rfl _ (Qq hx) rfl) ?_; refine QJ ?_
 refine zq ?_ ?_ <;> intro h10
 ·
  have hxs : x = s := by simpa using h10
  refine QC ?_; refine zQ ?_
  exact Qt (Qoa hg hx (by rw [hxs]; simp)).symm
 have hxs : x ≠ s := by simpa using h10
 refine QA ?_; refine Qb ?_
 exact ⟨⟨k + 1, hlt, Qqs hg hx (beq_eq_false_iff_ne.2 fun e => hxs e.symm)⟩, Qa rfl (Jg ⟨(QE (by dsimp only; omega)), rfl, trivial⟩) trivial, by dsimp only; omega⟩
theorem QpH {l : List Nm} {k : Nat} {x y : Nm} (hk : 0 < k) (hg : Qo (l.drop (k - 1)) = Qo l) (hy : l[k - 1]? = some y) (hx : l[k]? = some x) : Qo l = (Op.bytesLess y x && Qo (l.drop (k + 1 - 1))) := by
 rw [QfA hk hg hy hx, Nat.add_sub_cancel]
def QcA (l : List Nm) : Bool := l.all XV && Qo l
theorem Qo3 (l : List Nm) : FC Tryz.prog 164 [XU l] (bl (QcA l)) := by
 refine Qd [2] Tryz.func164 rfl rfl 32 Tryz.ntmps164 (Nat.le_of_ble_eq_true rfl) ?_
 intro E hN
 refine JK 0 rfl (fun hl0 => ?_)
 refine XN ?_
 refine Qi (fun x : {k : Nat // k ≤ l.length ∧ (l.drop k).all XV = l.all XV ∧ Qo (l.drop (k - 1)) = Qo l} => ⟨[(0, XU l), (3, i64 (x.1 : Nat))], [], 0⟩) (fun x => l.length - x.1) (⟨0, Nat.zero_le _, rfl, rfl⟩) ?_ ?_
 ·
  exact Qa rfl (Jg trivial) trivial
 rintro ⟨k, hk, hg, hg2⟩
 dsimp only
 refine XJ ?_
 refine zq ?_ ?_ <;> intro h5
 rotate_left
 ·
  have hge : (l).length ≤ k := by simpa using h5
  refine QJ ?_; refine zQ ?_
  exact Qt (by rw [QcA, X4 hg hge, QhZ hg2 hge]; rfl)
 have hlt : k < (l).length := by simpa using h5
 obtain ⟨x, hx⟩ := Qk hlt
 refine QJ ?_; refine Qy 21 (by kernel_rfl) (by kernel_rfl) ?_; refine QO ?_; refine zp (Qh rfl rfl rfl k rfl _ (Qq hx) rfl) ?_
 refine zl ?_; refine zp (Qc (Qji x) rfl rfl rfl) ?_; refine QO ?_
 refine zd 16 ?_ ?_ <;> intro h8
 ·
  have hno : QcA l = false := by rw [QcA, Q6 hg hx (n1 h8)]; rfl
  refine WG ?_; change Qz _ _ _ _ _ _; refine Je ?_; refine zQ ?_
  exact Qt hno.symm
 have hv : XV x = true := n0 h8
 refine QC ?_
 refine zd 19 ?_ ?_ <;> intro h9
 rotate_left
 ·
  have hk0 : k = 0 := by have := of_decide_eq_false h9; omega
  have hnx : Qo (l.drop (k + 1 - 1)) = Qo l := by rw [hk0]; rfl
  refine XN ?_; refine vP (JI (m1 (n0 h8))) (Ji rfl rfl h9 rfl) ?_; change Qz _ _ _ _ _ _; refine XJ ?_; refine Qb ?_
  exact ⟨⟨k + 1, hlt, XF hg hx hv, hnx⟩, Qa rfl (Xu ⟨(QE (by dsimp only; omega)), rfl, trivial⟩) trivial, by dsimp only; omega⟩
 have hk0 : 0 < k := by have := of_decide_eq_true h9; omega
 obtain ⟨y, hy⟩ := Qk (show k - 1 < l.length by omega)
 have hrs := QpH hk0 hg2 hy hx
 refine QO ?_; refine vP (X7 h9) (WJ rfl rfl rfl (by omega)) ?_; refine vP (X7 h9) (Qh rfl rfl rfl (k - 1) (by omega) _ (Qq hy) rfl) ?_
 refine QC ?_; refine vP (X7 h9) (Qh rfl rfl rfl k rfl _ (Qq hx) rfl) ?_; refine QO ?_
 refine vP (JI (m1 (n0 h8))) (XI rfl rfl h9 rfl) ?_; change Qz _ _ _ _ _ _; refine QO ?_
 refine zq ?_ ?_ <;> intro h15
 ·
  have hno : QcA l = false := by rw [QcA, hrs]; simp_all
  refine QC ?_; refine zQ ?_
  exact Qt hno.symm
 have hnx : Qo (l.drop (k + 1 - 1)) = Qo l := by rw [hrs]; simp_all
 refine QA ?_; refine Qb ?_
 exact ⟨⟨k + 1, hlt, XF hg hx hv, hnx⟩, Qa rfl (Xu ⟨(QE (by dsimp only; omega)), rfl, trivial⟩) trivial, by dsimp only; omega⟩
theorem Qpq (l : Qs) (ih : ∀ q ∈ l.ps, FC Tryz.prog 139 [.agg (QF q)] (bl (chainB q))) : FC Tryz.prog 139 [.agg (QF l)] (bl (chainB l)) := by
 refine Qd [2] Tryz.func139 rfl rfl 29 Tryz.ntmps139 (Nat.le_of_ble_eq_true rfl) ?_
 intro E hN
 refine JA ?_
 refine QaL (⟨[(1, .ptr 0 0), (4, i64 l.k), (5, bl (l.k == 1 || l.k == 2 || l.k == 3))], [(0, .var 26 (QF l))], 1⟩) ?_ ?_
 ·
  refine QA ?_
  refine zq ?_ ?_ <;> intro h5
  ·
   refine XM ?_
   exact Qa rfl (Jg ⟨(KG (by simp_all)), rfl, trivial⟩) ⟨rfl, rfl, rfl, trivial⟩
  refine QA ?_
  refine zq ?_ ?_ <;> intro h6
  ·
   refine XM ?_
   exact Qa rfl (Jg ⟨(KG (by simp_all)), rfl, trivial⟩) ⟨rfl, rfl, rfl, trivial⟩
  refine QC ?_; refine Qb ?_
  exact Qa rfl (Jg ⟨(KG (by simp_all)), rfl, trivial⟩) ⟨rfl, rfl, rfl, trivial⟩
 refine zq ?_ ?_ <;> intro h10
 ·
  have h123 := h10
  refine QC ?_; refine zQ ?_
  exact Qt (QeG h123).symm
 have h123 : (l.k == 1 || l.k == 2 || l.k == 3) = false := h10
 refine QA ?_
 refine zq ?_ ?_ <;> intro h11
 rotate_left
 ·
  have h7 := h11
  refine QJ ?_; refine zQ ?_
  exact Qt (by
   simp only [Bool.or_eq_false_iff] at h123
   exact (YO h123.1.1 h123.1.2 h123.2 (.inl h7)).symm)
 have h7 := h11
 refine Xz ?_
 refine zc 15 ?_ ?_ <;> intro h15
 rotate_left
 ·
  have h72 : chainB l = false := by
   have e := h15
   simp only [Bool.or_eq_false_iff] at h123
   exact YO h123.1.1 h123.1.2 h123.2 (.inr (by intro e2; simp [e2] at e))
  refine WG ?_; refine zQ ?_
  exact Qt (by first | exact h72.symm | (rw [h72]; simp_all))
 obtain ⟨a, b, hps⟩ : ∃ a b, l.ps = [a, b] := by
  have h2 : l.ps.length = 2 := by have e := h15; simp at e; omega
  match l.ps, h2 with
  | [a, b], _ => exact ⟨a, b, rfl⟩
 have ha : l.ps[0]? = some a := by rw [hps]; rfl
 have hb : l.ps[1]? = some b := by rw [hps]; rfl
 have h72 := Qc0 h7 hps
 refine QO ?_; refine uP (X7 h15) (Qh rfl rfl rfl 0 rfl _ (Xt ha) rfl) ?_; refine KO ?_
 refine uP (X7 h15) (Qc (ih a (List.mem_of_getElem? ha)) rfl rfl rfl) ?_; refine QO ?_
 refine zc 22 ?_ ?_ <;> intro h20
 ·
  refine QO ?_; refine uP (X7 h20) (Qh rfl rfl rfl 1 rfl _ (Xt hb) rfl) ?_; refine KO ?_
  refine uP (X7 h20) (Qc (ih b (List.mem_of_getElem? hb)) rfl rfl rfl) ?_; refine QO ?_; refine zQ ?_
  exact Qt (by first | exact h72.symm | (rw [h72]; simp_all))
 refine Xz ?_; refine zQ ?_
 exact Qt (by first | exact h72.symm | (rw [h72]; simp_all))
theorem Qd9 (l : Qs) : FC Tryz.prog 139 [.agg (QF l)] (bl (chainB l)) := Qpq l (fun q hq => Qd9 q)
termination_by l
decreasing_by exact Qs.sizeOf_ps ‹_›
end Go.Proofs.YtaecccdkjmipeaaGreat
namespace Go.Proofs.YtaecccdkjmipeaaGreat
set_option maxRecDepth 100000
set_option maxHeartbeats 1000000
open Go.RowKit
section
variable {l : Qs}
def Jj (l : Qs) : Bool := (!(l.k == 2 || l.k == 3) && (l.lo != 0 || l.hi != 0)) || (l.k != 10 && ((l.rs.length : Int) != 0))
theorem QaE (h : Jj l = true) : (Xq l == 0) = false := by
 unfold Xq
 split
 ·have : KE l = true := by
   unfold KE
   unfold Jj at h
   simp only [Bool.or_eq_true, Bool.and_eq_true, Bool.not_eq_true', bne_iff_ne, ne_eq] at h ⊢
   rcases h with h | h
   ·right
    refine ⟨?_, ?_⟩
    ·unfold Ja; exact h.1
    exact h.2
   left; right
   refine ⟨by simpa using h.1, decide_eq_true (by have := h.2; omega)⟩
  rw [this]; rfl
 rfl
theorem QiB (h : Jj l = false) (hk : Y5 l.k = true) : (Xq l == 0) = (((l.ps.length : Int) == Yb l) && !(!Jr l.k && decide ((l.nm.length : Int) > 0)) && !Yg l) := by
 unfold Jj at h
 simp only [Bool.or_eq_false_iff, Bool.and_eq_false_iff, Bool.not_eq_false', bne_eq_false_iff_eq] at h
 have h1 : (!(l.k == 10) && decide ((l.rs.length : Int) > 0)) = false := by
  rcases h.2 with h2 | h2
  ·rw [h2]; rfl
  rw [decide_eq_false (by omega), Bool.and_false]
 have h2 : (!Ja l.k && (l.lo != 0 || l.hi != 0)) = false := by
  rcases h.1 with h3 | h3
  ·unfold Ja; rw [h3]; rfl
  rw [h3.1, h3.2]; simp
 unfold Xq KE bne
 unfold bne at h2
 rw [if_pos hk, h1, h2, Bool.or_false, Bool.or_false]
 cases ((l.ps.length : Int) == Yb l) <;> cases (!Jr l.k && decide ((l.nm.length : Int) > 0)) <;> cases Yg l <;> rfl
theorem QuJ (hk : Y5 l.k = false) : (Xq l == 0) = false := by
 unfold Xq
 rw [if_neg (by rw [hk]; decide)]; rfl
theorem gt0 {n : Nat} : decide ((n : Int) > 0) = !((n : Int) == 0) := by
 by_cases h : n = 0
 ·subst h; rfl
 rw [decide_eq_true (by omega), beq_eq_false_iff_ne.2 (by omega)]; rfl
theorem Qhj (h5 : l.k ≠ 5) (h7 : l.k ≠ 7) (h6 : l.k ≠ 6) : Yb l = 0 := by unfold Yb; rw [if_neg h5, if_neg h7, if_neg h6]
theorem QsV (h : Jj l = false) (hk : l.k = 1 ∨ l.k = 2 ∨ l.k = 3 ∨ l.k = 9) : (Xq l == 0) = ((l.nm.length : Int) == 0 && (l.ps.length : Int) == 0) := by
 rw [QiB h (by rcases hk with hk | hk | hk | hk <;> rw [hk] <;> rfl), Qhj (by omega) (by omega) (by omega), gt0, show Jr l.k = false by rcases hk with hk | hk | hk | hk <;> rw [hk] <;> rfl, show Yg l = false by unfold Yg; rcases hk with hk | hk | hk | hk <;> rw [hk] <;> rfl]
 cases ((l.nm.length : Int) == 0) <;> cases ((l.ps.length : Int) == 0) <;> rfl
theorem QwP (h : Jj l = false) (hk : l.k = 4 ∨ l.k = 8) : (Xq l == 0) = ((l.ps.length : Int) == 0) := by
 rw [QiB h (by rcases hk with hk | hk <;> rw [hk] <;> rfl), Qhj (by omega) (by omega) (by omega), show Jr l.k = true by rcases hk with hk | hk <;> rw [hk] <;> rfl, show Yg l = false by unfold Yg; rcases hk with hk | hk <;> rw [hk] <;> rfl]
 cases ((l.ps.length : Int) == 0) <;> rfl
theorem QwZ (h : Jj l = false) (hk : l.k = 5) : (Xq l == 0) = ((l.ps.length : Int) == 1) := by
 rw [QiB h (by rw [hk]; rfl), show Yb l = 1 by unfold Yb; rw [if_pos hk], show Jr l.k = true by rw [hk]; rfl, show Yg l = false by unfold Yg; rw [hk]; rfl]
 cases ((l.ps.length : Int) == 1) <;> rfl
theorem Qt3 (h : Jj l = false) (hk : l.k = 6) : (Xq l == 0) = (decide ((l.nm.length : Int) > 0) && ((l.nm.length : Int) == l.ps.length)) := by
 rw [QiB h (by rw [hk]; rfl), show Yb l = l.nm.length by unfold Yb; rw [hk]; rfl, show Jr l.k = true by rw [hk]; rfl, show Yg l = ((l.nm.length : Int) == 0) by unfold Yg; rw [hk]; rfl, gt0, show ((l.ps.length : Int) == l.nm.length) = ((l.nm.length : Int) == l.ps.length) from BEq.comm]
 cases ((l.nm.length : Int) == 0) <;> cases ((l.nm.length : Int) == l.ps.length) <;> rfl
theorem Quq (h : Jj l = false) (hk : l.k = 7) : (Xq l == 0) = ((l.nm.length : Int) == 0 && (l.ps.length : Int) == 2) := by
 rw [QiB h (by rw [hk]; rfl), show Yb l = 2 by unfold Yb; rw [hk]; rfl, gt0, show Jr l.k = false by rw [hk]; rfl, show Yg l = false by unfold Yg; rw [hk]; rfl]
 cases ((l.nm.length : Int) == 0) <;> cases ((l.ps.length : Int) == 2) <;> rfl
theorem Qn8 (h : Jj l = false) (hk : l.k = 10) : (Xq l == 0) = (decide ((l.nm.length : Int) > 0) && ((l.ps.length : Int) == 0)) := by
 rw [QiB h (by rw [hk]; rfl), Qhj (by omega) (by omega) (by omega), show Jr l.k = true by rw [hk]; rfl, show Yg l = ((l.nm.length : Int) == 0) by unfold Yg; rw [hk]; rfl, gt0]
 cases ((l.nm.length : Int) == 0) <;> cases ((l.ps.length : Int) == 0) <;> rfl
def Qhb (nm : List Nm) (r : Ru) : Bool := !((r.i.length : Int) == 0) && QcA r.i && Jn nm r.t && r.i.all (Jn nm)
def Qaq (l : Qs) : Bool := if l.k == 6 then l.nm.zipIdx.all fun q => XV q.1 && !Jn (l.nm.take q.2) q.1 else QcA l.nm && l.rs.all (Qhb l.nm)
theorem Qjg : ∀ (l : List Nm) (n : Nat), ((l.zipIdx n).all fun q => XV q.1) = l.all XV
 | [], _ => rfl
 | x :: r, n => by rw [List.zipIdx_cons, List.all_cons, List.all_cons, Qjg r]
theorem QdJ (hs : Xq l = 0) : Qaq l = (Jw l == 0) := by
 have hrs : l.k ≠ 10 → l.rs = [] := fun hk => by
  cases hst : Jj l
  ·unfold Jj at hst
   simp only [Bool.or_eq_false_iff, Bool.and_eq_false_iff, bne_eq_false_iff_eq] at hst
   rcases hst.2 with h | h
   ·exact absurd h hk
   exact List.eq_nil_of_length_eq_zero (by omega)
  have := QaE hst
  rw [hs] at this; cases this
 unfold Qaq Jw
 by_cases h6 : l.k = 6
 ·rw [if_pos (by rw [h6]; rfl), hrs (by omega)]
  have : l.nm.zipIdx.all (Qab l) = l.nm.zipIdx.all fun q => XV q.1 && !Jn (l.nm.take q.2) q.1 := by
   congr 1
   funext q
   unfold Qab
   rw [h6]; rfl
  rw [this, h6]
  simp only [beq_self_eq_true, Bool.true_or, Bool.and_true, List.all_nil]
  cases l.nm.zipIdx.all fun q => XV q.1 && !Jn (l.nm.take q.2) q.1 <;> rfl
 have hk6 : (l.k == 6) = false := beq_eq_false_iff_ne.2 h6
 rw [if_neg (by rw [hk6]; decide), hk6]
 have : l.nm.zipIdx.all (Qab l) = l.nm.all XV := by
  rw [← Qjg l.nm 0]
  congr 1
  funext q
  unfold Qab
  rw [hk6]; simp
 rw [this, Bool.false_or]
 by_cases hv : l.nm.all XV = true
 ·have hr : l.rs.all (Qhb l.nm) = l.rs.all (Wf l.nm) := by
   have : ∀ r, Qhb l.nm r = Wf l.nm r := fun r => by
    unfold Qhb Wf QcA
    have hsub : JR r.i l.nm = r.i.all (Jn l.nm) := rfl
    rw [hsub]
    cases ha : r.i.all (Jn l.nm)
    ·simp
    have hva : r.i.all XV = true := by
     rw [List.all_eq_true] at ha hv ⊢
     exact fun x hx => hv x (Jb.1 (ha x hx))
    rw [hva]
    cases (!((r.i.length : Int) == 0)) <;> cases Qo r.i <;> cases Jn l.nm r.t <;> rfl
   congr 1
   funext r
   exact this r
  unfold QcA
  rw [hr, hv]
  cases Qo l.nm <;> cases l.rs.all (Wf l.nm) <;> rfl
 rw [Bool.not_eq_true] at hv
 unfold QcA
 rw [hv]; rfl
end
theorem QgS (l : Qs) : FC Tryz.prog 137 [.agg (QF l)] (bl (Xq l == 0)) := by
 refine Qd [2] Tryz.func137 rfl rfl 104 Tryz.ntmps137 (Nat.le_of_ble_eq_true rfl) ?_
 intro E hN
 refine YJ ?_
 refine zc 7 ?_ ?_ <;> intro h5
 ·
  refine Je ?_; refine Qmv (⟨[(1, .ptr 0 0)], [(0, .var 26 (QF l))], 1⟩) (Jj l = false) ?_ ?_
  ·
   refine Qil ?_
   refine zc 28 ?_ ?_ <;> intro h8
   ·
    refine Xz ?_
    refine zq ?_ ?_ <;> intro h12
    ·
     refine QC ?_; refine zQ ?_
     exact Qt (QaE (by first | (simp_all [Jj]; done) | (simp_all [Jj]; omega))).symm
    refine XM ?_
    exact ⟨(by first | (simp_all [Jj]; done) | (simp_all [Jj]; omega)), Qa rfl (Xu trivial) ⟨rfl, rfl, rfl, trivial⟩⟩
   refine XJ ?_; refine XM ?_
   exact ⟨(by first | (simp_all [Jj]; done) | (simp_all [Jj]; omega)), Qa rfl (Xu trivial) ⟨rfl, rfl, rfl, trivial⟩⟩
  intro hst
  refine Xz ?_
  refine QaL (⟨[(1, .ptr 0 0), (36, i64 l.k), (37, bl (l.k == 1 || l.k == 2 || l.k == 3 || l.k == 9))], [(0, .var 26 (QF l))], 1⟩) ?_ ?_
  ·
   refine QA ?_
   refine zq ?_ ?_ <;> intro h16
   ·
    refine XM ?_
    exact Qa rfl (Jg ⟨(KG (by simp_all)), rfl, trivial⟩) ⟨rfl, rfl, rfl, trivial⟩
   refine QA ?_
   refine zq ?_ ?_ <;> intro h17
   ·
    refine XM ?_
    exact Qa rfl (Jg ⟨(KG (by simp_all)), rfl, trivial⟩) ⟨rfl, rfl, rfl, trivial⟩
   refine QA ?_
   refine zq ?_ ?_ <;> intro h18
   ·
    refine XM ?_
    exact Qa rfl (Jg ⟨(KG (by simp_all)), rfl, trivial⟩) ⟨rfl, rfl, rfl, trivial⟩
   refine QC ?_; refine Qb ?_
   exact Qa rfl (Jg ⟨(KG (by simp_all)), rfl, trivial⟩) ⟨rfl, rfl, rfl, trivial⟩
  refine zq ?_ ?_ <;> intro h22
  ·
   have hk : l.k = 1 ∨ l.k = 2 ∨ l.k = 3 ∨ l.k = 9 := by simpa [or_assoc] using h22
   refine Xz ?_
   refine zc 46 ?_ ?_ <;> intro h26
   ·
    refine Je ?_; refine zQ ?_
    exact Qt (by rw [QsV hst hk]; simp_all)
   refine Je ?_; refine zQ ?_
   exact Qt (by rw [QsV hst hk]; simp_all)
  have hA := h22
  refine QaL (⟨[(1, .ptr 0 0), (36, i64 l.k), (52, bl (l.k == 4 || l.k == 8))], [(0, .var 26 (QF l))], 1⟩) ?_ ?_
  ·
   refine QA ?_
   refine zq ?_ ?_ <;> intro h31
   ·
    refine XM ?_
    exact Qa rfl (Jg ⟨(KG (by simp_all)), rfl, trivial⟩) ⟨rfl, rfl, rfl, trivial⟩
   refine QC ?_; refine Qb ?_
   exact Qa rfl (Jg ⟨(KG (by simp_all)), rfl, trivial⟩) ⟨rfl, rfl, rfl, trivial⟩
  refine zq ?_ ?_ <;> intro h35
  ·
   have hk : l.k = 4 ∨ l.k = 8 := by simpa using h35
   refine Xz ?_; refine zQ ?_
   exact Qt (by rw [QwP hst hk]; simp)
  have hB := h35
  refine QA ?_
  refine zq ?_ ?_ <;> intro h40
  ·
   have hk : l.k = 5 := by simpa using h40
   refine Xz ?_; refine zQ ?_
   exact Qt (by rw [QwZ hst hk]; simp)
  have h5 := h40
  refine QA ?_
  refine zq ?_ ?_ <;> intro h45
  ·
   have hk : l.k = 6 := by simpa using h45
   refine Xz ?_
   refine zc 71 ?_ ?_ <;> intro h49
   ·
    refine JU ?_; refine zQ ?_
    exact Qt (by rw [Qt3 hst hk]; simp_all)
   refine JU ?_; refine zQ ?_
   exact Qt (by rw [Qt3 hst hk]; simp_all)
  have h6 := h45
  refine QA ?_
  refine zq ?_ ?_ <;> intro h57
  ·
   have hk : l.k = 7 := by simpa using h57
   refine Xz ?_
   refine zc 86 ?_ ?_ <;> intro h61
   ·
    refine Je ?_; refine zQ ?_
    exact Qt (by rw [Quq hst hk]; simp_all)
   refine Je ?_; refine zQ ?_
   exact Qt (by rw [Quq hst hk]; simp_all)
  have h7 := h57
  refine QA ?_
  refine zq ?_ ?_ <;> intro h66
  rotate_left
  ·
   have h10 := h66
   refine QJ ?_; refine zQ ?_
   exact Qt (QuJ (by unfold Y5 Ja Jr; simp_all)).symm
  have hk : l.k = 10 := by simpa using h66
  refine Xz ?_
  refine zc 98 ?_ ?_ <;> intro h70
  ·
   refine Je ?_; refine zQ ?_
   exact Qt (by rw [Qn8 hst hk]; simp_all)
  refine Je ?_; refine zQ ?_
  exact Qt (by rw [Qn8 hst hk]; simp_all)
 refine Je ?_; refine Qmv (⟨[(1, .ptr 0 0)], [(0, .var 26 (QF l))], 1⟩) (Jj l = false) ?_ ?_
 ·
  refine QA ?_
  refine zc 14 ?_ ?_ <;> intro h77
  rotate_left
  ·
   refine WG ?_
   refine zc 28 ?_ ?_ <;> intro h93
   ·
    refine Xz ?_
    refine zq ?_ ?_ <;> intro h97
    ·
     refine QC ?_; refine zQ ?_
     exact Qt (QaE (by first | (simp_all [Jj]; done) | (simp_all [Jj]; omega))).symm
    refine XM ?_
    exact ⟨(by first | (simp_all [Jj]; done) | (simp_all [Jj]; omega)), Qa rfl (Xu trivial) ⟨rfl, rfl, rfl, trivial⟩⟩
   refine XJ ?_; refine XM ?_
   exact ⟨(by first | (simp_all [Jj]; done) | (simp_all [Jj]; omega)), Qa rfl (Xu trivial) ⟨rfl, rfl, rfl, trivial⟩⟩
  refine QJ ?_
  refine zc 18 ?_ ?_ <;> intro h80
  ·
   refine QC ?_; refine uP (X7 (m0 (n1 h77))) (XI rfl rfl h80 rfl) ?_; refine Qe3 ?_; refine zQ ?_
   exact Qt (QaE (by first | (simp_all [Jj]; done) | (simp_all [Jj]; omega))).symm
  refine QC ?_; refine uP (X7 (m0 (n1 h77))) (Ji rfl rfl h80 rfl) ?_; refine QO ?_
  refine zc 24 ?_ ?_ <;> intro h83
  ·
   refine Qeo ?_; refine zQ ?_
   exact Qt (QaE (by first | (simp_all [Jj]; done) | (simp_all [Jj]; omega))).symm
  refine QJ ?_
  refine zc 28 ?_ ?_ <;> intro h86
  ·
   refine QJ ?_; refine uP (JI h83) (XI rfl rfl h86 rfl) ?_; refine QO ?_
   refine zq ?_ ?_ <;> intro h90
   ·
    refine QC ?_; refine zQ ?_
    exact Qt (QaE (by first | (simp_all [Jj]; done) | (simp_all [Jj]; omega))).symm
   refine XM ?_
   exact ⟨(by first | (simp_all [Jj]; done) | (simp_all [Jj]; omega)), Qa rfl (Xu trivial) ⟨rfl, rfl, rfl, trivial⟩⟩
  refine QJ ?_; refine uP (JI h83) (Ji rfl rfl h86 rfl) ?_; refine QC ?_; refine XM ?_
  exact ⟨(by first | (simp_all [Jj]; done) | (simp_all [Jj]; omega)), Qa rfl (Xu trivial) ⟨rfl, rfl, rfl, trivial⟩⟩
 intro hst
 refine Xz ?_
 refine QaL (⟨[(1, .ptr 0 0), (36, i64 l.k), (37, bl (l.k == 1 || l.k == 2 || l.k == 3 || l.k == 9))], [(0, .var 26 (QF l))], 1⟩) ?_ ?_
 ·
  refine QA ?_
  refine zq ?_ ?_ <;> intro h101
  ·
   refine XM ?_
   exact Qa rfl (Jg ⟨(KG (by simp_all)), rfl, trivial⟩) ⟨rfl, rfl, rfl, trivial⟩
  refine QA ?_
  refine zq ?_ ?_ <;> intro h102
  ·
   refine XM ?_
   exact Qa rfl (Jg ⟨(KG (by simp_all)), rfl, trivial⟩) ⟨rfl, rfl, rfl, trivial⟩
  refine QA ?_
  refine zq ?_ ?_ <;> intro h103
  ·
   refine XM ?_
   exact Qa rfl (Jg ⟨(KG (by simp_all)), rfl, trivial⟩) ⟨rfl, rfl, rfl, trivial⟩
  refine QC ?_; refine Qb ?_
  exact Qa rfl (Jg ⟨(KG (by simp_all)), rfl, trivial⟩) ⟨rfl, rfl, rfl, trivial⟩
 refine zq ?_ ?_ <;> intro h107
 ·
  have hk : l.k = 1 ∨ l.k = 2 ∨ l.k = 3 ∨ l.k = 9 := by simpa [or_assoc] using h107
  refine Xz ?_
  refine zc 46 ?_ ?_ <;> intro h111
  ·
   refine Je ?_; refine zQ ?_
   exact Qt (by rw [QsV hst hk]; simp_all)
  refine Je ?_; refine zQ ?_
  exact Qt (by rw [QsV hst hk]; simp_all)
 have hA := h107
 refine QaL (⟨[(1, .ptr 0 0), (36, i64 l.k), (52, bl (l.k == 4 || l.k == 8))], [(0, .var 26 (QF l))], 1⟩) ?_ ?_
 ·
  refine QA ?_
  refine zq ?_ ?_ <;> intro h116
  ·
   refine XM ?_
   exact Qa rfl (Jg ⟨(KG (by simp_all)), rfl, trivial⟩) ⟨rfl, rfl, rfl, trivial⟩
  refine QC ?_; refine Qb ?_
  exact Qa rfl (Jg ⟨(KG (by simp_all)), rfl, trivial⟩) ⟨rfl, rfl, rfl, trivial⟩
 refine zq ?_ ?_ <;> intro h120
 ·
  have hk : l.k = 4 ∨ l.k = 8 := by simpa using h120
  refine Xz ?_; refine zQ ?_
  exact Qt (by rw [QwP hst hk]; simp)
 have hB := h120
 refine QA ?_
 refine zq ?_ ?_ <;> intro h125
 ·
  have hk : l.k = 5 := by simpa using h125
  refine Xz ?_; refine zQ ?_
  exact Qt (by rw [QwZ hst hk]; simp)
 have h5 := h125
 refine QA ?_
 refine zq ?_ ?_ <;> intro h130
 ·
  have hk : l.k = 6 := by simpa using h130
  refine Xz ?_
  refine zc 71 ?_ ?_ <;> intro h134
  ·
   refine JU ?_; refine zQ ?_
   exact Qt (by rw [Qt3 hst hk]; simp_all)
  refine JU ?_; refine zQ ?_
  exact Qt (by rw [Qt3 hst hk]; simp_all)
 have h6 := h130
 refine QA ?_
 refine zq ?_ ?_ <;> intro h142
 ·
  have hk : l.k = 7 := by simpa using h142
  refine Xz ?_
  refine zc 86 ?_ ?_ <;> intro h146
  ·
   refine Je ?_; refine zQ ?_
   exact Qt (by rw [Quq hst hk]; simp_all)
  refine Je ?_; refine zQ ?_
  exact Qt (by rw [Quq hst hk]; simp_all)
 have h7 := h142
 refine QA ?_
 refine zq ?_ ?_ <;> intro h151
 rotate_left
 ·
  have h10 := h151
  refine QJ ?_; refine zQ ?_
  exact Qt (QuJ (by unfold Y5 Ja Jr; simp_all)).symm
 have hk : l.k = 10 := by simpa using h151
 refine Xz ?_
 refine zc 98 ?_ ?_ <;> intro h155
 ·
  refine Je ?_; refine zQ ?_
  exact Qt (by rw [Qn8 hst hk]; simp_all)
 refine Je ?_; refine zQ ?_
 exact Qt (by rw [Qn8 hst hk]; simp_all)
end Go.Proofs.YtaecccdkjmipeaaGreat
