/-
  Contracts of the reference: Check.
-/
import Derived.Test.YtaecccdkjmipeaaGreatC3
import Derived.Test.YtaecccdkjmipeaaGreatA3
namespace Go.Proofs.YtaecccdkjmipeaaGreat
set_option maxRecDepth 100000
set_option maxHeartbeats 1000000
open Go.RowKit
theorem QhU {l : List Nm} {k : Nat} {x : Nm} (h : l[k]? = some x) : l.zipIdx[k]? = some (x, k) := by simp [h]
def QlJ (l : Qs) (q : Nm × Nat) : Bool := XV q.1 && !Jn (l.nm.take q.2) q.1
def Qdd (nm : List Nm) (r : Ru) : Bool := !((r.i.length : Int) == 0) && QcA r.i && Jn nm r.t
theorem Qe0 {nm : List Nm} {r : Ru} : Qhb nm r = (Qdd nm r && r.i.all (Jn nm)) := rfl
theorem Qk8 (l : Qs) : FC Tryz.prog 138 [.agg (QF l)] (bl (Qaq l)) := by
 refine Qd [2] Tryz.func138 rfl rfl 86 Tryz.ntmps138 (Nat.le_of_ble_eq_true rfl) ?_
 intro E hN
 refine JA ?_
 refine zq ?_ ?_ <;> intro h5
 ·
  have h6 : (l.k == 6) = true := h5
  refine Je ?_
  refine Qi (fun x : {k : Nat // k ≤ (l.nm).length ∧ (l.nm.zipIdx.drop k).all (QlJ l) = l.nm.zipIdx.all (QlJ l)} => ⟨[(1, .ptr 0 0), (3, i64 (x.1 : Nat))], [(0, .var 26 (QF l))], 1⟩) (fun x => (l.nm).length - x.1) (⟨0, Nat.zero_le _, by simp⟩) ?_ ?_
  ·
   exact Qa rfl (Jg trivial) ⟨rfl, rfl, rfl, trivial⟩
  rintro ⟨k, hk, hg⟩
  dsimp only
  refine JU ?_
  refine zq ?_ ?_ <;> intro h11
  rotate_left
  ·
   have hge : (l.nm).length ≤ k := by simpa using h11
   refine QJ ?_; refine zQ ?_
   exact Qt (by unfold Qaq; rw [if_pos h6]; exact (X4 hg (by simpa using hge)).symm)
  refine JK 12 rfl (fun hlen => ?_)
  have hlt : k < (l.nm).length := by simpa using h11
  obtain ⟨x, hx⟩ := Qk hlt
  refine QJ ?_; refine Qy 18 (by kernel_rfl) (by kernel_rfl) ?_; refine QC ?_; refine zp (Qh rfl rfl rfl k rfl _ (Qq hx) rfl) ?_
  refine zl ?_; refine zp (Qc (Qji x) rfl rfl rfl) ?_; refine QO ?_
  refine zd 24 ?_ ?_ <;> intro h16
  ·
   have ho0 : QlJ l (x, k) = false := by unfold QlJ; rw [n1 h16]; rfl
   refine XN ?_; change Qz _ _ _ _ _ _; refine Je ?_; refine zQ ?_
   exact Qt (by unfold Qaq; rw [if_pos h6]; exact (Q6 hg (QhU hx) ho0).symm)
  have hv1 : XV x = true := n0 h16
  refine QC ?_; refine vP (JI (m1 (n0 h16))) (QtK rfl rfl rfl k rfl (by omega) (by exact fun _ => rfl)) ?_; refine QC ?_
  refine vP (JI (m1 (n0 h16))) (Qh rfl rfl rfl k rfl _ (Qq hx) rfl) ?_; refine KO ?_
  refine vP (JI (m1 (n0 h16))) (Qc (Qj9 (l.nm.take k) x) rfl rfl rfl) ?_; change Qz _ _ _ _ _ _; refine QO ?_
  refine zq ?_ ?_ <;> intro h24
  ·
   have ho0 : QlJ l (x, k) = false := by unfold QlJ; rw [hv1]; simp only [Bool.true_and, Bool.not_eq_false']; exact h24
   refine QC ?_; refine zQ ?_
   exact Qt (by unfold Qaq; rw [if_pos h6]; exact (Q6 hg (QhU hx) ho0).symm)
  have ho1 : QlJ l (x, k) = true := by unfold QlJ; rw [hv1]; simp only [Bool.true_and, Bool.not_eq_true']; exact h24
  refine QA ?_; refine Qb ?_
  exact ⟨⟨k + 1, hlt, XF hg (QhU hx) ho1⟩, Qa rfl (Xu ⟨(QE (by dsimp only; omega)), rfl, trivial⟩) ⟨rfl, rfl, rfl, trivial⟩, by dsimp only; omega⟩
 have h6 : (l.k == 6) = false := h5
 refine Je ?_; refine zP (Qc (Qo3 l.nm) rfl rfl rfl) ?_; refine QO ?_
 refine zq ?_ ?_ <;> intro h28
 ·
  have h8 := n1 h28
  refine QC ?_; refine zQ ?_
  exact Qt (by unfold Qaq; rw [h6, h8]; rfl)
 have h8 := n0 h28
 refine Xz ?_
 refine Qi (fun x : {k : Nat // k ≤ (l.rs).length ∧ (l.rs.drop k).all (Qhb l.nm) = l.rs.all (Qhb l.nm)} => ⟨[(1, .ptr 0 0), (4, i64 (x.1 : Nat))], [(0, .var 26 (QF l))], 1⟩) (fun x => (l.rs).length - x.1) (⟨0, Nat.zero_le _, by simp⟩) ?_ ?_
 ·
  exact Qa rfl (Jg trivial) ⟨rfl, rfl, rfl, trivial⟩
 rintro ⟨k, hk, hg⟩
 dsimp only
 refine JU ?_
 refine zq ?_ ?_ <;> intro h34
 rotate_left
 ·
  have hge : (l.rs).length ≤ k := by simpa using h34
  refine QJ ?_; refine zQ ?_
  exact Qt (by unfold Qaq; rw [h6, h8, X4 hg hge]; rfl)
 refine JK 42 rfl (fun hlen => ?_)
 have hlt : k < (l.rs).length := by simpa using h34
 obtain ⟨x, hx⟩ := Qk hlt
 refine XJ ?_; refine zP (Qh rfl rfl rfl k rfl _ (Qq hx) rfl) ?_; refine JA ?_
 refine zc 56 ?_ ?_ <;> intro h44
 ·
  refine QlK ?_; refine zQ ?_
  exact Qt (by unfold Qaq; rw [h6, h8, Q6 hg hx (by rw [Qe0, show Qdd l.nm x = false by first | exact hra | (unfold Qdd; simp_all)]; rfl)]; rfl)
 refine QO ?_; refine uP (JI h44) (Qc (Qo3 x.i) rfl rfl rfl) ?_; refine QC ?_
 refine zc 62 ?_ ?_ <;> intro h47
 ·
  refine JA ?_; refine zQ ?_
  exact Qt (by unfold Qaq; rw [h6, h8, Q6 hg hx (by rw [Qe0, show Qdd l.nm x = false by first | exact hra | (unfold Qdd; simp_all)]; rfl)]; rfl)
 refine QJ ?_; refine uP (JI (m1 (n0 h47))) (Qc (Qj9 l.nm x.t) rfl rfl rfl) ?_; refine QC ?_
 refine zq ?_ ?_ <;> intro h52
 ·
  have hra : Qdd l.nm x = false := by unfold Qdd; simp_all
  refine QC ?_; refine zQ ?_
  exact Qt (by unfold Qaq; rw [h6, h8, Q6 hg hx (by rw [Qe0, show Qdd l.nm x = false by first | exact hra | (unfold Qdd; simp_all)]; rfl)]; rfl)
 have hra : Qdd l.nm x = true := by unfold Qdd; simp_all
 refine Je ?_
 refine Qi (fun z : {j : Nat // j ≤ x.i.length ∧ (x.i.drop j).all (Jn l.nm) = x.i.all (Jn l.nm)} => ⟨[(1, .ptr 0 0), (4, i64 (k : Nat)), (5, .ptr 1 0), (6, i64 (z.1 : Nat))], [(0, .var 26 (QF l)), (1, .var 133 (ruC x))], 2⟩) (fun z => x.i.length - z.1) (⟨0, Nat.zero_le _, rfl⟩) ?_ ?_
 ·
  exact Qa rfl (QR trivial) ⟨rfl, rfl, rfl, rfl, rfl, rfl, trivial⟩
 rintro ⟨j, hj, hgj⟩
 dsimp only
 skip
 refine JU ?_
 refine zq ?_ ?_ <;> intro h60
 rotate_left
 ·
  have hje : x.i.length ≤ j := by have e := h60; simp at e; omega
  refine QA ?_; refine Qb ?_
  exact ⟨⟨k + 1, hlt, XF hg hx (by rw [Qe0, hra, X4 hgj hje]; rfl)⟩, Qa rfl (Xu ⟨(QE (by dsimp only; omega)), rfl, trivial⟩) ⟨rfl, rfl, rfl, trivial⟩, by dsimp only; omega⟩
 refine JK 72 rfl (fun hlen => ?_)
 have hjl : j < x.i.length := by have e := h60; simp at e; omega
 obtain ⟨y, hy⟩ := Qk hjl
 refine QJ ?_; refine Qy 8 (by kernel_rfl) (by kernel_rfl) ?_; refine QA ?_; refine zp (Qh rfl rfl rfl j rfl _ (Qq hy) rfl) ?_
 refine zl ?_; refine zp (Qc (Qj9 l.nm y) rfl rfl rfl) ?_; change Qz _ _ _ _ _ _; refine QO ?_
 refine zq ?_ ?_ <;> intro h67
 ·
  have h19 := n1 h67
  refine QC ?_; refine zQ ?_
  exact Qt (by unfold Qaq; rw [h6, h8, Q6 hg hx (by rw [Qe0, hra, Q6 hgj hy h19]; rfl)]; rfl)
 have h19 := h67
 refine QA ?_; refine Qb ?_
 exact ⟨⟨j + 1, hjl, XF hgj hy (n0 h19)⟩, Qa rfl (Xl ⟨(QE (by dsimp only; omega)), rfl, trivial⟩) ⟨rfl, rfl, rfl, rfl, rfl, rfl, trivial⟩, by dsimp only; omega⟩
def WT (l : Qs) (d n : Int) : Int := if d > 6 ∨ n ≥ 64 then 6 else if Xq l ≠ 0 then 1 else orE [J7 l, Jw l, X9 l, JH l]
section
variable {l : Qs} {d n : Int}
theorem QhT (h : d > 6 ∨ n ≥ 64) : WT l d n = 6 := by unfold WT; rw [if_pos h]
theorem Ql1 (h : ¬ (d > 6 ∨ n ≥ 64)) (hs : (Xq l == 0) = false) : WT l d n = 1 := by unfold WT; rw [if_neg h, if_pos (by simpa using hs)]
theorem WU (h : ¬ (d > 6 ∨ n ≥ 64)) (hs : Xq l = 0) : WT l d n = orE [J7 l, Jw l, X9 l, JH l] := by unfold WT; rw [if_neg h, if_neg (by rw [hs]; decide)]
theorem Qux {a b c e : Int} (h : a ≠ 0) : orE [a, b, c, e] = a := by simp [orE, h]
theorem QwU {a b c e : Int} (h1 : a = 0) (h : b ≠ 0) : orE [a, b, c, e] = b := by simp [orE, h, h1]
theorem Qqd {a b c e : Int} (h1 : a = 0) (h2 : b = 0) (h : c ≠ 0) : orE [a, b, c, e] = c := by simp [orE, h, h1, h2]
theorem QpG {a b c e : Int} (h1 : a = 0) (h2 : b = 0) (h3 : c = 0) : orE [a, b, c, e] = e := by
 by_cases h : e = 0 <;> simp [orE, h, h1, h2, h3]
theorem Qgc (h : ((decide ((l.nm.length : Int) > Kb l.k)) || decide ((l.rs.length : Int) > 32)) = true) : J7 l = 6 := by unfold J7; rw [h]; rfl
theorem QuD (h : ((decide ((l.nm.length : Int) > Kb l.k)) || decide ((l.rs.length : Int) > 32)) = false) : J7 l = 0 := by unfold J7; rw [h]; rfl
theorem QcU : X9 l = Yh (decide (l.lo > l.hi) || decide (l.lo < -1000000000) || decide (l.hi > 1000000000)) 5 := by
 unfold X9
 congr 1
 by_cases h1 : l.lo > l.hi
 ·simp [h1]
 by_cases h2 : l.lo < -1000000000
 ·simp [h2]
 by_cases h3 : l.hi > 1000000000
 ·simp [h3]
 have h4 : ¬ l.lo > 1000000000 := by omega
 have h5 : ¬ l.hi < -1000000000 := by omega
 simp [h1, h2, h3, h4, h5]
end
theorem QoH (l : Qs) (d n : Int) : FC Tryz.prog 94 [.agg (QF l), i64 d, i64 n] (i64 (WT l d n)) := by
 refine Qd [6] Tryz.func94 rfl rfl 69 Tryz.ntmps94 (Nat.le_of_ble_eq_true rfl) ?_
 intro E hN
 refine QeT ?_
 refine zq ?_ ?_ <;> intro h7
 ·
  refine QC ?_; refine QaL (⟨[(1, i64 d), (2, i64 n), (3, .ptr 0 0), (7, i64 (Kb l.k))], [(0, .var 26 (QF l))], 1⟩) ?_ ?_
  ·
   refine Je ?_
   refine zq ?_ ?_ <;> intro h10
   ·
    refine QO ?_; refine Qb ?_
    exact Qa rfl (Xl ⟨(QE (by unfold Kb; simp_all)), rfl, trivial⟩) ⟨rfl, rfl, rfl, trivial⟩
   refine XM ?_
   exact Qa rfl (Xl ⟨(QE (by unfold Kb; simp_all)), rfl, trivial⟩) ⟨rfl, rfl, rfl, trivial⟩
  refine Xz ?_
  refine zc 17 ?_ ?_ <;> intro h13
  ·
   refine JU ?_; refine zQ ?_
   exact Q2 (QhT (by first | (left; simp_all; done) | (right; simp_all; done))).symm
  refine QA ?_
  refine zq ?_ ?_ <;> intro h14
  ·
   have hb : d > 6 ∨ n ≥ 64 := by first | (left; simp_all; done) | (right; simp_all; done)
   refine QC ?_; refine zQ ?_
   exact Q2 (QhT (by first | (left; simp_all; done) | (right; simp_all; done))).symm
  have hb : ¬ (d > 6 ∨ n ≥ 64) := by first | (simp_all; done) | (simp_all; omega)
  refine QC ?_; refine zP (Qc (QgS l) rfl rfl rfl) ?_; refine QC ?_
  refine zq ?_ ?_ <;> intro h16
  ·
   have hs := n1 h16
   refine QC ?_; refine zQ ?_
   exact Q2 (Ql1 hb hs).symm
  have hs : Xq l = 0 := by simpa using n0 h16
  refine XJ ?_
  refine zc 31 ?_ ?_ <;> intro h20
  ·
   refine YJ ?_; refine zQ ?_
   exact Q2 (by rw [WU hb hs, Qux (by rw [Qgc (by simp_all)]; decide), Qgc (by simp_all)])
  refine Xz ?_
  refine zq ?_ ?_ <;> intro h24
  ·
   refine QC ?_; refine zQ ?_
   exact Q2 (by rw [WU hb hs, Qux (by rw [Qgc (by simp_all)]; decide), Qgc (by simp_all)])
  have hlim : ((decide ((l.nm.length : Int) > Kb l.k)) || decide ((l.rs.length : Int) > 32)) = false := by simp_all
  have hl0 := QuD hlim
  have hl1 : (l.nm.length : Int) ≤ Kb l.k ∧ (l.rs.length : Int) ≤ 32 := by simp at hlim; omega
  refine QC ?_; refine zP (Qc (Qk8 l) rfl rfl rfl) ?_; refine QC ?_
  refine zq ?_ ?_ <;> intro h26
  ·
   have hsp : Jw l = 3 := by
    have e := n1 h26
    rw [QdJ hs] at e
    unfold Jw at e ⊢
    split
    ·rename_i h; rw [if_pos h] at e; cases e
    rfl
   refine QC ?_; refine zQ ?_
   exact Q2 (by rw [WU hb hs, QwU hl0 (by rw [hsp]; decide), hsp])
  have hsp : Jw l = 0 := by
   have e := n0 h26
   rw [QdJ hs] at e
   simpa using e
  refine XJ ?_
  refine zc 47 ?_ ?_ <;> intro h31
  ·
   refine Qeo ?_; refine zQ ?_
   exact Q2 (by have e : X9 l = 5 := (by rw [QcU]; (first | (simp_all; done) | simp_all [Yh])); rw [WU hb hs, Qqd hl0 hsp (by rw [e]; decide), e])
  refine QA ?_
  refine zc 52 ?_ ?_ <;> intro h34
  ·
   refine XN ?_; refine zQ ?_
   exact Q2 (by have e : X9 l = 5 := (by rw [QcU]; (first | (simp_all; done) | simp_all [Yh])); rw [WU hb hs, Qqd hl0 hsp (by rw [e]; decide), e])
  refine Je ?_
  refine zq ?_ ?_ <;> intro h37
  ·
   refine QC ?_; refine zQ ?_
   exact Q2 (by have e : X9 l = 5 := (by rw [QcU]; (first | (simp_all; done) | simp_all [Yh])); rw [WU hb hs, Qqd hl0 hsp (by rw [e]; decide), e])
  have hrg : X9 l = 0 := by rw [QcU]; (first | (simp_all; done) | simp_all [Yh])
  refine Je ?_
  refine zc 61 ?_ ?_ <;> intro h40
  rotate_left
  ·
   refine WG ?_; refine zQ ?_
   exact Q2 (by rw [WU hb hs, QpG hl0 hsp hrg]; unfold JH; (first | (simp_all; done) | simp_all [Yh]))
  have h7 : l.k = 7 := by simpa using h40
  obtain ⟨a, r, hps⟩ := Qkm hs h7
  have ha : l.ps[0]? = some a := by rw [hps]; rfl
  refine QO ?_; refine uP (X7 h40) (Qh rfl rfl rfl 0 rfl _ (Xt ha) rfl) ?_; refine KO ?_
  refine uP (X7 h40) (Qc (Qd9 a) rfl rfl rfl) ?_; refine QJ ?_
  refine zq ?_ ?_ <;> intro h45
  ·
   refine QC ?_; refine zQ ?_
   exact Q2 (by rw [WU hb hs, QpG hl0 hsp hrg]; unfold JH; rw [hps]; (first | (simp_all; done) | simp_all [Yh]))
  refine QJ ?_; refine zQ ?_
  exact Q2 (by rw [WU hb hs, QpG hl0 hsp hrg]; unfold JH; (first | (simp_all; done) | simp_all [Yh]))
 refine zW ?_; refine QaL (⟨[(1, i64 d), (2, i64 n), (3, .ptr 0 0), (7, i64 (Kb l.k))], [(0, .var 26 (QF l))], 1⟩) ?_ ?_
 ·
  refine Je ?_
  refine zq ?_ ?_ <;> intro h48
  ·
   refine QO ?_; refine Qb ?_
   exact Qa rfl (Xl ⟨(QE (by unfold Kb; simp_all)), rfl, trivial⟩) ⟨rfl, rfl, rfl, trivial⟩
  refine XM ?_
  exact Qa rfl (Xl ⟨(QE (by unfold Kb; simp_all)), rfl, trivial⟩) ⟨rfl, rfl, rfl, trivial⟩
 refine Xz ?_
 refine zc 17 ?_ ?_ <;> intro h51
 ·
  refine JU ?_; refine zQ ?_
  exact Q2 (QhT (by first | (left; simp_all; done) | (right; simp_all; done))).symm
 refine QA ?_
 refine zq ?_ ?_ <;> intro h52
 ·
  have hb : d > 6 ∨ n ≥ 64 := by first | (left; simp_all; done) | (right; simp_all; done)
  refine QC ?_; refine zQ ?_
  exact Q2 (QhT (by first | (left; simp_all; done) | (right; simp_all; done))).symm
 have hb : ¬ (d > 6 ∨ n ≥ 64) := by first | (simp_all; done) | (simp_all; omega)
 refine QC ?_; refine zP (Qc (QgS l) rfl rfl rfl) ?_; refine QC ?_
 refine zq ?_ ?_ <;> intro h54
 ·
  have hs := n1 h54
  refine QC ?_; refine zQ ?_
  exact Q2 (Ql1 hb hs).symm
 have hs : Xq l = 0 := by simpa using n0 h54
 refine XJ ?_
 refine zc 31 ?_ ?_ <;> intro h58
 ·
  refine YJ ?_; refine zQ ?_
  exact Q2 (by rw [WU hb hs, Qux (by rw [Qgc (by simp_all)]; decide), Qgc (by simp_all)])
 refine Xz ?_
 refine zq ?_ ?_ <;> intro h62
 ·
  refine QC ?_; refine zQ ?_
  exact Q2 (by rw [WU hb hs, Qux (by rw [Qgc (by simp_all)]; decide), Qgc (by simp_all)])
 have hlim : ((decide ((l.nm.length : Int) > Kb l.k)) || decide ((l.rs.length : Int) > 32)) = false := by simp_all
 have hl0 := QuD hlim
 have hl1 : (l.nm.length : Int) ≤ Kb l.k ∧ (l.rs.length : Int) ≤ 32 := by simp at hlim; omega
 refine QC ?_; refine zP (Qc (Qk8 l) rfl rfl rfl) ?_; refine QC ?_
 refine zq ?_ ?_ <;> intro h64
 ·
  have hsp : Jw l = 3 := by
   have e := n1 h64
   rw [QdJ hs] at e
   unfold Jw at e ⊢
   split
   ·rename_i h; rw [if_pos h] at e; cases e
   rfl
  refine QC ?_; refine zQ ?_
  exact Q2 (by rw [WU hb hs, QwU hl0 (by rw [hsp]; decide), hsp])
 have hsp : Jw l = 0 := by
  have e := n0 h64
  rw [QdJ hs] at e
  simpa using e
 refine XJ ?_
 refine zc 47 ?_ ?_ <;> intro h69
 ·
  refine Qeo ?_; refine zQ ?_
  exact Q2 (by have e : X9 l = 5 := (by rw [QcU]; (first | (simp_all; done) | simp_all [Yh])); rw [WU hb hs, Qqd hl0 hsp (by rw [e]; decide), e])
 refine QA ?_
 refine zc 52 ?_ ?_ <;> intro h72
 ·
  refine XN ?_; refine zQ ?_
  exact Q2 (by have e : X9 l = 5 := (by rw [QcU]; (first | (simp_all; done) | simp_all [Yh])); rw [WU hb hs, Qqd hl0 hsp (by rw [e]; decide), e])
 refine Je ?_
 refine zq ?_ ?_ <;> intro h75
 ·
  refine QC ?_; refine zQ ?_
  exact Q2 (by have e : X9 l = 5 := (by rw [QcU]; (first | (simp_all; done) | simp_all [Yh])); rw [WU hb hs, Qqd hl0 hsp (by rw [e]; decide), e])
 have hrg : X9 l = 0 := by rw [QcU]; (first | (simp_all; done) | simp_all [Yh])
 refine Je ?_
 refine zc 61 ?_ ?_ <;> intro h78
 rotate_left
 ·
  refine WG ?_; refine zQ ?_
  exact Q2 (by rw [WU hb hs, QpG hl0 hsp hrg]; unfold JH; (first | (simp_all; done) | simp_all [Yh]))
 have h7 : l.k = 7 := by simpa using h78
 obtain ⟨a, r, hps⟩ := Qkm hs h7
 have ha : l.ps[0]? = some a := by rw [hps]; rfl
 refine QO ?_; refine uP (X7 h78) (Qh rfl rfl rfl 0 rfl _ (Xt ha) rfl) ?_; refine KO ?_
 refine uP (X7 h78) (Qc (Qd9 a) rfl rfl rfl) ?_; refine QJ ?_
 refine zq ?_ ?_ <;> intro h83
 ·
  refine QC ?_; refine zQ ?_
  exact Q2 (by rw [WU hb hs, QpG hl0 hsp hrg]; unfold JH; rw [hps]; (first | (simp_all; done) | simp_all [Yh]))
 refine QJ ?_; refine zQ ?_
 exact Q2 (by rw [WU hb hs, QpG hl0 hsp hrg]; unfold JH; (first | (simp_all; done) | simp_all [Yh]))
def QkM (v : Int × Int) : AV := .tup [if v.1 = 0 then i64 v.2 else .bot, i64 v.1]
theorem QgU {v : Int × Int} {e : Int} (h : v.1 = e) (he : e ≠ 0) : AV.tup [.bot, i64 e] = QkM v := by unfold QkM; rw [h, if_neg he]
theorem Qtw {v : Int × Int} {m : Int} (h : (0, m) = v) : AV.tup [i64 m, i64 0] = QkM v := by unfold QkM; rw [← h, if_pos rfl]
section
variable {f : Nat} {l : Qs} {n d : Int}
theorem Qpi (hd : d ≤ 6) (h : WT l d n ≠ 0) : (Q7 (f + 1) l n).1 = WT l d n := by
 unfold WT at h ⊢
 by_cases h1 : n ≥ 64
 ·rw [QlL h1, if_pos (.inr h1)]
 rw [if_neg (by omega)] at h ⊢
 cases h2 : Xq l != 0 with
 | true =>
  rw [QeZ (by omega) h2, if_pos (by simpa using h2)]
  show Xq l = 1
  have : Xq l ≠ 0 := by simpa using h2
  unfold Xq at this ⊢
  split
  ·rename_i hk; rw [if_pos hk] at this; unfold Yh at this ⊢; split
   ·rfl
   rename_i hb; rw [if_neg hb] at this; exact absurd rfl this
  rfl
 | false =>
  have h3 : Xq l = 0 := by simpa using h2
  rw [if_neg (by rw [h3]; decide)] at h ⊢
  rw [Qqr (by omega) h2 (by simpa using h)]
theorem Qsg (hd : d ≤ 6) (h : WT l d n = 0) : Q7 (f + 1) l n = J4 (Q7 f) l.ps (n + 1) := by
 unfold WT at h
 by_cases h1 : n ≥ 64
 ·rw [if_pos (.inr h1)] at h; cases h
 rw [if_neg (by omega)] at h
 by_cases h2 : Xq l = 0
 ·rw [if_neg (by rw [h2]; decide)] at h
  exact Qcf (by omega) (by rw [h2]; rfl) (by rw [h]; rfl)
 rw [if_pos h2] at h; cases h
end
theorem Qv0 (l : Qs) (n d : Int) (hd : d = 7) : FC Tryz.prog 57 [.agg (QF l), i64 d, i64 n] (QkM (Q7 0 l n)) := by
 have hE : WT l d n = 6 := QhT (.inl (by omega))
 refine Qd [6, 7] Tryz.func57 rfl rfl 48 Tryz.ntmps57 (Nat.le_of_ble_eq_true rfl) ?_
 intro E hN
 refine JA ?_; refine zP (Qc (QoH l d n) rfl rfl rfl) ?_; refine QA ?_
 refine zP (Xc (b := true) rfl rfl rfl (by rw [hE]; rfl)) ?_
 refine JU ?_; refine Qu (st' := ⟨[(7, i64 (WT l d n))], [], 1⟩) (Qa rfl (Xu trivial) trivial) ?_; refine zR ?_
 rw [hE]; exact QgU rfl (by decide)
theorem QvS (f : Nat) (hf : f + 1 ≤ 6) (ih : ∀ (l : Qs) (n d : Int), d = 7 - (f : Int) → 0 ≤ n → FC Tryz.prog 57 [.agg (QF l), i64 d, i64 n] (QkM (Q7 f l n))) (l : Qs) (n d : Int) (hd : d = 7 - ((f + 1 : Nat) : Int)) (hn : 0 ≤ n) : FC Tryz.prog 57 [.agg (QF l), i64 d, i64 n] (QkM (Q7 (f + 1) l n)) := by
 refine Qd [6, 7] Tryz.func57 rfl rfl 48 Tryz.ntmps57 (Nat.le_of_ble_eq_true rfl) ?_
 intro E hN
 refine JA ?_; refine zP (Qc (QoH l d n) rfl rfl rfl) ?_; refine Xz ?_
 refine zq ?_ ?_ <;> intro h7
 ·
  have h2 : WT l d n ≠ 0 := by simpa using h7
  refine Xz ?_; refine Qu (st' := ⟨[(7, i64 (WT l d n))], [], 1⟩) (Qa rfl (Xu trivial) trivial) ?_; refine zR ?_
  exact QgU (Qpi (by omega) h2) h2
 have h2 : WT l d n = 0 := by simpa using h7
 have hn64 : n < 64 := by
  unfold WT at h2
  by_cases h1 : n ≥ 64
  ·rw [if_pos (.inr h1)] at h2; cases h2
  omega
 have hvo := Qsg (f := f) (l := l) (n := n) (d := d) (by omega) h2
 refine Wi ?_
 refine Qi (fun z : {q : Nat × Int // q.1 ≤ l.ps.length ∧ 0 ≤ q.2 ∧ J4 (Q7 f) (l.ps.drop q.1) q.2 = J4 (Q7 f) l.ps (n + 1)} => ⟨[(1, i64 d), (3, .ptr 0 0), (9, i64 z.1.2), (10, i64 (z.1.1 : Nat))], [(0, .var 26 (QF l))], 1⟩) (fun z => l.ps.length - z.1.1) (⟨(0, n + 1), Nat.zero_le _, by show 0 ≤ n + 1; omega, by simp⟩) ?_ ?_
 ·
  exact Qa rfl (QR trivial) ⟨rfl, rfl, rfl, trivial⟩
 rintro ⟨⟨k, m⟩, hk, hm, hg⟩
 dsimp only at hk hm hg ⊢
 refine JU ?_
 refine zq ?_ ?_ <;> intro h16
 rotate_left
 ·
  have hge : (l.ps).length ≤ k := by simpa using h16
  refine Je ?_; refine zQ ?_
  exact Qtw (by rw [hvo]; exact QmF hg hge)
 refine JK 25 rfl (fun hlen => ?_)
 have hlt : k < (l.ps).length := by simpa using h16
 obtain ⟨x, hx⟩ := Qk hlt
 refine XJ ?_; refine zP (Qh rfl rfl rfl k rfl _ (Xt hx) rfl) ?_; refine QJ ?_; refine zP (Qc (ih x m _ (by omega) hm) rfl rfl rfl) ?_
 refine JA ?_
 refine zq ?_ ?_ <;> intro h25
 ·
  have he : (Q7 f x m).1 ≠ 0 := by simpa using h25
  refine Xz ?_; refine Qu (st' := ⟨[(7, i64 ((Q7 f x m).1))], [], 1⟩) (Qa rfl (Xu trivial) trivial) ?_; refine zR ?_
  exact QgU (by rw [hvo, ← QjS hg hx (by simpa using he)]) he
 have he : (Q7 f x m).1 = 0 := by simpa using h25
 rw [if_pos he]
 refine JU ?_; refine Qb ?_
 exact ⟨⟨(k + 1, (Q7 f x m).2), hlt, Qfp _ _ _ hm, QuF hg hx (by rw [he]; rfl)⟩, Qa rfl (Xl ⟨(QE (by dsimp only; omega)), rfl, trivial⟩) ⟨rfl, rfl, rfl, trivial⟩, by dsimp only; omega⟩
theorem Qly : ∀ (f : Nat) (l : Qs) (n d : Int), f ≤ 6 → d = 7 - (f : Int) → 0 ≤ n → FC Tryz.prog 57 [.agg (QF l), i64 d, i64 n] (QkM (Q7 f l n))
 | 0, l, n, d, _, hd, _ => Qv0 l n d (by simpa using hd)
 | f + 1, l, n, d, hf, hd, hn => QvS f hf (fun l n d h1 h2 => Qly f l n d (by omega) h1 h2) l n d hd hn
theorem Qcr (l : Qs) : FC Tryz.prog 20 [.agg (QF l)] (i64 (Q0 l)) := by
 refine Qd [2] Tryz.func20 rfl rfl 11 Tryz.ntmps20 (Nat.le_of_ble_eq_true rfl) ?_
 intro E hN
 refine XJ ?_; refine zP (Qc (Qly 6 l 0 1 (by decide) rfl (by decide)) rfl rfl rfl) ?_; refine XN ?_; refine zQ ?_
 rfl
end Go.Proofs.YtaecccdkjmipeaaGreat
