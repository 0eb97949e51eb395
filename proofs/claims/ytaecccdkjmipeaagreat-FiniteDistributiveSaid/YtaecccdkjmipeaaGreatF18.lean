/-
  Contracts: lattice.Finite at any description (seat r5).
-/
import Derived.Test.YtaecccdkjmipeaaGreatF17
import Derived.Test.YtaecccdkjmipeaaGreatF7
namespace Go.Proofs.YtaecccdkjmipeaaGreat
set_option maxRecDepth 100000
set_option maxHeartbeats 1000000
open Go.RowKit
mutual
def J3 : Qs → Bool
 | .mk k _ _ nm ps _ => k != 9 && !((k == 4 || k == 8 || k == 5) && nm.length == 0) && Qkq ps
def Qkq : List Qs → Bool
 | [] => true
 | p :: r => J3 p && Qkq r
end
theorem QgZ : ∀ l : List Qs, Qkq l = l.all J3
 | [] => rfl
 | p :: r => by rw [Qkq, QgZ r]; rfl
theorem Jv (l : Qs) : J3 l = (l.k != 9 && !((l.k == 4 || l.k == 8 || l.k == 5) && l.nm.length == 0) && l.ps.all J3) := by
 cases l with
 | mk k lo hi nm ps rs => rw [J3, QgZ]; rfl
theorem Qwx (l : Qs) (ih : ∀ q ∈ l.ps, FC Tryz.prog 47 [.agg (QF q)] (bl (J3 q))) (h6 : l.ps.length ≤ 1000000) : FC Tryz.prog 47 [.agg (QF l)] (bl (J3 l)) := by
 refine Qd [2] Tryz.func47 rfl rfl 28 Tryz.ntmps47 (Nat.le_of_ble_eq_true rfl) ?_
 intro E hN
 refine Qe3 ?_
 refine zq ?_ ?_ <;> intro h5
 ·
  refine QC ?_; refine zQ ?_
  exact Qt (by rw [Jv]; simp_all)
 refine Je ?_
 refine zq ?_ ?_ <;> intro h6
 ·
  refine JU ?_
  refine zq ?_ ?_ <;> intro h10
  ·
   refine QC ?_; refine zQ ?_
   exact Qt (by rw [Jv]; simp_all)
  refine XN ?_
  refine Qi (fun x : {k : Nat // k ≤ (l.ps).length ∧ (l.ps.drop k).all J3 = l.ps.all J3} => ⟨[(18, .sl (l.ps.map WB) none), (19, i64 l.ps.length), (20, i64 (x.1 : Nat))], [], 1⟩) (fun x => (l.ps).length - x.1) (⟨0, Nat.zero_le _, by simp⟩) ?_ ?_
  ·
   exact Qa rfl (Xu ⟨(QE (by simp)), rfl, (Xu trivial)⟩) trivial
  rintro ⟨k, hk, hg⟩
  dsimp only
  refine QA ?_
  refine zq ?_ ?_ <;> intro h17
  rotate_left
  ·
   have hge : (l.ps).length ≤ k := by simpa using h17
   refine QJ ?_; refine zQ ?_
   exact Qt (by rw [Jv, X4 hg hge]; simp_all)
  have hlt : k < (l.ps).length := by simpa using h17
  obtain ⟨x, hx⟩ := Qk hlt
  refine QA ?_; refine zP (Qh rfl rfl rfl k rfl _ (Xt hx) rfl) ?_; refine Xz ?_
  refine zP (Qc (ih x (List.mem_of_getElem? hx)) rfl rfl rfl) ?_; refine QO ?_
  refine zq ?_ ?_ <;> intro h23
  ·
   refine QC ?_; refine zQ ?_
   exact Qt (by rw [Jv, Q6 hg hx (by simp_all), Bool.and_false])
  refine QJ ?_; refine Qb ?_
  exact ⟨⟨k + 1, hlt, XF hg hx (by simp_all)⟩, Qa rfl (Jg ⟨(QE (by dsimp only; omega)), rfl, trivial⟩) trivial, by dsimp only; omega⟩
 refine QA ?_
 refine zq ?_ ?_ <;> intro h25
 ·
  refine JU ?_
  refine zq ?_ ?_ <;> intro h29
  ·
   refine QC ?_; refine zQ ?_
   exact Qt (by rw [Jv]; simp_all)
  refine XN ?_
  refine Qi (fun x : {k : Nat // k ≤ (l.ps).length ∧ (l.ps.drop k).all J3 = l.ps.all J3} => ⟨[(18, .sl (l.ps.map WB) none), (19, i64 l.ps.length), (20, i64 (x.1 : Nat))], [], 1⟩) (fun x => (l.ps).length - x.1) (⟨0, Nat.zero_le _, by simp⟩) ?_ ?_
  ·
   exact Qa rfl (Xu ⟨(QE (by simp)), rfl, (Xu trivial)⟩) trivial
  rintro ⟨k, hk, hg⟩
  dsimp only
  refine QA ?_
  refine zq ?_ ?_ <;> intro h36
  rotate_left
  ·
   have hge : (l.ps).length ≤ k := by simpa using h36
   refine QJ ?_; refine zQ ?_
   exact Qt (by rw [Jv, X4 hg hge]; simp_all)
  have hlt : k < (l.ps).length := by simpa using h36
  obtain ⟨x, hx⟩ := Qk hlt
  refine QA ?_; refine zP (Qh rfl rfl rfl k rfl _ (Xt hx) rfl) ?_; refine Xz ?_
  refine zP (Qc (ih x (List.mem_of_getElem? hx)) rfl rfl rfl) ?_; refine QO ?_
  refine zq ?_ ?_ <;> intro h42
  ·
   refine QC ?_; refine zQ ?_
   exact Qt (by rw [Jv, Q6 hg hx (by simp_all), Bool.and_false])
  refine QJ ?_; refine Qb ?_
  exact ⟨⟨k + 1, hlt, XF hg hx (by simp_all)⟩, Qa rfl (Jg ⟨(QE (by dsimp only; omega)), rfl, trivial⟩) trivial, by dsimp only; omega⟩
 refine QJ ?_
 refine zq ?_ ?_ <;> intro h44
 rotate_left
 ·
  refine XN ?_
  refine Qi (fun x : {k : Nat // k ≤ (l.ps).length ∧ (l.ps.drop k).all J3 = l.ps.all J3} => ⟨[(18, .sl (l.ps.map WB) none), (19, i64 l.ps.length), (20, i64 (x.1 : Nat))], [], 1⟩) (fun x => (l.ps).length - x.1) (⟨0, Nat.zero_le _, by simp⟩) ?_ ?_
  ·
   exact Qa rfl (Xu ⟨(QE (by simp)), rfl, (Xu trivial)⟩) trivial
  rintro ⟨k, hk, hg⟩
  dsimp only
  refine QA ?_
  refine zq ?_ ?_ <;> intro h69
  rotate_left
  ·
   have hge : (l.ps).length ≤ k := by simpa using h69
   refine QJ ?_; refine zQ ?_
   exact Qt (by rw [Jv, X4 hg hge]; simp_all)
  have hlt : k < (l.ps).length := by simpa using h69
  obtain ⟨x, hx⟩ := Qk hlt
  refine QA ?_; refine zP (Qh rfl rfl rfl k rfl _ (Xt hx) rfl) ?_; refine Xz ?_
  refine zP (Qc (ih x (List.mem_of_getElem? hx)) rfl rfl rfl) ?_; refine QO ?_
  refine zq ?_ ?_ <;> intro h75
  ·
   refine QC ?_; refine zQ ?_
   exact Qt (by rw [Jv, Q6 hg hx (by simp_all), Bool.and_false])
  refine QJ ?_; refine Qb ?_
  exact ⟨⟨k + 1, hlt, XF hg hx (by simp_all)⟩, Qa rfl (Jg ⟨(QE (by dsimp only; omega)), rfl, trivial⟩) trivial, by dsimp only; omega⟩
 refine Xz ?_
 refine zq ?_ ?_ <;> intro h48
 ·
  refine QC ?_; refine zQ ?_
  exact Qt (by rw [Jv]; simp_all)
 refine XN ?_
 refine Qi (fun x : {k : Nat // k ≤ (l.ps).length ∧ (l.ps.drop k).all J3 = l.ps.all J3} => ⟨[(18, .sl (l.ps.map WB) none), (19, i64 l.ps.length), (20, i64 (x.1 : Nat))], [], 1⟩) (fun x => (l.ps).length - x.1) (⟨0, Nat.zero_le _, by simp⟩) ?_ ?_
 ·
  exact Qa rfl (Xu ⟨(QE (by simp)), rfl, (Xu trivial)⟩) trivial
 rintro ⟨k, hk, hg⟩
 dsimp only
 refine QA ?_
 refine zq ?_ ?_ <;> intro h55
 rotate_left
 ·
  have hge : (l.ps).length ≤ k := by simpa using h55
  refine QJ ?_; refine zQ ?_
  exact Qt (by rw [Jv, X4 hg hge]; simp_all)
 have hlt : k < (l.ps).length := by simpa using h55
 obtain ⟨x, hx⟩ := Qk hlt
 refine QA ?_; refine zP (Qh rfl rfl rfl k rfl _ (Xt hx) rfl) ?_; refine Xz ?_
 refine zP (Qc (ih x (List.mem_of_getElem? hx)) rfl rfl rfl) ?_; refine QO ?_
 refine zq ?_ ?_ <;> intro h61
 ·
  refine QC ?_; refine zQ ?_
  exact Qt (by rw [Jv, Q6 hg hx (by simp_all), Bool.and_false])
 refine QJ ?_; refine Qb ?_
 exact ⟨⟨k + 1, hlt, XF hg hx (by simp_all)⟩, Qa rfl (Jg ⟨(QE (by dsimp only; omega)), rfl, trivial⟩) trivial, by dsimp only; omega⟩
theorem Qj8 (l : Qs) (hO : Kv l) : FC Tryz.prog 47 [.agg (QF l)] (bl (J3 l)) := Qwx l (fun q hq => Qj8 q (hO.part q hq)) (by have := hO.small; omega)
termination_by l
decreasing_by exact Qs.sizeOf_ps hq
theorem QkU (l : Qs) (hc : ¬ Q0 l = 0) : FC Tryz.prog 14 [.agg (QF l)] (.tup [.sl [] none, i64 1]) := by
 refine Qd [2, 3] Tryz.func14 rfl rfl 22 Tryz.ntmps14 (Nat.le_of_ble_eq_true rfl) ?_
 intro E hN
 refine XN ?_; refine zP (Qc (Wx l) rfl rfl rfl) ?_; refine zP (Xc (b := true) rfl rfl rfl (by simpa using hc)) ?_; refine Je ?_
 refine zQ ?_
 rfl
theorem QkH (l : Qs) (hc : Q0 l = 0) (hF : J3 l = false) : FC Tryz.prog 14 [.agg (QF l)] (.tup [.sl [] none, i64 4]) := by
 refine Qd [2, 3] Tryz.func14 rfl rfl 22 Tryz.ntmps14 (Nat.le_of_ble_eq_true rfl) ?_
 intro E hN
 refine XN ?_
 refine zP (Qc (by have h := Wx l; rw [hc] at h; exact h) rfl rfl rfl) ?_
 refine XJ ?_; refine zP (Qc (fcb (c := false) (Qj8 l (QP hc)) hF) rfl rfl rfl) ?_; refine Xz ?_; refine zQ ?_
 rfl
theorem Qmg (l : Qs) (hc : Q0 l = 0) (hF : J3 l = true) (hA : FC Tryz.prog 48 [.agg (QF l)] (.tup [.sl [] none, bl false])) : FC Tryz.prog 14 [.agg (QF l)] (.tup [.sl [] none, i64 6]) := by
 refine Qd [2, 3] Tryz.func14 rfl rfl 22 Tryz.ntmps14 (Nat.le_of_ble_eq_true rfl) ?_
 intro E hN
 refine XN ?_
 refine zP (Qc (by have h := Wx l; rw [hc] at h; exact h) rfl rfl rfl) ?_
 refine XJ ?_; refine zP (Qc (fcb (c := true) (Qj8 l (QP hc)) hF) rfl rfl rfl) ?_; refine Xz ?_; refine zP (Qc hA rfl rfl rfl) ?_
 refine Qe3 ?_; refine zQ ?_
 rfl
theorem QmS (l : Qs) (hc : Q0 l = 0) (hF : J3 l = true) (L L' : List Qn) (hA : GV 48 [.agg (QF l)] L 0 1) (h6 : L.length ≤ 1000000) (hp' : L'.Perm L) (hs' : L'.Pairwise (fun x y => 0 ≤ Jk y x)) : FC Tryz.prog 14 [.agg (QF l)] (.tup [JM L', i64 0]) := by
 refine Qd [2, 3] Tryz.func14 rfl rfl 22 Tryz.ntmps14 (Nat.le_of_ble_eq_true rfl) ?_
 intro E hN
 refine XN ?_
 refine zP (Qc (by have h := Wx l; rw [hc] at h; exact h) rfl rfl rfl) ?_
 refine XJ ?_; refine zP (Qc (fcb (c := true) (Qj8 l (QP hc)) hF) rfl rfl rfl) ?_; refine Xz ?_
 refine YH hN [] hA (.fn _ _ _ _ rfl rfl) rfl rfl rfl trivial rfl ⟨WV (Qp _), trivial⟩ rfl (Hn := [(1, .arr 30 4 (L.map Xx))]) (YF (Qp _)) rfl rfl rfl rfl rfl rfl ?_
 refine Qe3 ?_
 refine QnE (sf := 49) hN Qh3 rfl (by decide) Xx L Jk (fun g => JN.swo g) (fun v => by rw [X3]; rfl) (fun v => by rw [X3]; rfl) Tryz.isAgg30 Tryz.sizeOf30 (fun x _ y _ => Qh6 x y) rfl rfl rfl rfl (by omega) rfl rfl rfl rfl (fun l2 hp hs2 => ?_)
 obtain rfl : l2 = L' := Qol (hp.trans hp'.symm) hs2 hs'
 refine QO ?_; refine Qu (QB 4 1 rfl rfl (by simp [hp'.length_eq]) (QS _) (Qp _) rfl) ?_; refine QJ ?_; refine zQ ?_
 rfl
end Go.Proofs.YtaecccdkjmipeaaGreat
