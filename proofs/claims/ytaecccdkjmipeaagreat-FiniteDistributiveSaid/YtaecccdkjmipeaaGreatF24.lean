/-
  Contracts: the law FiniteDistributive (seat r5).
-/
import Derived.Test.YtaecccdkjmipeaaGreatF23
import Derived.Test.YtaecccdkjmipeaaGreatF20
namespace Go.Proofs.YtaecccdkjmipeaaGreat
set_option maxRecDepth 100000
set_option maxHeartbeats 1000000
open Go.RowKit
theorem Qrq (n : Nat) (f : Nat → Nat → Nat) (ht : KP (XD n f) n f) (z : Nat) (hz : bot n f = some z) (i j : Nat) (lti : i < n) (ltj : j < n) : FC Tryz.prog 67 [Xr (XD n f), i64 (i : Nat), i64 (j : Nat)] (i64 (XZ n f i j : Nat)) := by
 refine Qd [6] Tryz.func67 rfl rfl 45 Tryz.ntmps67 (Nat.le_of_ble_eq_true rfl) ?_
 intro E hN
 have h256 := ht.le
 have hlt := ht.lt
 have h1n := ht.pos
 have hb : Qm8 n f = (z : Int) := by rw [Qm8, hz]
 have hzl : z < n := (QhP hz).1
 have hE : XZ n f i j = Qat f z i j n := by unfold XZ; rw [hz]; rfl
 refine Xz ?_
 refine zP (Qc (by have h := QoF n f ht; rw [hb] at h; exact h) rfl rfl rfl) ?_
 refine XJ ?_
 refine Qi (fun x : {k : Nat // k ≤ n ∧ True} => ⟨[(0, Xr (XD n f)), (1, i64 (i : Nat)), (2, i64 (j : Nat)), (7, i64 (Qat f z i j x.1 : Nat)), (8, i64 (x.1 : Nat))], [], 0⟩) (fun x => n - x.1) (⟨0, Nat.zero_le _, by trivial⟩) ?_ ?_
 ·
  exact Qa rfl (QR (Xu trivial)) trivial
 rintro ⟨k, hk, gk⟩
 dsimp only
 refine XJ ?_
 refine zq ?_ ?_ <;> intro h11
 rotate_left
 ·
  have gek : n ≤ k := by simpa [XD] using h11
  obtain rfl : n = k := by omega
  refine QA ?_; refine zQ ?_
  exact Q2 (by rw [hE])
 have ltk : k < n := by simpa [XD] using h11
 have hmk := Qc4 hlt hzl i j k hk
 refine Xz ?_; refine zP (Qh rfl rfl rfl k rfl _ (XH ltk) rfl) ?_; refine QO ?_
 refine zP (Qh rfl rfl rfl i rfl _ (Xj lti) rfl) ?_; refine QJ ?_
 refine zc 26 ?_ ?_ <;> intro h16
 rotate_left
 ·
  refine Qe3 ?_; refine Qb ?_
  exact ⟨⟨k + 1, ltk, trivial⟩, Qa rfl (Xl ⟨(QE (by rw [KK]; split <;> first | rfl | (exfalso; simp_all <;> omega))), rfl, (QE (by dsimp only; omega)), rfl, trivial⟩) trivial, by dsimp only; omega⟩
 refine QO ?_; refine uP (X7 h16) (Qh rfl rfl rfl k rfl _ (XH ltk) rfl) ?_; refine QO ?_
 refine uP (X7 h16) (Qh rfl rfl rfl j rfl _ (Xj ltj) rfl) ?_; refine QA ?_
 refine zq ?_ ?_ <;> intro h21
 ·
  refine QC ?_; refine zP (Qh rfl rfl rfl (Qat f z i j k) rfl _ (XH hmk) rfl) ?_; refine QO ?_
  refine zP (Qh rfl rfl rfl k rfl _ (Xj ltk) rfl) ?_; refine Xz ?_; refine Qb ?_
  exact ⟨⟨k + 1, ltk, trivial⟩, Qa rfl (Xl ⟨(QE (by rw [KK]; split <;> first | rfl | (exfalso; simp_all <;> omega))), rfl, (QE (by dsimp only; omega)), rfl, trivial⟩) trivial, by dsimp only; omega⟩
 refine QA ?_; refine Qb ?_
 exact ⟨⟨k + 1, ltk, trivial⟩, Qa rfl (Xl ⟨(QE (by rw [KK]; split <;> first | rfl | (exfalso; simp_all <;> omega))), rfl, (QE (by dsimp only; omega)), rfl, trivial⟩) trivial, by dsimp only; omega⟩
theorem QcT {α : Type} (g : Nat → α) (k : Nat) : (List.range (k + 1)).map g = (List.range k).map g ++ [g k] := by rw [List.range_succ, List.map_append]; rfl
theorem Qug (n : Nat) (f : Nat → Nat → Nat) (i : Nat) : QlZ n f i = [AV.sl ((List.range n).map (mEl n f i)) none] := by
 show [AV.sl ((Qbx n (XZ n f) i).map iv1) none] = _
 unfold Qbx
 rw [List.map_map]; rfl
theorem QsT (n : Nat) (f : Nat → Nat → Nat) : AV.sl ((List.range n).map (QlZ n f)) none = Xr (XD n (XZ n f)) := by
 show AV.sl _ none = AV.sl (((List.range n).map (Qbx n (XZ n f))).map QjN) none
 rw [List.map_map]; rfl
theorem Qsp (n : Nat) (f : Nat → Nat → Nat) (ht : KP (XD n f) n f) (z : Nat) (hz : bot n f = some z) : FC Tryz.prog 37 [Xr (XD n f)] (bl (QaM n f)) := by
 refine Qd [2] Tryz.func37 rfl rfl 86 Tryz.ntmps37 (Nat.le_of_ble_eq_true rfl) ?_
 intro E hN
 have h256 := ht.le
 have hlt := ht.lt
 have h1n := ht.pos
 have hm := QlP h1n hlt
 refine Je ?_; refine Wm hN rfl rfl rfl rfl rfl rfl ?_; refine XJ ?_
 refine Qi (fun x : {i : Nat // i ≤ n ∧ True} => ⟨[(0, Xr (XD n f)), (3, .own 0 x.1), (4, i64 (x.1 : Nat))], [(0, .arr 56 1 ((List.range x.1).map (QlZ n f)))], 1⟩) (fun x => n - x.1) (⟨0, Nat.zero_le _, by trivial⟩) ?_ ?_
 ·
  exact Qa rfl (Xl trivial) ⟨(Yl rfl), rfl, (QN (fun _ => rfl) _), trivial⟩
 rintro ⟨i, hi, gi⟩
 dsimp only
 refine XJ ?_
 refine zq ?_ ?_ <;> intro h7
 ·
  have lti : i < n := by simpa [XD] using h7
  refine QA ?_; refine Wm hN rfl rfl rfl rfl rfl rfl ?_; refine XJ ?_
  refine Qi (fun x : {j : Nat // j ≤ n ∧ True} => ⟨[(0, Xr (XD n f)), (3, .own 0 i), (4, i64 (i : Nat)), (5, .own 1 x.1), (6, i64 (x.1 : Nat))], [(0, .arr 56 1 ((List.range i).map (QlZ n f))), (1, .arr 3 1 ((List.range x.1).map (mEl n f i)))], 2⟩) (fun x => n - x.1) (⟨0, Nat.zero_le _, by trivial⟩) ?_ ?_
  ·
   exact Qa rfl (QR (Xu trivial)) ⟨rfl, rfl, (QN (fun _ => rfl) _), (Yl rfl), rfl, (QN (fun _ => rfl) _), trivial⟩
  rintro ⟨j, hj, gj⟩
  dsimp only
  refine XJ ?_
  refine zq ?_ ?_ <;> intro h15
  ·
   have ltj : j < n := by simpa [XD] using h15
   refine XJ ?_; refine zP (Qc (Qrq n f ht z hz i j lti ltj) rfl rfl rfl) ?_
   refine zP (Qj rfl rfl rfl rfl (by exact rfl) (by decide) (by decide)) ?_
   refine Xb hN rfl rfl rfl (by simp) rfl rfl (by rfl) (by simp [Qg]; omega) rfl rfl rfl rfl ?_
   refine Je ?_; refine Qb ?_
   exact ⟨⟨j + 1, ltj, trivial⟩, Qa rfl (Xl ⟨(Kq (by simp [Qg])), rfl, (QE (by dsimp only; omega)), rfl, trivial⟩) ⟨rfl, rfl, (QN (fun _ => rfl) _), (Yl (by rw [QcT]; rfl)), rfl, (QN (fun _ => rfl) _), trivial⟩, by dsimp only; omega⟩
  have gej : n ≤ j := by simpa [XD] using h15
  obtain rfl : n = j := by omega
  refine KO ?_; refine Qu (QB 5 1 rfl rfl (by simp) (XA (fun _ => rfl) _) (JB (fun _ => rfl) _) rfl) ?_; refine QC ?_
  refine zP (Qj rfl rfl rfl rfl (by exact rfl) (by decide) (by decide)) ?_
  refine Xb hN rfl rfl rfl (by simp) rfl rfl (by rfl) (by simp [Qg]; omega) rfl rfl rfl rfl ?_
  refine Je ?_; refine Qb ?_
  exact ⟨⟨i + 1, lti, trivial⟩, Qa rfl (Xu ⟨(Kq (by simp [Qg])), rfl, (QE (by dsimp only; omega)), rfl, trivial⟩) ⟨(Yl (by rw [QcT, Qug]; rfl)), rfl, (QN (fun _ => rfl) _), trivial⟩, by dsimp only; omega⟩
 have gei : n ≤ i := by simpa [XD] using h7
 obtain rfl : n = i := by omega
 refine QC ?_; refine Qu (QB 3 0 rfl rfl (by simp) (XA (fun _ => rfl) _) (JB (fun _ => rfl) _) rfl) ?_; refine QJ ?_
 refine Qi (fun x : {i : Nat // i ≤ n ∧ ff (fun i => ff (fun j => ff (d1 n f i j) n 0) n 0) n i = dX n f} => ⟨[(0, Xr (XD n f)), (3, Xr (XD n (XZ n f))), (7, i64 (x.1 : Nat))], [], 0⟩) (fun x => n - x.1) (⟨0, Nat.zero_le _, by rfl⟩) ?_ ?_
 ·
  exact Qa rfl (Xu ⟨(congrArg some (QsT n f)), rfl, (Xu trivial)⟩) trivial
 rintro ⟨i, hi, gi⟩
 dsimp only
 refine XJ ?_
 refine zq ?_ ?_ <;> intro h27
 rotate_left
 ·
  have gei : n ≤ i := by simpa [XD] using h27
  have e3 := Qgb gei gi
  refine QJ ?_; refine zQ ?_
  exact Qt (by rw [Qq8 e3])
 have lti : i < n := by simpa [XD] using h27
 refine XJ ?_
 refine Qi (fun x : {j : Nat // j ≤ n ∧ (ff (fun j => ff (d1 n f i j) n 0) n j).or (ff (fun i => ff (fun j => ff (d1 n f i j) n 0) n 0) n (i + 1)) = dX n f} => ⟨[(0, Xr (XD n f)), (3, Xr (XD n (XZ n f))), (7, i64 (i : Nat)), (8, i64 (x.1 : Nat))], [], 0⟩) (fun x => n - x.1) (⟨0, Nat.zero_le _, by exact QiV lti gi rfl⟩) ?_ ?_
 ·
  exact Qa rfl (QR trivial) trivial
 rintro ⟨j, hj, gj⟩
 dsimp only
 refine XJ ?_
 refine zq ?_ ?_ <;> intro h33
 rotate_left
 ·
  have gej : n ≤ j := by simpa [XD] using h33
  refine QA ?_; refine Qb ?_
  exact ⟨⟨i + 1, lti, (Qbs gej gj)⟩, Qa rfl (Jg ⟨(QE (by dsimp only; omega)), rfl, trivial⟩) trivial, by dsimp only; omega⟩
 have ltj : j < n := by simpa [XD] using h33
 refine XJ ?_
 refine Qi (fun x : {k : Nat // k ≤ n ∧ (ff (d1 n f i j) n k).or ((ff (fun j => ff (d1 n f i j) n 0) n (j + 1)).or (ff (fun i => ff (fun j => ff (d1 n f i j) n 0) n 0) n (i + 1))) = dX n f} => ⟨[(0, Xr (XD n f)), (3, Xr (XD n (XZ n f))), (7, i64 (i : Nat)), (8, i64 (j : Nat)), (9, i64 (x.1 : Nat))], [], 0⟩) (fun x => n - x.1) (⟨0, Nat.zero_le _, by rw [← Option.or_assoc]; rw [Qa6 ltj] at gj; exact gj⟩) ?_ ?_
 ·
  exact Qa rfl (QR (Xu trivial)) trivial
 rintro ⟨k, hk, gk⟩
 dsimp only
 refine XJ ?_
 refine zq ?_ ?_ <;> intro h40
 rotate_left
 ·
  have gek : n ≤ k := by simpa [XD] using h40
  refine QA ?_; refine Qb ?_
  exact ⟨⟨j + 1, ltj, (Qbs gek gk)⟩, Qa rfl (Xl ⟨(QE (by dsimp only; omega)), rfl, trivial⟩) trivial, by dsimp only; omega⟩
 have ltk : k < n := by simpa [XD] using h40
 refine QJ ?_; refine Qy 32 (by kernel_rfl) (by kernel_rfl) ?_; refine QO ?_; refine zp (Qh rfl rfl rfl i rfl _ (XH lti) rfl) ?_
 refine QC ?_; refine zp (Qh rfl rfl rfl j rfl _ (XH ltj) rfl) ?_; refine QO ?_
 refine zp (Qh rfl rfl rfl k rfl _ (Xj ltk) rfl) ?_; refine zl ?_
 refine zp (Qh rfl rfl rfl (f j k) rfl _ (Xj (hlt j k ltj ltk)) rfl) ?_; refine QJ ?_
 refine zp (Qh rfl rfl rfl i rfl _ (XH lti) rfl) ?_; refine QO ?_; refine zp (Qh rfl rfl rfl j rfl _ (Xj ltj) rfl) ?_; refine zl ?_
 refine zp (Qh rfl rfl rfl (XZ n f i j) rfl _ (XH (hm i j)) rfl) ?_; refine QC ?_
 refine zp (Qh rfl rfl rfl i rfl _ (XH lti) rfl) ?_; refine QO ?_; refine zp (Qh rfl rfl rfl k rfl _ (Xj ltk) rfl) ?_; refine zl ?_
 refine zp (Qh rfl rfl rfl (XZ n f i k) rfl _ (Xj (hm i k)) rfl) ?_; refine zl ?_; change Qz _ _ _ _ _ _; refine QO ?_
 refine zq ?_ ?_ <;> intro h61
 ·
  have h20 : ¬ Qde f (XZ n f) i j k = true := by have := h61; simp [Qde] at this ⊢; omega
  refine QC ?_; refine zQ ?_
  exact Qt (by rw [QuU (QiD ltk gk (by rw [d1, if_neg h20]))])
 have h20 :  Qde f (XZ n f) i j k = true := by have := h61; simp [Qde] at this ⊢; omega
 refine QA ?_; refine Qb ?_
 exact ⟨⟨k + 1, ltk, Qjr ltk gk (by rw [d1, if_pos h20])⟩, Qa rfl (QR ⟨(QE (by dsimp only; omega)), rfl, trivial⟩) trivial, by dsimp only; omega⟩
theorem QtB (X : List (List Int)) (l : Qs) (hF : Qj6 X = false) : FC Tryz.prog 8 [Xr X, .agg (QF l)] (bl true) := by
 refine Qd [4] Tryz.func8 rfl rfl 140 Tryz.ntmps8 (Nat.le_of_ble_eq_true rfl) ?_
 intro E hN
 refine JU ?_; refine zP (Qc (fcb (c := false) (Qkh X) hF) rfl rfl rfl) ?_; refine QA ?_; refine zP (Qc Jt rfl rfl rfl) ?_
 refine zS ?_; refine zQ ?_
 rfl
theorem Qt0 (X : List (List Int)) (l : Qs) (hF : Qj6 X = true) (hT : isT X = false) : FC Tryz.prog 8 [Xr X, .agg (QF l)] (bl true) := by
 refine Qd [4] Tryz.func8 rfl rfl 140 Tryz.ntmps8 (Nat.le_of_ble_eq_true rfl) ?_
 intro E hN
 refine JU ?_; refine zP (Qc (fcb (c := true) (Qkh X) hF) rfl rfl rfl) ?_; refine XJ ?_
 refine zP (Qc (fcb (c := false) (Qkt X) hT) rfl rfl rfl) ?_; refine XN ?_; refine zP (Qc (QdD l) rfl rfl rfl) ?_; refine JA ?_
 refine zc 84 ?_ ?_ <;> intro h8
 ·
  refine JA ?_; refine zP (Qc Jt rfl rfl rfl) ?_; refine zS ?_; refine zQ ?_
  rfl
 have hz0 : Qai l = 0 := by simpa using h8
 refine QJ ?_
 refine zc 88 ?_ ?_ <;> intro h9
 ·
  refine XJ ?_; refine zP (Qc Jt rfl rfl rfl) ?_; refine zS ?_; refine zQ ?_
  rfl
 have h40 : cnt l ≤ 40 := by have := of_decide_eq_false h9; omega
 refine KO ?_
 refine uP (JI h9) (Qc (Qe6 l (QP (by obtain ⟨L, hE, _, _⟩ := Qc2 hz0; exact hE.ck))) rfl rfl rfl) ?_
 refine QC ?_
 refine zq ?_ ?_ <;> intro h11
 ·
  refine zG ?_; refine zP (Qc Jt rfl rfl rfl) ?_; refine zS ?_; refine zQ ?_
  rfl
 have hdis : Qal l = true := by rw [← Qbz]; simpa using h11
 obtain ⟨L, hE, hln, hvx⟩ := Qc2 hz0
 obtain ⟨z2, hz2, Lf2⟩ := QbL hE.tabOf.lt (J0 hE)
 have hds := hE.dist hz2 Lf2 hdis
 refine QJ ?_; refine zP (Qc (Qdz hE hvx) rfl rfl rfl) ?_; refine JU ?_
 refine zP (Qc (by have h := QbG L.length (jIx l L) hE.tabOf (us0 hE.tabOf (J0 hE)); rw [hds] at h; exact h) rfl rfl rfl) ?_
 refine JU ?_; refine zP (Qc (QdL L.length (jIx l L) hE.tabOf (us0 hE.tabOf (J0 hE))) rfl rfl rfl) ?_; refine JU ?_
 refine zP (Qc (W7 L.length (jIx l L) hE.tabOf Lf2 (us0 hE.tabOf (J0 hE))) rfl rfl rfl) ?_; refine XJ ?_
 refine zP (Qc Jt rfl rfl rfl) ?_; refine JA ?_
 refine zc 126 ?_ ?_ <;> intro h17
 rotate_left
 ·
  cases h17
 refine YJ ?_
 refine zP (Xc (b := true) rfl rfl rfl (by rw [Lf2.hgt_dist hz2 (W3.1 hds)]; simp)) ?_
 refine QO ?_; refine zQ ?_
 rfl
theorem Que (n : Nat) (f : Nat → Nat → Nat) (ht : KP (XD n f) n f) (l : Qs) (hF : Qj6 (XD n f) = true) (h0 : ¬ (vio n f).1 = 0) : FC Tryz.prog 8 [Xr (XD n f), .agg (QF l)] (bl true) := by
 refine Qd [4] Tryz.func8 rfl rfl 140 Tryz.ntmps8 (Nat.le_of_ble_eq_true rfl) ?_
 intro E hN
 refine JU ?_; refine zP (Qc (fcb (c := true) (Qkh (XD n f)) hF) rfl rfl rfl) ?_; refine XJ ?_
 refine zP (Qc (fcb (c := true) (Qkt (XD n f)) ht.is) rfl rfl rfl) ?_; refine QO ?_
 refine zP (Qc (fcb (c := false) (Qlc n f ht) (decide_eq_false h0)) rfl rfl rfl) ?_; refine Xz ?_
 refine zP (Qc (QdD l) rfl rfl rfl) ?_; refine JA ?_
 refine zc 84 ?_ ?_ <;> intro h8
 ·
  refine JA ?_; refine zP (Qc Jt rfl rfl rfl) ?_; refine zS ?_; refine zQ ?_
  rfl
 have hz0 : Qai l = 0 := by simpa using h8
 refine QJ ?_
 refine zc 88 ?_ ?_ <;> intro h9
 ·
  refine XJ ?_; refine zP (Qc Jt rfl rfl rfl) ?_; refine zS ?_; refine zQ ?_
  rfl
 have h40 : cnt l ≤ 40 := by have := of_decide_eq_false h9; omega
 refine KO ?_
 refine uP (JI h9) (Qc (Qe6 l (QP (by obtain ⟨L, hE, _, _⟩ := Qc2 hz0; exact hE.ck))) rfl rfl rfl) ?_
 refine QC ?_
 refine zq ?_ ?_ <;> intro h11
 ·
  refine zG ?_; refine zP (Qc Jt rfl rfl rfl) ?_; refine zS ?_; refine zQ ?_
  rfl
 have hdis : Qal l = true := by rw [← Qbz]; simpa using h11
 obtain ⟨L, hE, hln, hvx⟩ := Qc2 hz0
 obtain ⟨z2, hz2, Lf2⟩ := QbL hE.tabOf.lt (J0 hE)
 have hds := hE.dist hz2 Lf2 hdis
 refine QJ ?_; refine zP (Qc (Qdz hE hvx) rfl rfl rfl) ?_; refine JU ?_
 refine zP (Qc (by have h := QbG L.length (jIx l L) hE.tabOf (us0 hE.tabOf (J0 hE)); rw [hds] at h; exact h) rfl rfl rfl) ?_
 refine JU ?_; refine zP (Qc (QdL L.length (jIx l L) hE.tabOf (us0 hE.tabOf (J0 hE))) rfl rfl rfl) ?_; refine JU ?_
 refine zP (Qc (W7 L.length (jIx l L) hE.tabOf Lf2 (us0 hE.tabOf (J0 hE))) rfl rfl rfl) ?_; refine XJ ?_
 refine zP (Qc Jt rfl rfl rfl) ?_; refine JA ?_
 refine zc 126 ?_ ?_ <;> intro h17
 rotate_left
 ·
  cases h17
 refine YJ ?_
 refine zP (Xc (b := true) rfl rfl rfl (by rw [Lf2.hgt_dist hz2 (W3.1 hds)]; simp)) ?_
 refine QO ?_; refine zQ ?_
 rfl
theorem QtD (n : Nat) (f : Nat → Nat → Nat) (ht : KP (XD n f) n f) (l : Qs) (hF : Qj6 (XD n f) = true) (h0 : (vio n f).1 = 0) (z : Nat) (hz : bot n f = some z) (Lf : KI n f z) : FC Tryz.prog 8 [Xr (XD n f), .agg (QF l)] (bl true) := by
 refine Qd [4] Tryz.func8 rfl rfl 140 Tryz.ntmps8 (Nat.le_of_ble_eq_true rfl) ?_
 intro E hN
 refine JU ?_; refine zP (Qc (fcb (c := true) (Qkh (XD n f)) hF) rfl rfl rfl) ?_; refine XJ ?_
 refine zP (Qc (fcb (c := true) (Qkt (XD n f)) ht.is) rfl rfl rfl) ?_; refine QO ?_
 refine zP (Qc (fcb (c := true) (Qlc n f ht) (decide_eq_true h0)) rfl rfl rfl) ?_; refine Je ?_
 refine zP (Qc (QbG n f ht (us0 ht h0)) rfl rfl rfl) ?_; refine JU ?_; refine zP (Qc (QdL n f ht (us0 ht h0)) rfl rfl rfl) ?_
 refine JU ?_; refine zP (Qc (W7 n f ht Lf (us0 ht h0)) rfl rfl rfl) ?_; refine QjA ?_
 refine zP (Qc (Qsp n f ht z hz) rfl rfl rfl) ?_; refine zP (Xc (b := false) rfl rfl rfl (by simp)) ?_; refine QJ ?_
 refine zc 64 ?_ ?_ <;> intro h5
 ·
  have hd1 : QaM n f = true := h5
  refine QC ?_
  refine uP (X7 h5) (Xc (b := false) rfl rfl rfl (by rw [Lf.hgt_dist hz (W3.1 hd1)]; simp)) ?_
  refine Je ?_
  refine zP (Xc (b := false) rfl rfl rfl (by have := Lf.hgt_le; simp; omega)) ?_
  refine Xz ?_; refine zP (Qc (QdD l) rfl rfl rfl) ?_; refine JA ?_
  refine zc 84 ?_ ?_ <;> intro h23
  ·
   refine JA ?_; refine zP (Qc Jt rfl rfl rfl) ?_; refine zS ?_; refine zQ ?_
   rfl
  have hz0 : Qai l = 0 := by simpa using h23
  refine QJ ?_
  refine zc 88 ?_ ?_ <;> intro h24
  ·
   refine XJ ?_; refine zP (Qc Jt rfl rfl rfl) ?_; refine zS ?_; refine zQ ?_
   rfl
  have h40 : cnt l ≤ 40 := by have := of_decide_eq_false h24; omega
  refine KO ?_
  refine uP (JI h24) (Qc (Qe6 l (QP (by obtain ⟨L, hE, _, _⟩ := Qc2 hz0; exact hE.ck))) rfl rfl rfl) ?_
  refine QC ?_
  refine zq ?_ ?_ <;> intro h26
  ·
   refine zG ?_; refine zP (Qc Jt rfl rfl rfl) ?_; refine zS ?_; refine zQ ?_
   rfl
  have hdis : Qal l = true := by rw [← Qbz]; simpa using h26
  obtain ⟨L, hE, hln, hvx⟩ := Qc2 hz0
  obtain ⟨z2, hz2, Lf2⟩ := QbL hE.tabOf.lt (J0 hE)
  have hds := hE.dist hz2 Lf2 hdis
  refine QJ ?_; refine zP (Qc (Qdz hE hvx) rfl rfl rfl) ?_; refine JU ?_
  refine zP (Qc (by have h := QbG L.length (jIx l L) hE.tabOf (us0 hE.tabOf (J0 hE)); rw [hds] at h; exact h) rfl rfl rfl) ?_
  refine JU ?_; refine zP (Qc (QdL L.length (jIx l L) hE.tabOf (us0 hE.tabOf (J0 hE))) rfl rfl rfl) ?_; refine JU ?_
  refine zP (Qc (W7 L.length (jIx l L) hE.tabOf Lf2 (us0 hE.tabOf (J0 hE))) rfl rfl rfl) ?_; refine XJ ?_
  refine zP (Qc Jt rfl rfl rfl) ?_; refine JA ?_
  refine zc 126 ?_ ?_ <;> intro h32
  rotate_left
  ·
   cases h32
  refine YJ ?_
  refine zP (Xc (b := true) rfl rfl rfl (by rw [Lf2.hgt_dist hz2 (W3.1 hds)]; simp)) ?_
  refine QO ?_; refine zQ ?_
  rfl
 refine XN ?_
 refine zP (Xc (b := false) rfl rfl rfl (by have := Lf.hgt_le; simp; omega)) ?_
 refine Xz ?_; refine zP (Qc (QdD l) rfl rfl rfl) ?_; refine JA ?_
 refine zc 84 ?_ ?_ <;> intro h50
 ·
  refine JA ?_; refine zP (Qc Jt rfl rfl rfl) ?_; refine zS ?_; refine zQ ?_
  rfl
 have hz0 : Qai l = 0 := by simpa using h50
 refine QJ ?_
 refine zc 88 ?_ ?_ <;> intro h51
 ·
  refine XJ ?_; refine zP (Qc Jt rfl rfl rfl) ?_; refine zS ?_; refine zQ ?_
  rfl
 have h40 : cnt l ≤ 40 := by have := of_decide_eq_false h51; omega
 refine KO ?_
 refine uP (JI h51) (Qc (Qe6 l (QP (by obtain ⟨L, hE, _, _⟩ := Qc2 hz0; exact hE.ck))) rfl rfl rfl) ?_
 refine QC ?_
 refine zq ?_ ?_ <;> intro h53
 ·
  refine zG ?_; refine zP (Qc Jt rfl rfl rfl) ?_; refine zS ?_; refine zQ ?_
  rfl
 have hdis : Qal l = true := by rw [← Qbz]; simpa using h53
 obtain ⟨L, hE, hln, hvx⟩ := Qc2 hz0
 obtain ⟨z2, hz2, Lf2⟩ := QbL hE.tabOf.lt (J0 hE)
 have hds := hE.dist hz2 Lf2 hdis
 refine QJ ?_; refine zP (Qc (Qdz hE hvx) rfl rfl rfl) ?_; refine JU ?_
 refine zP (Qc (by have h := QbG L.length (jIx l L) hE.tabOf (us0 hE.tabOf (J0 hE)); rw [hds] at h; exact h) rfl rfl rfl) ?_
 refine JU ?_; refine zP (Qc (QdL L.length (jIx l L) hE.tabOf (us0 hE.tabOf (J0 hE))) rfl rfl rfl) ?_; refine JU ?_
 refine zP (Qc (W7 L.length (jIx l L) hE.tabOf Lf2 (us0 hE.tabOf (J0 hE))) rfl rfl rfl) ?_; refine XJ ?_
 refine zP (Qc Jt rfl rfl rfl) ?_; refine JA ?_
 refine zc 126 ?_ ?_ <;> intro h59
 rotate_left
 ·
  cases h59
 refine YJ ?_
 refine zP (Xc (b := true) rfl rfl rfl (by rw [Lf2.hgt_dist hz2 (W3.1 hds)]; simp)) ?_
 refine QO ?_; refine zQ ?_
 rfl
theorem QlO (X : List (List Int)) (l : Qs) : FC Tryz.prog 8 [Xr X, .agg (QF l)] (bl true) := by
 cases hF : Qj6 X with
 | false => exact QtB X l hF
 | true =>
  cases hT : isT X with
  | false => exact Qt0 X l hF hT
  | true =>
   obtain ⟨n, f, h⟩ := Qu7 hT
   have e := h.eq
   subst e
   by_cases h0 : (vio n f).1 = 0
   ·obtain ⟨z, hz, Lf⟩ := QbL h.lt h0
    exact QtD n f h l hF h0 z hz Lf
   exact Que n f h l hF h0
end Go.Proofs.YtaecccdkjmipeaaGreat
