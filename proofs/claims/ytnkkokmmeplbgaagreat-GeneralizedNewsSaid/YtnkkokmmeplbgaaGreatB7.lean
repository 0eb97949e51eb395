/-
  Contracts: elements of a lattice.
-/
import Derived.Test.YtnkkokmmeplbgaaGreatB5
namespace Go.Proofs.YtnkkokmmeplbgaaGreat
set_option maxRecDepth 100000
set_option maxHeartbeats 1000000
open Go.RowKit
def Qbq (e f : En) : Bool := !(Qbh e.1 f.1 == 1 || Qbh e.1 f.1 == 2)
def Qa9 (l : List En) (e : En) (i : Nat) : Bool := !((e.1.length : Int) == 0) && QT (-1) e.1 && Xb e.2 && !(decide ((i : Int) > 0) && (match l[i - 1]? with | some y => decide (XK y e ≥ 0) | none => false)) && (l.take i).all (Qbq e)
def QbJ (l : List En) (p : En × Nat) : Bool := Qa9 l p.1 p.2
def Qhv (l : List En) : Bool := l.zipIdx.all (QbJ l)
theorem JE {l : List En} {k : Nat} {x : En} (h : l[k]? = some x) : l.zipIdx[k]? = some (x, k) := by simp [h]
theorem QfV (l : List En) : l.zipIdx.length = l.length := by simp
mutual
def Qm : Qs → Qt
 | .mk k lo hi _ ps _ => .mk (if k == 2 then lo else if k == 3 then hi else 0) [] (if k == 6 || k == 7 then Qak ps else []) []
def Qak : List Qs → List Qt
 | [] => []
 | p :: r => Qm p :: Qak r
end
theorem Qbd : ∀ l : List Qs, Qak l = l.map Qm
 | [] => by simp [Qak]
 | p :: r => by simp only [Qak, List.map_cons]; rw [Qbd r]
theorem Xz (l : Qs) : Qm l = .mk (if l.k == 2 then l.lo else if l.k == 3 then l.hi else 0) [] (if l.k == 6 || l.k == 7 then l.ps.map Qm else []) [] := by
 cases l with
 | mk k lo hi nm ps rs => rw [Qm, Qbd]; rfl
theorem Kl (v : Qt) : WP 4 (YR v) = true := by rw [WB]; rfl
theorem X3 (a b c d : AV) : X2 4 1 [a, b, c, d] = [[a, b, c, d]] := rfl
theorem cgV {tt : TypeId} {a b d : AV} {es es' : List (List AV)} {tk : Option Nat} (h : es = es') : some (Qi.var tt [a, b, .sl es tk, d]) = some (Qi.var tt [a, b, .sl es' tk, d]) := by rw [h]
theorem Qbp {l : List Qs} {k : Nat} {x : Qs} (h : l[k]? = some x) : (((l.take k).map Qm).map YR) ++ X2 4 1 (QH (Qm x)) = (((l.take (k + 1)).map Qm).map YR) := by
 rw [X3, List.take_add_one, h]
 simp [WB]
theorem QdN {a b c d a' b' c' d' : AV} (h1 : a = a') (h2 : b = b') (h3 : c = c') (h4 : d = d') : AV.agg [a, b, c, d] = AV.agg [a', b', c', d'] := by rw [h1, h2, h3, h4]
inductive Ys : Qs → Prop
 | mk (l : Qs) (h1 : QU l = 0) (h2 : KH [XH l, Xp l, Q7 l, Xq l] = 0) (h3 : l.ps.length ≤ 64) (h4 : ∀ p ∈ l.ps, Ys p) : Ys l
theorem QeA : ∀ (f : Nat) (l : Qs) (n : Int), 0 ≤ n → (QG f l n).1 = 0 → Ys l ∧ n + 1 ≤ (QG f l n).2 ∧ (QG f l n).2 ≤ 64
 | 0, l, n, _, h => by simp [QG] at h
 | f + 1, l, n, hn, h => by
  by_cases h64 : n ≥ 64
  ·rw [Qgg h64] at h; simp at h
  have h64 : n < 64 := by omega
  cases hs : QU l != 0 with
  | true => rw [Qbg h64 hs] at h; simp at h; simp [h] at hs
  | false =>
   cases ho : KH [XH l, Xp l, Q7 l, Xq l] != 0 with
   | true => rw [Qj8 h64 hs ho] at h; simp at h; simp [h] at ho
   | false =>
    rw [Wm h64 hs ho] at h ⊢
    have key : ∀ (q : Qs) (m : Int), 0 ≤ m → (QG f q m).1 = 0 → Ys q ∧ m + 1 ≤ (QG f q m).2 ∧ (QG f q m).2 ≤ 64 := fun q m hm hq => QeA f q m hm hq
    have all : ∀ (ps : List Qs) (m : Int), 0 ≤ m → m ≤ 64 → (XG (QG f) ps m).1 = 0 → (∀ p ∈ ps, Ys p) ∧ m + ps.length ≤ (XG (QG f) ps m).2 ∧ (XG (QG f) ps m).2 ≤ 64 := by
     intro ps
     induction ps with
     | nil => intro m _ h1 _; simpa [XG] using h1
     | cons q r ih =>
      intro m h0 h1 h2
      unfold XG at h2 ⊢
      split at h2
      ·rename_i hz
       rw [if_pos hz]
       obtain ⟨k1, k2, k3⟩ := key q m h0 (by simpa using hz)
       obtain ⟨k4, k5, k6⟩ := ih _ (by omega) k3 h2
       refine ⟨fun p hp => ?_, by simp only [List.length_cons]; omega, k6⟩
       rcases List.mem_cons.1 hp with rfl | hp
       ·exact k1
       exact k4 p hp
      rename_i hz
      exact absurd (by simpa using h2) hz
    obtain ⟨k1, k2, k3⟩ := all l.ps (n + 1) (by omega) (by omega) h
    exact ⟨.mk l (by simpa using hs) (by simpa using ho) (by omega) k1, by omega, k3⟩
theorem Xg {l : Qs} (h : QK l = 0) : Ys l := (QeA 6 l 0 (by decide) h).1
theorem Ys.shape {l : Qs} (h : Ys l) : QU l = 0 := by cases h; assumption
theorem Ys.small {l : Qs} (h : Ys l) : l.ps.length ≤ 64 := by cases h; assumption
theorem Ys.part {l : Qs} (h : Ys l) : ∀ p ∈ l.ps, Ys p := by cases h; assumption
theorem Qn0 (l : List En) : FC Tryz.prog 141 [KU l] (bl (Qhv l)) := by
 refine Qe [2] Tryz.func141 rfl rfl 66 Tryz.ntmps141 (Nat.le_of_ble_eq_true rfl) ?_
 intro E hN
 refine X7 0 rfl (fun hl0 => ?_)
 refine Jn ?_
 refine Qo (fun x : {k : Nat // k ≤ (l).length ∧ (l.zipIdx.drop k).all (QbJ l) = l.zipIdx.all (QbJ l)} => ⟨[(0, KU l), (8, KU l), (9, i64 l.length), (10, i64 (x.1 : Nat))], [], 0⟩) (fun x => (l).length - x.1) (⟨0, Nat.zero_le _, by simp⟩) ?_ ?_
 ·
  exact Qa rfl (Yv ⟨(Xe (by simp)), rfl, (Xr trivial)⟩) trivial
 rintro ⟨k, hk, hg⟩
 dsimp only
 refine QA ?_
 refine zq ?_ ?_ <;> intro h7
 rotate_left
 ·
  have hge : (l).length ≤ k := by simpa using h7
  refine Qz ?_; refine zQ ?_
  exact Qq (XZ hg (by rw [QfV]; exact hge)).symm
 have hlt : k < (l).length := by simpa using h7
 obtain ⟨x, hx⟩ := Qr hlt
 refine Xk ?_; refine zP (Qf rfl rfl rfl k rfl _ (Qu hx) rfl) ?_; refine Xj ?_; refine Qg 29 (by kernel_rfl) (by kernel_rfl) ?_
 refine QA ?_
 refine zd 19 ?_ ?_ <;> intro h15
 ·
  refine QdU ?_; change Ql _ _ _ _ _ _; refine Xk ?_; refine zQ ?_
  exact Qq (Q1 hg (JE hx) (by simp_all [QbJ, Qa9])).symm
 refine QC ?_; refine vP (XF h15) (Qb (Wh _) rfl rfl rfl) ?_; refine Qx ?_
 refine zd 25 ?_ ?_ <;> intro h18
 ·
  refine QfA ?_; change Ql _ _ _ _ _ _; refine Xk ?_; refine zQ ?_
  exact Qq (Q1 hg (JE hx) (by simp_all [QbJ, Qa9])).symm
 refine QC ?_; refine vP (XF (m1 (n0 h18))) (Qb (Qbm _) rfl rfl rfl) ?_; refine Qx ?_
 refine zd 31 ?_ ?_ <;> intro h21
 ·
  refine Jn ?_; change Ql _ _ _ _ _ _; refine Xk ?_; refine zQ ?_
  exact Qq (Q1 hg (JE hx) (by simp_all [QbJ, Qa9])).symm
 refine Qx ?_
 refine zd 34 ?_ ?_ <;> intro h22
 rotate_left
 ·
  refine Jf ?_; refine vP (XF (m1 (n0 h21))) (Xl rfl rfl h22 rfl) ?_; change Ql _ _ _ _ _ _; refine Jf ?_
  refine zP (Qm1 rfl rfl rfl k rfl (by omega) (by exact fun _ => rfl)) ?_; refine Qz ?_
  refine Qo (fun x1 : {j : Nat // j ≤ (l.take k).length ∧ ((l.take k).drop j).all (Qbq x) = (l.take k).all (Qbq x)} => ⟨[(0, KU l), (4, .ptr 0 0), (8, KU l), (9, i64 l.length), (10, i64 (k : Nat)), (47, KU (l.take k)), (48, i64 (l.take k).length), (49, i64 (x1.1 : Nat))], [(0, .var 149 (K6 x))], 1⟩) (fun x1 => (l.take k).length - x1.1) (⟨0, Nat.zero_le _, by simp⟩) ?_ ?_
  ·
   exact Qa rfl (Yg (Yv ⟨(Xe (by simp)), rfl, (Xr trivial)⟩)) ⟨rfl, rfl, rfl, trivial⟩
  rintro ⟨j, hj, hgj⟩
  dsimp only
  have htk : (l.take k).length ≤ l.length := by simp; omega
  refine QA ?_
  refine zq ?_ ?_ <;> intro h63
  rotate_left
  ·
   have hgej : (l.take k).length ≤ j := by simpa using h63
   have hA := XZ hgj hgej
   refine Qz ?_; refine Qc ?_
   exact ⟨⟨k + 1, hlt, Xx hg (JE hx) (by simp_all [QbJ, Qa9])⟩, Qa rfl (Ya ⟨(Xe (by dsimp only; omega)), rfl, trivial⟩) trivial, by dsimp only; omega⟩
  have hltj : j < (l.take k).length := by simpa using h63
  obtain ⟨y2, hy2⟩ := Qr hltj
  refine QA ?_; refine zP (Qf rfl rfl rfl j rfl _ (Qu hy2) rfl) ?_; refine XM ?_; refine zP (Qb (QcA _ _) rfl rfl rfl) ?_
  refine Xj ?_
  refine zc 60 ?_ ?_ <;> intro h73
  ·
   refine Jf ?_; refine zQ ?_
   exact Qq (Q1 hg (JE hx) (by rw [QbJ, Qa9, Q1 hgj hy2 (by simp_all [Qbq])]; simp)).symm
  refine Qz ?_
  refine zq ?_ ?_ <;> intro h74
  ·
   refine Qx ?_; refine zQ ?_
   exact Qq (Q1 hg (JE hx) (by rw [QbJ, Qa9, Q1 hgj hy2 (by simp_all [Qbq])]; simp)).symm
  refine Qz ?_; refine Qc ?_
  exact ⟨⟨j + 1, hltj, Xx hgj hy2 (by simp_all [Qbq])⟩, Qa rfl (Yg (Ya ⟨(Xe (by dsimp only; omega)), rfl, trivial⟩)) ⟨rfl, rfl, rfl, trivial⟩, by dsimp only; omega⟩
 have hk0 : 0 < k := by simpa using h22
 obtain ⟨y, hy⟩ := Qr (show k - 1 < l.length by omega)
 refine QC ?_; refine vP (Xo h22) (QbO rfl rfl rfl (by omega)) ?_
 refine vP (Xo h22) (Qf rfl rfl rfl (k - 1) (by omega) _ (Qu hy) rfl) ?_; refine QC ?_
 refine vP (Xo h22) (Qb (Qge _ _) rfl rfl rfl) ?_; refine Yb ?_; refine vP (XF (m1 (n0 h21))) (Xf rfl rfl h22 rfl) ?_
 change Ql _ _ _ _ _ _; refine QC ?_
 refine zq ?_ ?_ <;> intro h28
 ·
  refine Qx ?_; refine zQ ?_
  exact Qq (Q1 hg (JE hx) (by simp_all [QbJ, Qa9])).symm
 refine QA ?_; refine zP (Qm1 rfl rfl rfl k rfl (by omega) (by exact fun _ => rfl)) ?_; refine Qz ?_
 refine Qo (fun x1 : {j : Nat // j ≤ (l.take k).length ∧ ((l.take k).drop j).all (Qbq x) = (l.take k).all (Qbq x)} => ⟨[(0, KU l), (4, .ptr 0 0), (8, KU l), (9, i64 l.length), (10, i64 (k : Nat)), (47, KU (l.take k)), (48, i64 (l.take k).length), (49, i64 (x1.1 : Nat))], [(0, .var 149 (K6 x))], 1⟩) (fun x1 => (l.take k).length - x1.1) (⟨0, Nat.zero_le _, by simp⟩) ?_ ?_
 ·
  exact Qa rfl (Yg (Yv ⟨(Xe (by simp)), rfl, (Xr trivial)⟩)) ⟨rfl, rfl, rfl, trivial⟩
 rintro ⟨j, hj, hgj⟩
 dsimp only
 have htk : (l.take k).length ≤ l.length := by simp; omega
 refine QA ?_
 refine zq ?_ ?_ <;> intro h39
 rotate_left
 ·
  have hgej : (l.take k).length ≤ j := by simpa using h39
  have hA := XZ hgj hgej
  refine Qz ?_; refine Qc ?_
  exact ⟨⟨k + 1, hlt, Xx hg (JE hx) (by simp_all [QbJ, Qa9])⟩, Qa rfl (Ya ⟨(Xe (by dsimp only; omega)), rfl, trivial⟩) trivial, by dsimp only; omega⟩
 have hltj : j < (l.take k).length := by simpa using h39
 obtain ⟨y2, hy2⟩ := Qr hltj
 refine QA ?_; refine zP (Qf rfl rfl rfl j rfl _ (Qu hy2) rfl) ?_; refine XM ?_; refine zP (Qb (QcA _ _) rfl rfl rfl) ?_
 refine Xj ?_
 refine zc 60 ?_ ?_ <;> intro h49
 ·
  refine Jf ?_; refine zQ ?_
  exact Qq (Q1 hg (JE hx) (by rw [QbJ, Qa9, Q1 hgj hy2 (by simp_all [Qbq])]; simp)).symm
 refine Qz ?_
 refine zq ?_ ?_ <;> intro h50
 ·
  refine Qx ?_; refine zQ ?_
  exact Qq (Q1 hg (JE hx) (by rw [QbJ, Qa9, Q1 hgj hy2 (by simp_all [Qbq])]; simp)).symm
 refine Qz ?_; refine Qc ?_
 exact ⟨⟨j + 1, hltj, Xx hgj hy2 (by simp_all [Qbq])⟩, Qa rfl (Yg (Ya ⟨(Xe (by dsimp only; omega)), rfl, trivial⟩)) ⟨rfl, rfl, rfl, trivial⟩, by dsimp only; omega⟩
theorem Qj7 (l : Qs) (hp : l.ps.length ≤ 64) (ih : ∀ p ∈ l.ps, FC Tryz.prog 133 [.agg (QP p)] (.agg (QH (Qm p)))) : FC Tryz.prog 133 [.agg (QP l)] (.agg (QH (Qm l))) := by
 refine X9 [.c 2 30 4 true] ⟨⟨inferInstance, rfl⟩, trivial⟩ Tryz.func133 rfl rfl 37 Tryz.ntmps133 (Nat.le_of_ble_eq_true rfl) ?_
 intro E hN
 refine QmI ?_
 refine zq ?_ ?_ <;> intro h7
 ·
  refine Jc ?_; refine Qj ?_
  change (resY _ _).bind AV.fzt = some _
  refine Xs rfl ?_
  rw [Xz]
  refine QdN (QB ?_) rfl ?_ rfl
  ·simp_all [Qt.N]
  first | (simp_all [Qt.ps]; done) | (refine QaV ?_; simp_all [Qt.ps, List.take_of_length_le])
 refine QA ?_
 refine zq ?_ ?_ <;> intro h14
 ·
  refine Jc ?_; refine Qj ?_
  change (resY _ _).bind AV.fzt = some _
  refine Xs rfl ?_
  rw [Xz]
  refine QdN (QB ?_) rfl ?_ rfl
  ·simp_all [Qt.N]
  first | (simp_all [Qt.ps]; done) | (refine QaV ?_; simp_all [Qt.ps, List.take_of_length_le])
 refine Xk ?_
 refine zq ?_ ?_ <;> intro h21
 ·
  refine XM ?_; refine QF (JG rfl 2 2 30 4 rfl rfl rfl) ?_
  refine Qo (fun x : {k : Nat // k ≤ (l.ps).length ∧ True} => ⟨[(2, .ptr 1 0), (3, .ptr 2 0), (22, Qf0 l.ps), (23, i64 l.ps.length), (24, i64 (x.1 : Nat))], [(1, .var 30 [i64 0, .p (.slice none 0 0), .p (.slice none 0 0), .p (.slice none 0 0)]), (2, .var 30 [i64 0, .p (.slice none 0 0), .sl (((l.ps.take x.1).map Qm).map YR) (some 3), .p (.slice none 0 0)]), (3, .tok 30 4 ((l.ps.take x.1).map Qm).length)], 4⟩) (fun x => (l.ps).length - x.1) (⟨0, Nat.zero_le _, by simp⟩) ?_ ?_
  ·
   exact Qa rfl (Ya ⟨(Xe (by simp)), rfl, (Xr trivial)⟩) ⟨rfl, rfl, rfl, rfl, rfl, rfl, rfl, rfl, rfl, trivial⟩
  rintro ⟨k, hk, hg⟩
  dsimp only
  refine X7 22 rfl (fun hl8 => ?_)
  refine QA ?_
  refine zq ?_ ?_ <;> intro h30
  rotate_left
  ·
   have hge : (l.ps).length ≤ k := by simpa using h30
   refine Xk ?_; refine Qj ?_
   change (resY _ _).bind AV.fzt = some _
   refine Xs rfl ?_
   rw [Xz]
   refine QdN (QB ?_) rfl ?_ rfl
   ·simp_all [Qt.N]
   first | (simp_all [Qt.ps]; done) | (refine QaV ?_; simp_all [Qt.ps, List.take_of_length_le])
  have hlt : k < (l.ps).length := by simpa using h30
  obtain ⟨x, hx⟩ := Qr hlt
  refine QA ?_; refine zP (Qf rfl rfl rfl k rfl _ (Xv hx) rfl) ?_; refine Qz ?_; refine Qg 5 (by kernel_rfl) (by kernel_rfl) ?_
  refine Qx ?_; refine zp (Qb (ih x (List.mem_of_getElem? hx)) rfl rfl rfl) ?_
  refine zp (QJ rfl rfl rfl rfl (by exact rfl) (by decide) (by decide)) ?_; change Ql _ _ _ _ _ _
  refine QM hN rfl rfl rfl (by simp) rfl rfl (Q2 Kl _) rfl (by simp [X3]; omega) rfl rfl rfl rfl ?_
  refine Xk ?_; refine Qc ?_
  exact ⟨⟨k + 1, hlt, trivial⟩, Qa rfl (Yg ⟨(Xe (by dsimp only; omega)), rfl, trivial⟩) ⟨rfl, rfl, rfl, (cgV (Qbp hx)), rfl, rfl, (cgT (by simp [X3]; omega)), rfl, rfl, trivial⟩, by dsimp only; omega⟩
 refine Qz ?_
 refine zq ?_ ?_ <;> intro h46
 rotate_left
 ·
  refine Xk ?_; refine Qj ?_
  change (resY _ _).bind AV.fzt = some _
  refine Xs rfl ?_
  rw [Xz]
  refine QdN (QB ?_) rfl ?_ rfl
  ·simp_all [Qt.N]
  first | (simp_all [Qt.ps]; done) | (refine QaV ?_; simp_all [Qt.ps, List.take_of_length_le])
 refine Jf ?_; refine QF (JG rfl 2 2 30 4 rfl rfl rfl) ?_
 refine Qo (fun x : {k : Nat // k ≤ (l.ps).length ∧ True} => ⟨[(2, .ptr 1 0), (3, .ptr 2 0), (22, Qf0 l.ps), (23, i64 l.ps.length), (24, i64 (x.1 : Nat))], [(1, .var 30 [i64 0, .p (.slice none 0 0), .p (.slice none 0 0), .p (.slice none 0 0)]), (2, .var 30 [i64 0, .p (.slice none 0 0), .sl (((l.ps.take x.1).map Qm).map YR) (some 3), .p (.slice none 0 0)]), (3, .tok 30 4 ((l.ps.take x.1).map Qm).length)], 4⟩) (fun x => (l.ps).length - x.1) (⟨0, Nat.zero_le _, by simp⟩) ?_ ?_
 ·
  exact Qa rfl (Ya ⟨(Xe (by simp)), rfl, (Xr trivial)⟩) ⟨rfl, rfl, rfl, rfl, rfl, rfl, rfl, rfl, rfl, trivial⟩
 rintro ⟨k, hk, hg⟩
 dsimp only
 refine X7 22 rfl (fun hl8 => ?_)
 refine QA ?_
 refine zq ?_ ?_ <;> intro h55
 rotate_left
 ·
  have hge : (l.ps).length ≤ k := by simpa using h55
  refine Xk ?_; refine Qj ?_
  change (resY _ _).bind AV.fzt = some _
  refine Xs rfl ?_
  rw [Xz]
  refine QdN (QB ?_) rfl ?_ rfl
  ·simp_all [Qt.N]
  first | (simp_all [Qt.ps]; done) | (refine QaV ?_; simp_all [Qt.ps, List.take_of_length_le])
 have hlt : k < (l.ps).length := by simpa using h55
 obtain ⟨x, hx⟩ := Qr hlt
 refine QA ?_; refine zP (Qf rfl rfl rfl k rfl _ (Xv hx) rfl) ?_; refine Qz ?_; refine Qg 5 (by kernel_rfl) (by kernel_rfl) ?_
 refine Qx ?_; refine zp (Qb (ih x (List.mem_of_getElem? hx)) rfl rfl rfl) ?_
 refine zp (QJ rfl rfl rfl rfl (by exact rfl) (by decide) (by decide)) ?_; change Ql _ _ _ _ _ _
 refine QM hN rfl rfl rfl (by simp) rfl rfl (Q2 Kl _) rfl (by simp [X3]; omega) rfl rfl rfl rfl ?_
 refine Xk ?_; refine Qc ?_
 exact ⟨⟨k + 1, hlt, trivial⟩, Qa rfl (Yg ⟨(Xe (by dsimp only; omega)), rfl, trivial⟩) ⟨rfl, rfl, rfl, (cgV (Qbp hx)), rfl, rfl, (cgT (by simp [X3]; omega)), rfl, rfl, trivial⟩, by dsimp only; omega⟩
theorem Qas (l : Qs) (h : Ys l) : FC Tryz.prog 133 [.agg (QP l)] (.agg (QH (Qm l))) := Qj7 l h.small (fun p hp => Qas p (h.part p hp))
termination_by l
decreasing_by exact Qs.sizeOf_ps ‹_›
def J2 (l : Qs) : Qt × Int := if QK l = 0 then (Qm l, 0) else (.zero, 1)
theorem QeI (l : Qs) : FC Tryz.prog 107 [.agg (QP l)] (.tup [.agg (QH (J2 l).1), i64 (J2 l).2]) := by
 refine X9 [.c 2 30 4 true, .t 3] ⟨⟨inferInstance, rfl⟩, trivial⟩ Tryz.func107 rfl rfl 10 Tryz.ntmps107 (Nat.le_of_ble_eq_true rfl) ?_
 intro E hN
 refine XM ?_; refine zP (Qb (K9 l) rfl rfl rfl) ?_; refine QC ?_
 refine zq ?_ ?_ <;> intro h6
 ·
  have h1 : ¬ QK l = 0 := by simpa using h6
  refine Xk ?_; refine Qj ?_
  change (resY _ _).bind AV.fzt = some _
  refine Xs rfl ?_
  rw [J2, if_neg h1]; rfl
 have h1 : QK l = 0 := by simpa using h6
 refine Qz ?_; refine zP (Qb (Qas l (Xg h1)) rfl rfl rfl) ?_; refine Qx ?_; refine Qj ?_
 change (resY _ _).bind AV.fzt = some _
 refine Xs rfl ?_
 rw [J2, if_pos h1]
end Go.Proofs.YtnkkokmmeplbgaaGreat
namespace Go.Proofs.YtnkkokmmeplbgaaGreat
set_option maxRecDepth 100000
set_option maxHeartbeats 1000000
open Go.RowKit
mutual
def Qv : Qt → Qs → Bool
 | .mk N nm ps es, l =>
  if l.k == 1 then Xm (.mk N nm ps es) true false false false && (N == 0 || N == 1)
  else if l.k == 2 || l.k == 3 then Xm (.mk N nm ps es) true false false false && decide (l.lo ≤ N) && decide (N ≤ l.hi)
  else if l.k == 4 then Xm (.mk N nm ps es) false true false false && Xu l.nm nm
  else if l.k == 10 then Xm (.mk N nm ps es) false true false false && Xu l.nm nm && Y1 l.rs nm
  else if l.k == 8 then (if N == 0 || N == 2 then Xm (.mk N nm ps es) true false false false else if N == 1 then Xm (.mk N nm ps es) true true false false && (nm.length : Int) == 1 && Xu l.nm nm else false)
  else if l.k == 9 then Xm (.mk N nm ps es) false false false true && Qhv es
  else if l.k == 5 then Xm (.mk N nm ps es) false true true false && ((nm.length : Int) == ps.length) && Xu l.nm nm && (match l.ps with | a :: _ => Qep ps a | [] => false)
  else Xm (.mk N nm ps es) false false true false && ((ps.length : Int) == l.ps.length) && J3 ps l.ps
def Qep : List Qt → Qs → Bool
 | [], _ => true
 | p :: r, a => (Qv p a && !eqV p (Qm a)) && Qep r a
def J3 : List Qt → List Qs → Bool
 | [], _ => true
 | p :: r, q :: s => Qv p q && J3 r s
 | _ :: _, [] => false
end
def QaF (a : Qs) (p : Qt) : Bool := Qv p a && !eqV p (Qm a)
theorem We (a : Qs) : ∀ l : List Qt, Qep l a = l.all (QaF a)
 | [] => by simp [Qep]
 | p :: r => by rw [Qep, List.all_cons, We a r]; rfl
theorem Qw (v : Qt) (l : Qs) : Qv v l =
  if l.k == 1 then Xm v true false false false && (v.N == 0 || v.N == 1)
  else if l.k == 2 || l.k == 3 then Xm v true false false false && decide (l.lo ≤ v.N) && decide (v.N ≤ l.hi)
  else if l.k == 4 then Xm v false true false false && Xu l.nm v.nm
  else if l.k == 10 then Xm v false true false false && Xu l.nm v.nm && Y1 l.rs v.nm
  else if l.k == 8 then (if v.N == 0 || v.N == 2 then Xm v true false false false else if v.N == 1 then Xm v true true false false && (v.nm.length : Int) == 1 && Xu l.nm v.nm else false)
  else if l.k == 9 then Xm v false false false true && Qhv v.es
  else if l.k == 5 then Xm v false true true false && ((v.nm.length : Int) == v.ps.length) && Xu l.nm v.nm && (match l.ps with | a :: _ => Qep v.ps a | [] => false)
  else Xm v false false true false && ((v.ps.length : Int) == l.ps.length) && J3 v.ps l.ps := by
 cases v with
 | mk N nm ps es => rw [Qv]; rfl
section
variable {vs : List Qt} {ls : List Qs} {k : Nat} {x : Qt} {q : Qs} {b : Bool}
theorem QoE (hg : J3 (vs.drop k) (ls.drop k) = b) (hx : vs[k]? = some x) (hq : ls[k]? = some q) : b = (Qv x q && J3 (vs.drop (k + 1)) (ls.drop (k + 1))) := by
 rw [← hg, Q4 hx, Q4 hq, J3]
theorem QnP (hg : J3 (vs.drop k) (ls.drop k) = b) (h : vs.length ≤ k) : b = true := by
 rw [← hg, List.drop_of_length_le h, J3]
end
theorem Qiy {l : Qs} (h : QU l = 0) (hk : l.k = 5) : ∃ a r, l.ps = a :: r := by
 unfold QU at h
 rw [if_pos (by rw [hk]; decide)] at h
 have hb : JV l = false := by
  cases hb : JV l
  ·rfl
  rw [hb] at h; simp [X4] at h
 cases hp : l.ps with
 | cons a r => exact ⟨a, r, rfl⟩
 | nil => simp [JV, XO, hk, hp] at hb
theorem Qn4 (v : Qt) (l : Qs) (hO : Ys l) (ih : ∀ x ∈ v.ps, ∀ a, Ys a → FC Tryz.prog 109 [.agg (QP a), .agg (QH x)] (bl (Qv x a))) : FC Tryz.prog 109 [.agg (QP l), .agg (QH v)] (bl (Qv v l)) := by
 refine Qe [4] Tryz.func109 rfl rfl 183 Tryz.ntmps109 (Nat.le_of_ble_eq_true rfl) ?_
 intro E hN
 refine QfA ?_
 refine zq ?_ ?_ <;> intro h7
 ·
  refine Qx ?_; refine zP (Qb (Yx _ _ _ _ _) rfl rfl rfl) ?_; refine zM ?_
  refine zc 15 ?_ ?_ <;> intro h9
  rotate_left
  ·
   refine XM ?_; refine zQ ?_
   exact Qq (by rw [Qw]; simp_all <;> (intros; omega))
  refine Qz ?_
  refine zc 19 ?_ ?_ <;> intro h12
  ·
   refine Qx ?_; refine uP (Xo h9) (Xf rfl rfl h12 rfl) ?_; refine QC ?_; refine zQ ?_
   exact Qq (by rw [Qw]; simp_all <;> (intros; omega))
  refine Qx ?_; refine uP (Xo h9) (Xl rfl rfl h12 rfl) ?_; refine QC ?_; refine zQ ?_
  exact Qq (by rw [Qw]; simp_all <;> (intros; omega))
 refine Xk ?_
 refine zq ?_ ?_ <;> intro h16
 ·
  refine QA ?_; refine zP (Qb (Yx _ _ _ _ _) rfl rfl rfl) ?_; refine zM ?_
  refine zc 30 ?_ ?_ <;> intro h18
  rotate_left
  ·
   refine KJ ?_; refine zQ ?_
   exact Qq (by rw [Qw]; simp_all <;> (intros; omega))
  refine Xj ?_
  refine zc 37 ?_ ?_ <;> intro h23
  ·
   refine Xj ?_; refine zQ ?_
   exact Qq (by rw [Qw]; simp_all <;> (intros; omega))
  refine Xj ?_; refine zQ ?_
  exact Qq (by rw [Qw]; simp_all <;> (intros; omega))
 refine Qz ?_
 refine zq ?_ ?_ <;> intro h29
 ·
  refine Qx ?_; refine zP (Qb (Yx _ _ _ _ _) rfl rfl rfl) ?_; refine zM ?_
  refine zc 30 ?_ ?_ <;> intro h31
  rotate_left
  ·
   refine KJ ?_; refine zQ ?_
   exact Qq (by rw [Qw]; simp_all <;> (intros; omega))
  refine Xj ?_
  refine zc 37 ?_ ?_ <;> intro h36
  ·
   refine Xj ?_; refine zQ ?_
   exact Qq (by rw [Qw]; simp_all <;> (intros; omega))
  refine Xj ?_; refine zQ ?_
  exact Qq (by rw [Qw]; simp_all <;> (intros; omega))
 refine QA ?_
 refine zq ?_ ?_ <;> intro h42
 ·
  refine Qx ?_; refine zP (Qb (Yx _ _ _ _ _) rfl rfl rfl) ?_; refine zM ?_
  refine zc 48 ?_ ?_ <;> intro h44
  ·
   refine Qz ?_; refine uP (Xo h44) (Qb (Wy _ _) rfl rfl rfl) ?_; refine QC ?_; refine zQ ?_
   exact Qq (by rw [Qw]; simp_all <;> (intros; omega))
  refine Xj ?_; refine zQ ?_
  exact Qq (by rw [Qw]; simp_all <;> (intros; omega))
 refine QA ?_
 refine zq ?_ ?_ <;> intro h50
 ·
  refine Qx ?_; refine zP (Qb (Yx _ _ _ _ _) rfl rfl rfl) ?_; refine zM ?_
  refine zc 59 ?_ ?_ <;> intro h52
  rotate_left
  ·
   refine KJ ?_; refine zQ ?_
   exact Qq (by rw [Qw]; simp_all <;> (intros; omega))
  refine Qz ?_; refine uP (Xo h52) (Qb (Wy _ _) rfl rfl rfl) ?_; refine QC ?_
  refine zc 66 ?_ ?_ <;> intro h57
  ·
   refine Qz ?_; refine uP (Xo h57) (Qb (Qjk _ _) rfl rfl rfl) ?_; refine QC ?_; refine zQ ?_
   exact Qq (by rw [Qw]; simp_all <;> (intros; omega))
  refine Xj ?_; refine zQ ?_
  exact Qq (by rw [Qw]; simp_all <;> (intros; omega))
 refine QA ?_
 refine zq ?_ ?_ <;> intro h63
 ·
  refine Wz ?_
  refine zq ?_ ?_ <;> intro h66
  ·
   refine QA ?_; refine zP (Qb (Yx _ _ _ _ _) rfl rfl rfl) ?_; refine zS ?_; refine zQ ?_
   exact Qq (by rw [Qw]; simp_all <;> (intros; omega))
  refine Qz ?_
  refine zq ?_ ?_ <;> intro h69
  ·
   refine Qx ?_; refine zP (Qb (Yx _ _ _ _ _) rfl rfl rfl) ?_; refine zS ?_; refine zQ ?_
   exact Qq (by rw [Qw]; simp_all <;> (intros; omega))
  refine QA ?_
  refine zq ?_ ?_ <;> intro h72
  rotate_left
  ·
   refine Qz ?_; refine zQ ?_
   exact Qq (by rw [Qw]; simp_all <;> (intros; omega))
  refine Qx ?_; refine zP (Qb (Yx _ _ _ _ _) rfl rfl rfl) ?_; refine zM ?_
  refine zc 86 ?_ ?_ <;> intro h74
  rotate_left
  ·
   refine Wz ?_; refine zQ ?_
   exact Qq (by rw [Qw]; simp_all <;> (intros; omega))
  refine Xk ?_
  refine zc 92 ?_ ?_ <;> intro h78
  ·
   refine Qz ?_; refine uP (Xo h78) (Qb (Wy _ _) rfl rfl rfl) ?_; refine QC ?_; refine zQ ?_
   exact Qq (by rw [Qw]; simp_all <;> (intros; omega))
  refine Xj ?_; refine zQ ?_
  exact Qq (by rw [Qw]; simp_all <;> (intros; omega))
 refine QA ?_
 refine zq ?_ ?_ <;> intro h84
 ·
  refine Qx ?_; refine zP (Qb (Yx _ _ _ _ _) rfl rfl rfl) ?_; refine zM ?_
  refine zc 103 ?_ ?_ <;> intro h86
  ·
   refine QC ?_; refine uP (Xo h86) (Qb (Qn0 _) rfl rfl rfl) ?_; refine QC ?_; refine zQ ?_
   exact Qq (by rw [Qw]; simp_all <;> (intros; omega))
  refine QA ?_; refine zQ ?_
  exact Qq (by rw [Qw]; simp_all <;> (intros; omega))
 refine QA ?_
 refine zq ?_ ?_ <;> intro h90
 rotate_left
 ·
  refine QA ?_; refine zP (Qb (Yx _ _ _ _ _) rfl rfl rfl) ?_; refine QC ?_
  refine zc 157 ?_ ?_ <;> intro h133
  ·
   refine Wz ?_; refine zQ ?_
   exact Qq (by rw [Qw]; simp_all <;> (intros; omega))
  refine Jy ?_
  refine zq ?_ ?_ <;> intro h140
  ·
   refine Qx ?_; refine zQ ?_
   exact Qq (by rw [Qw]; simp_all <;> (intros; omega))
  refine XM ?_
  have hle : v.ps.length = l.ps.length := by simp_all <;> omega
  have hE : Qv v l = J3 v.ps l.ps := by rw [Qw]; simp_all
  refine Qo (fun x : {k : Nat // k ≤ (v.ps).length ∧ J3 (v.ps.drop k) (l.ps.drop k) = J3 v.ps l.ps} => ⟨[(2, .ptr 0 0), (3, .ptr 1 0), (167, J8 v.ps), (168, i64 v.ps.length), (169, i64 (x.1 : Nat))], [(0, .var 26 (QP l)), (1, .var 30 (QH v))], 2⟩) (fun x => (v.ps).length - x.1) (⟨0, Nat.zero_le _, by simp⟩) ?_ ?_
  ·
   exact Qa rfl (Ya ⟨(Xe (by simp)), rfl, (Xr trivial)⟩) ⟨rfl, rfl, rfl, rfl, rfl, rfl, trivial⟩
  rintro ⟨k, hk, hg⟩
  dsimp only
  refine X7 167 rfl (fun hl8 => ?_)
  refine QA ?_
  refine zq ?_ ?_ <;> intro h149
  rotate_left
  ·
   have hge : (v.ps).length ≤ k := by simpa using h149
   refine Qz ?_; refine zQ ?_
   exact Qq (by rw [hE, QnP hg hge])
  have hlt : k < (v.ps).length := by simpa using h149
  obtain ⟨x, hx⟩ := Qr hlt
  obtain ⟨q, hq⟩ := Qr (show k < l.ps.length by omega)
  have hOq : Ys q := hO.part q (List.mem_of_getElem? hq)
  have hs := QoE hg hx hq
  refine Xk ?_; refine zP (Qf rfl rfl rfl k rfl _ (Q9 hx) rfl) ?_; refine Xk ?_; refine Qg 7 (by kernel_rfl) (by kernel_rfl) ?_
  refine Qx ?_; refine zp (Qf rfl rfl rfl k rfl _ (Xv hq) rfl) ?_; refine QC ?_
  refine zp (Qb (ih x (List.mem_of_getElem? hx) q hOq) rfl rfl rfl) ?_; change Ql _ _ _ _ _ _; refine QC ?_
  refine zq ?_ ?_ <;> intro h159
  ·
   refine Qx ?_; refine zQ ?_
   exact Qq (by rw [hE, hs]; simp_all)
  refine Qz ?_; refine Qc ?_
  exact ⟨⟨k + 1, hlt, by simp_all⟩, Qa rfl (Yg ⟨(Xe (by dsimp only; omega)), rfl, trivial⟩) ⟨rfl, rfl, rfl, rfl, rfl, rfl, trivial⟩, by dsimp only; omega⟩
 refine Qz ?_; refine zP (Qb (Yx _ _ _ _ _) rfl rfl rfl) ?_; refine QC ?_
 refine zc 113 ?_ ?_ <;> intro h92
 ·
  refine QmI ?_; refine zQ ?_
  exact Qq (by rw [Qw]; simp_all <;> (intros; omega))
 refine Jy ?_
 refine zc 122 ?_ ?_ <;> intro h99
 ·
  refine Jn ?_; refine zQ ?_
  exact Qq (by rw [Qw]; simp_all <;> (intros; omega))
 refine Qz ?_; refine uP (XF h99) (Qb (Wy _ _) rfl rfl rfl) ?_; refine Qx ?_
 refine zq ?_ ?_ <;> intro h104
 ·
  refine Qx ?_; refine zQ ?_
  exact Qq (by rw [Qw]; simp_all <;> (intros; omega))
 refine XM ?_
 obtain ⟨a, r, hps⟩ := Qiy hO.shape (by simp_all)
 have hOa : Ys a := hO.part a (by rw [hps]; exact List.mem_cons_self)
 have ha : l.ps[0]? = some a := by rw [hps]; rfl
 have hE : Qv v l = v.ps.all (QaF a) := by rw [Qw]; simp_all [We]
 refine Qo (fun x : {k : Nat // k ≤ (v.ps).length ∧ (v.ps.drop k).all (QaF a) = v.ps.all (QaF a)} => ⟨[(2, .ptr 0 0), (3, .ptr 1 0), (131, J8 v.ps), (132, i64 v.ps.length), (133, i64 (x.1 : Nat))], [(0, .var 26 (QP l)), (1, .var 30 (QH v))], 2⟩) (fun x => (v.ps).length - x.1) (⟨0, Nat.zero_le _, by simp⟩) ?_ ?_
 ·
  exact Qa rfl (Ya ⟨(Xe (by simp)), rfl, (Xr trivial)⟩) ⟨rfl, rfl, rfl, rfl, rfl, rfl, trivial⟩
 rintro ⟨k, hk, hg⟩
 dsimp only
 refine X7 131 rfl (fun hl8 => ?_)
 refine QA ?_
 refine zq ?_ ?_ <;> intro h113
 rotate_left
 ·
  have hge : (v.ps).length ≤ k := by simpa using h113
  refine Qz ?_; refine zQ ?_
  exact Qq (by rw [hE, XZ hg hge])
 have hlt : k < (v.ps).length := by simpa using h113
 obtain ⟨x, hx⟩ := Qr hlt
 refine QA ?_; refine zP (Qf rfl rfl rfl k rfl _ (Q9 hx) rfl) ?_; refine QA ?_; refine Qg 15 (by kernel_rfl) (by kernel_rfl) ?_
 refine QC ?_; refine zp (Qf rfl rfl rfl 0 rfl _ (Xv ha) rfl) ?_; refine QC ?_
 refine zp (Qb (ih x (List.mem_of_getElem? hx) a hOa) rfl rfl rfl) ?_; refine QC ?_
 refine zd 144 ?_ ?_ <;> intro h123
 ·
  refine Xj ?_; change Ql _ _ _ _ _ _; refine Xk ?_; refine zQ ?_
  exact Qq (by rw [hE, Q1 hg hx (by simp_all [QaF])])
 refine Qx ?_; refine vP (XF (m1 (n0 h123))) (Qf rfl rfl rfl 0 rfl _ (Xv ha) rfl) ?_; refine Yb ?_
 refine vP (XF (m1 (n0 h123))) (Qb (Qas a hOa) rfl rfl rfl) ?_; refine vP (XF (m1 (n0 h123))) (Qb (QbN _ _) rfl rfl rfl) ?_
 change Ql _ _ _ _ _ _; refine QC ?_
 refine zq ?_ ?_ <;> intro h130
 ·
  refine Qx ?_; refine zQ ?_
  exact Qq (by rw [hE, Q1 hg hx (by simp_all [QaF])])
 refine Qz ?_; refine Qc ?_
 exact ⟨⟨k + 1, hlt, Xx hg hx (by simp_all [QaF])⟩, Qa rfl (Yg ⟨(Xe (by dsimp only; omega)), rfl, trivial⟩) ⟨rfl, rfl, rfl, rfl, rfl, rfl, trivial⟩, by dsimp only; omega⟩
theorem Qiw (v : Qt) (l : Qs) (hO : Ys l) : FC Tryz.prog 109 [.agg (QP l), .agg (QH v)] (bl (Qv v l)) := Qn4 v l hO (fun x _ a ha => Qiw x a ha)
termination_by v
decreasing_by exact Qt.sizeOf_ps ‹_›
def Ka (l : Qs) (v : Qt) : Bool := (QK l == 0) && Qv v l
theorem Qb2 (l : Qs) (v : Qt) : FC Tryz.prog 62 [.agg (QP l), .agg (QH v)] (bl (Ka l v)) := by
 refine Qe [4] Tryz.func62 rfl rfl 13 Tryz.ntmps62 (Nat.le_of_ble_eq_true rfl) ?_
 intro E hN
 refine Jy ?_; refine zP (Qb (K9 l) rfl rfl rfl) ?_; refine QC ?_
 refine zc 8 ?_ ?_ <;> intro h7
 ·
  have h1 : QK l = 0 := by simpa using h7
  refine QC ?_; refine uP (Xo h7) (Qb (Qiw v l (Xg h1)) rfl rfl rfl) ?_; refine QC ?_; refine zQ ?_
  exact Qq (by simp_all [Ka])
 refine QA ?_; refine zQ ?_
 exact Qq (by simp_all [Ka])
end Go.Proofs.YtnkkokmmeplbgaaGreat
