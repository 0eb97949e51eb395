/-
  Contracts: elements of a lattice.
-/
import Derived.Test.YtaecccdkjmipeaaGreatB5
namespace Go.Proofs.YtaecccdkjmipeaaGreat
set_option maxRecDepth 100000
set_option maxHeartbeats 1000000
open Go.RowKit
def Qew (e f : En) : Bool := !(Qet e.1 f.1 == 1 || Qet e.1 f.1 == 2)
def Qep (l : List En) (e : En) (i : Nat) : Bool := !((e.1.length : Int) == 0) && Xw (-1) e.1 && XV e.2 && !(decide ((i : Int) > 0) && (match l[i - 1]? with | some y => decide (Ku y e ≥ 0) | none => false)) && (l.take i).all (Qew e)
def Qfl (l : List En) (p : En × Nat) : Bool := Qep l p.1 p.2
def QmT (l : List En) : Bool := l.zipIdx.all (Qfl l)
theorem Km {l : List En} {k : Nat} {x : En} (h : l[k]? = some x) : l.zipIdx[k]? = some (x, k) := by simp [h]
theorem QlF (l : List En) : l.zipIdx.length = l.length := by simp
mutual
def QL : Qs → Qn
 | .mk k lo hi _ ps _ => .mk (if k == 2 then lo else if k == 3 then hi else 0) [] (if k == 6 || k == 7 then QcR ps else []) []
def QcR : List Qs → List Qn
 | [] => []
 | p :: r => QL p :: QcR r
end
theorem Qe4 : ∀ l : List Qs, QcR l = l.map QL
 | [] => by simp [QcR]
 | p :: r => by simp only [QcR, List.map_cons]; rw [Qe4 r]
theorem Ki (l : Qs) : QL l = .mk (if l.k == 2 then l.lo else if l.k == 3 then l.hi else 0) [] (if l.k == 6 || l.k == 7 then l.ps.map QL else []) [] := by
 cases l with
 | mk k lo hi nm ps rs => rw [QL, Qe4]; rfl
theorem Qco (v : Qn) : okE 4 (Xx v) = true := by rw [X3]; rfl
theorem Kf (a b c d : AV) : Qg 4 1 [a, b, c, d] = [[a, b, c, d]] := rfl
theorem cgV {tt : TypeId} {a b d : AV} {es es' : List (List AV)} {tk : Option Nat} (h : es = es') : some (QH.var tt [a, b, .sl es tk, d]) = some (QH.var tt [a, b, .sl es' tk, d]) := by rw [h]
theorem Qmh {l : List Qs} {k : Nat} {x : Qs} (h : l[k]? = some x) : (((l.take k).map QL).map Xx) ++ Qg 4 1 (Xm (QL x)) = (((l.take (k + 1)).map QL).map Xx) := by
 rw [Kf, List.take_add_one, h]
 simp [X3]
theorem QsJ {a b c d a' b' c' d' : AV} (h1 : a = a') (h2 : b = b') (h3 : c = c') (h4 : d = d') : AV.agg [a, b, c, d] = AV.agg [a', b', c', d'] := by rw [h1, h2, h3, h4]
inductive Kv : Qs → Prop
 | mk (l : Qs) (h1 : Xq l = 0) (h2 : orE [J7 l, Jw l, X9 l, JH l] = 0) (h3 : l.ps.length ≤ 64) (h4 : ∀ p ∈ l.ps, Kv p) : Kv l
theorem QiT : ∀ (f : Nat) (l : Qs) (n : Int), 0 ≤ n → (Q7 f l n).1 = 0 → Kv l ∧ n + 1 ≤ (Q7 f l n).2 ∧ (Q7 f l n).2 ≤ 64
 | 0, l, n, _, h => by simp [Q7] at h
 | f + 1, l, n, hn, h => by
  by_cases h64 : n ≥ 64
  ·rw [QlL h64] at h; simp at h
  have h64 : n < 64 := by omega
  cases hs : Xq l != 0 with
  | true => rw [QeZ h64 hs] at h; simp at h; simp [h] at hs
  | false =>
   cases ho : orE [J7 l, Jw l, X9 l, JH l] != 0 with
   | true => rw [Qqr h64 hs ho] at h; simp at h; simp [h] at ho
   | false =>
    rw [Qcf h64 hs ho] at h ⊢
    have key : ∀ (q : Qs) (m : Int), 0 ≤ m → (Q7 f q m).1 = 0 → Kv q ∧ m + 1 ≤ (Q7 f q m).2 ∧ (Q7 f q m).2 ≤ 64 := fun q m hm hq => QiT f q m hm hq
    have all : ∀ (ps : List Qs) (m : Int), 0 ≤ m → m ≤ 64 → (J4 (Q7 f) ps m).1 = 0 → (∀ p ∈ ps, Kv p) ∧ m + ps.length ≤ (J4 (Q7 f) ps m).2 ∧ (J4 (Q7 f) ps m).2 ≤ 64 := by
     intro ps
     induction ps with
     | nil => intro m _ h1 _; simpa [J4] using h1
     | cons q r ih =>
      intro m h0 h1 h2
      unfold J4 at h2 ⊢
      split at h2
      ·rename_i hz
       rw [if_pos hz]
       obtain ⟨k1, k2, k3⟩ := key q m h0 (by simpa using hz)
       obtain ⟨k4, k5, k6⟩ := ih _ (by omega) k3 h2
       refine ⟨fun p hp => ?_, by simp only [List.length_cons]; omega, k6⟩
       rcases List.mem_cons.1 hp with rfl | hp
       ·exact k1
       exact k4 p hp
      rename_i hz
      exact absurd (by simpa using h2) hz
    obtain ⟨k1, k2, k3⟩ := all l.ps (n + 1) (by omega) (by omega) h
    exact ⟨.mk l (by simpa using hs) (by simpa using ho) (by omega) k1, by omega, k3⟩
theorem QP {l : Qs} (h : Q0 l = 0) : Kv l := (QiT 6 l 0 (by decide) h).1
theorem Kv.shape {l : Qs} (h : Kv l) : Xq l = 0 := by cases h; assumption
theorem Kv.small {l : Qs} (h : Kv l) : l.ps.length ≤ 64 := by cases h; assumption
theorem Kv.part {l : Qs} (h : Kv l) : ∀ p ∈ l.ps, Kv p := by cases h; assumption
theorem Qvw (l : List En) : FC Tryz.prog 206 [ens l] (bl (QmT l)) := by
 refine Qd [2] Tryz.func206 rfl rfl 66 Tryz.ntmps206 (Nat.le_of_ble_eq_true rfl) ?_
 intro E hN
 refine JK 0 rfl (fun hl0 => ?_)
 refine JA ?_
 refine Qi (fun x : {k : Nat // k ≤ (l).length ∧ (l.zipIdx.drop k).all (Qfl l) = l.zipIdx.all (Qfl l)} => ⟨[(0, ens l), (8, ens l), (9, i64 l.length), (10, i64 (x.1 : Nat))], [], 0⟩) (fun x => (l).length - x.1) (⟨0, Nat.zero_le _, by simp⟩) ?_ ?_
 ·
  exact Qa rfl (Jg ⟨(QE (by simp)), rfl, (Xu trivial)⟩) trivial
 rintro ⟨k, hk, hg⟩
 dsimp only
 refine QA ?_
 refine zq ?_ ?_ <;> intro h7
 rotate_left
 ·
  have hge : (l).length ≤ k := by simpa using h7
  refine QJ ?_; refine zQ ?_
  exact Qt (X4 hg (by rw [QlF]; exact hge)).symm
 have hlt : k < (l).length := by simpa using h7
 obtain ⟨x, hx⟩ := Qk hlt
 refine Je ?_; refine zP (Qh rfl rfl rfl k rfl _ (Qq hx) rfl) ?_; refine Xz ?_; refine Qy 29 (by kernel_rfl) (by kernel_rfl) ?_
 refine QA ?_
 refine zd 19 ?_ ?_ <;> intro h15
 ·
  refine Yd ?_; change Qz _ _ _ _ _ _; refine Je ?_; refine zQ ?_
  exact Qt (Q6 hg (Km hx) (by simp_all [Qfl, Qep])).symm
 refine QO ?_; refine vP (JI h15) (Qc (QbO _) rfl rfl rfl) ?_; refine QC ?_
 refine zd 25 ?_ ?_ <;> intro h18
 ·
  refine QlK ?_; change Qz _ _ _ _ _ _; refine Je ?_; refine zQ ?_
  exact Qt (Q6 hg (Km hx) (by simp_all [Qfl, Qep])).symm
 refine QO ?_; refine vP (JI (m1 (n0 h18))) (Qc (QeI _) rfl rfl rfl) ?_; refine QC ?_
 refine zd 31 ?_ ?_ <;> intro h21
 ·
  refine JA ?_; change Qz _ _ _ _ _ _; refine Je ?_; refine zQ ?_
  exact Qt (Q6 hg (Km hx) (by simp_all [Qfl, Qep])).symm
 refine QC ?_
 refine zd 34 ?_ ?_ <;> intro h22
 rotate_left
 ·
  refine XJ ?_; refine vP (JI (m1 (n0 h21))) (Ji rfl rfl h22 rfl) ?_; change Qz _ _ _ _ _ _; refine XJ ?_
  refine zP (QtK rfl rfl rfl k rfl (by omega) (by exact fun _ => rfl)) ?_; refine QJ ?_
  refine Qi (fun x1 : {j : Nat // j ≤ (l.take k).length ∧ ((l.take k).drop j).all (Qew x) = (l.take k).all (Qew x)} => ⟨[(0, ens l), (4, .ptr 0 0), (8, ens l), (9, i64 l.length), (10, i64 (k : Nat)), (47, ens (l.take k)), (48, i64 (l.take k).length), (49, i64 (x1.1 : Nat))], [(0, .var 88 (enC x))], 1⟩) (fun x1 => (l.take k).length - x1.1) (⟨0, Nat.zero_le _, by simp⟩) ?_ ?_
  ·
   exact Qa rfl (QR (Jg ⟨(QE (by simp)), rfl, (Xu trivial)⟩)) ⟨rfl, rfl, rfl, trivial⟩
  rintro ⟨j, hj, hgj⟩
  dsimp only
  have htk : (l.take k).length ≤ l.length := by simp; omega
  refine QA ?_
  refine zq ?_ ?_ <;> intro h63
  rotate_left
  ·
   have hgej : (l.take k).length ≤ j := by simpa using h63
   have hA := X4 hgj hgej
   refine QJ ?_; refine Qb ?_
   exact ⟨⟨k + 1, hlt, XF hg (Km hx) (by simp_all [Qfl, Qep])⟩, Qa rfl (Xl ⟨(QE (by dsimp only; omega)), rfl, trivial⟩) trivial, by dsimp only; omega⟩
  have hltj : j < (l.take k).length := by simpa using h63
  obtain ⟨y2, hy2⟩ := Qk hltj
  refine QA ?_; refine zP (Qh rfl rfl rfl j rfl _ (Qq hy2) rfl) ?_; refine XN ?_; refine zP (Qc (QgE _ _) rfl rfl rfl) ?_
  refine Xz ?_
  refine zc 60 ?_ ?_ <;> intro h73
  ·
   refine XJ ?_; refine zQ ?_
   exact Qt (Q6 hg (Km hx) (by rw [Qfl, Qep, Q6 hgj hy2 (by simp_all [Qew])]; simp)).symm
  refine QJ ?_
  refine zq ?_ ?_ <;> intro h74
  ·
   refine QC ?_; refine zQ ?_
   exact Qt (Q6 hg (Km hx) (by rw [Qfl, Qep, Q6 hgj hy2 (by simp_all [Qew])]; simp)).symm
  refine QJ ?_; refine Qb ?_
  exact ⟨⟨j + 1, hltj, XF hgj hy2 (by simp_all [Qew])⟩, Qa rfl (QR (Xl ⟨(QE (by dsimp only; omega)), rfl, trivial⟩)) ⟨rfl, rfl, rfl, trivial⟩, by dsimp only; omega⟩
 have hk0 : 0 < k := by simpa using h22
 obtain ⟨y, hy⟩ := Qk (show k - 1 < l.length by omega)
 refine QO ?_; refine vP (X7 h22) (WJ rfl rfl rfl (by omega)) ?_
 refine vP (X7 h22) (Qh rfl rfl rfl (k - 1) (by omega) _ (Qq hy) rfl) ?_; refine QO ?_
 refine vP (X7 h22) (Qc (QkF _ _) rfl rfl rfl) ?_; refine KO ?_; refine vP (JI (m1 (n0 h21))) (XI rfl rfl h22 rfl) ?_
 change Qz _ _ _ _ _ _; refine QO ?_
 refine zq ?_ ?_ <;> intro h28
 ·
  refine QC ?_; refine zQ ?_
  exact Qt (Q6 hg (Km hx) (by simp_all [Qfl, Qep])).symm
 refine QA ?_; refine zP (QtK rfl rfl rfl k rfl (by omega) (by exact fun _ => rfl)) ?_; refine QJ ?_
 refine Qi (fun x1 : {j : Nat // j ≤ (l.take k).length ∧ ((l.take k).drop j).all (Qew x) = (l.take k).all (Qew x)} => ⟨[(0, ens l), (4, .ptr 0 0), (8, ens l), (9, i64 l.length), (10, i64 (k : Nat)), (47, ens (l.take k)), (48, i64 (l.take k).length), (49, i64 (x1.1 : Nat))], [(0, .var 88 (enC x))], 1⟩) (fun x1 => (l.take k).length - x1.1) (⟨0, Nat.zero_le _, by simp⟩) ?_ ?_
 ·
  exact Qa rfl (QR (Jg ⟨(QE (by simp)), rfl, (Xu trivial)⟩)) ⟨rfl, rfl, rfl, trivial⟩
 rintro ⟨j, hj, hgj⟩
 dsimp only
 have htk : (l.take k).length ≤ l.length := by simp; omega
 refine QA ?_
 refine zq ?_ ?_ <;> intro h39
 rotate_left
 ·
  have hgej : (l.take k).length ≤ j := by simpa using h39
  have hA := X4 hgj hgej
  refine QJ ?_; refine Qb ?_
  exact ⟨⟨k + 1, hlt, XF hg (Km hx) (by simp_all [Qfl, Qep])⟩, Qa rfl (Xl ⟨(QE (by dsimp only; omega)), rfl, trivial⟩) trivial, by dsimp only; omega⟩
 have hltj : j < (l.take k).length := by simpa using h39
 obtain ⟨y2, hy2⟩ := Qk hltj
 refine QA ?_; refine zP (Qh rfl rfl rfl j rfl _ (Qq hy2) rfl) ?_; refine XN ?_; refine zP (Qc (QgE _ _) rfl rfl rfl) ?_
 refine Xz ?_
 refine zc 60 ?_ ?_ <;> intro h49
 ·
  refine XJ ?_; refine zQ ?_
  exact Qt (Q6 hg (Km hx) (by rw [Qfl, Qep, Q6 hgj hy2 (by simp_all [Qew])]; simp)).symm
 refine QJ ?_
 refine zq ?_ ?_ <;> intro h50
 ·
  refine QC ?_; refine zQ ?_
  exact Qt (Q6 hg (Km hx) (by rw [Qfl, Qep, Q6 hgj hy2 (by simp_all [Qew])]; simp)).symm
 refine QJ ?_; refine Qb ?_
 exact ⟨⟨j + 1, hltj, XF hgj hy2 (by simp_all [Qew])⟩, Qa rfl (QR (Xl ⟨(QE (by dsimp only; omega)), rfl, trivial⟩)) ⟨rfl, rfl, rfl, trivial⟩, by dsimp only; omega⟩
theorem Qsl (l : Qs) (hp : l.ps.length ≤ 64) (ih : ∀ p ∈ l.ps, FC Tryz.prog 112 [.agg (QF p)] (.agg (Xm (QL p)))) : FC Tryz.prog 112 [.agg (QF l)] (.agg (Xm (QL l))) := by
 refine YV [.c 2 30 4 true] ⟨⟨inferInstance, rfl⟩, trivial⟩ Tryz.func112 rfl rfl 37 Tryz.ntmps112 (Nat.le_of_ble_eq_true rfl) ?_
 intro E hN
 refine QjA ?_
 refine zq ?_ ?_ <;> intro h7
 ·
  refine YJ ?_; refine QG ?_
  change (resY _ _).bind AV.fzt = some _
  refine Yj rfl ?_
  rw [Ki]
  refine QsJ (Q2 ?_) rfl ?_ rfl
  ·simp_all [Qn.N]
  first | (simp_all [Qn.ps]; done) | (refine Qir ?_; simp_all [Qn.ps, List.take_of_length_le])
 refine QA ?_
 refine zq ?_ ?_ <;> intro h14
 ·
  refine YJ ?_; refine QG ?_
  change (resY _ _).bind AV.fzt = some _
  refine Yj rfl ?_
  rw [Ki]
  refine QsJ (Q2 ?_) rfl ?_ rfl
  ·simp_all [Qn.N]
  first | (simp_all [Qn.ps]; done) | (refine Qir ?_; simp_all [Qn.ps, List.take_of_length_le])
 refine Je ?_
 refine zq ?_ ?_ <;> intro h21
 ·
  refine XN ?_; refine Qu (Wn rfl 2 2 30 4 rfl rfl rfl) ?_
  refine Qi (fun x : {k : Nat // k ≤ (l.ps).length ∧ True} => ⟨[(2, .ptr 1 0), (3, .ptr 2 0), (22, Qp5 l.ps), (23, i64 l.ps.length), (24, i64 (x.1 : Nat))], [(1, .var 30 [i64 0, .p (.slice none 0 0), .p (.slice none 0 0), .p (.slice none 0 0)]), (2, .var 30 [i64 0, .p (.slice none 0 0), .sl (((l.ps.take x.1).map QL).map Xx) (some 3), .p (.slice none 0 0)]), (3, .tok 30 4 ((l.ps.take x.1).map QL).length)], 4⟩) (fun x => (l.ps).length - x.1) (⟨0, Nat.zero_le _, by simp⟩) ?_ ?_
  ·
   exact Qa rfl (Xl ⟨(QE (by simp)), rfl, (Xu trivial)⟩) ⟨rfl, rfl, rfl, rfl, rfl, rfl, rfl, rfl, rfl, trivial⟩
  rintro ⟨k, hk, hg⟩
  dsimp only
  refine JK 22 rfl (fun hl8 => ?_)
  refine QA ?_
  refine zq ?_ ?_ <;> intro h30
  rotate_left
  ·
   have hge : (l.ps).length ≤ k := by simpa using h30
   refine Je ?_; refine QG ?_
   change (resY _ _).bind AV.fzt = some _
   refine Yj rfl ?_
   rw [Ki]
   refine QsJ (Q2 ?_) rfl ?_ rfl
   ·simp_all [Qn.N]
   first | (simp_all [Qn.ps]; done) | (refine Qir ?_; simp_all [Qn.ps, List.take_of_length_le])
  have hlt : k < (l.ps).length := by simpa using h30
  obtain ⟨x, hx⟩ := Qk hlt
  refine QA ?_; refine zP (Qh rfl rfl rfl k rfl _ (Xt hx) rfl) ?_; refine QJ ?_; refine Qy 5 (by kernel_rfl) (by kernel_rfl) ?_
  refine QC ?_; refine zp (Qc (ih x (List.mem_of_getElem? hx)) rfl rfl rfl) ?_
  refine zp (Qj rfl rfl rfl rfl (by exact rfl) (by decide) (by decide)) ?_; change Qz _ _ _ _ _ _
  refine Xh hN rfl rfl rfl (by simp) rfl rfl (Xa Qco _) rfl (by simp [Kf]; omega) rfl rfl rfl rfl ?_
  refine Je ?_; refine Qb ?_
  exact ⟨⟨k + 1, hlt, trivial⟩, Qa rfl (QR ⟨(QE (by dsimp only; omega)), rfl, trivial⟩) ⟨rfl, rfl, rfl, (cgV (Qmh hx)), rfl, rfl, (cgT (by simp [Kf]; omega)), rfl, rfl, trivial⟩, by dsimp only; omega⟩
 refine QJ ?_
 refine zq ?_ ?_ <;> intro h46
 rotate_left
 ·
  refine Je ?_; refine QG ?_
  change (resY _ _).bind AV.fzt = some _
  refine Yj rfl ?_
  rw [Ki]
  refine QsJ (Q2 ?_) rfl ?_ rfl
  ·simp_all [Qn.N]
  first | (simp_all [Qn.ps]; done) | (refine Qir ?_; simp_all [Qn.ps, List.take_of_length_le])
 refine XJ ?_; refine Qu (Wn rfl 2 2 30 4 rfl rfl rfl) ?_
 refine Qi (fun x : {k : Nat // k ≤ (l.ps).length ∧ True} => ⟨[(2, .ptr 1 0), (3, .ptr 2 0), (22, Qp5 l.ps), (23, i64 l.ps.length), (24, i64 (x.1 : Nat))], [(1, .var 30 [i64 0, .p (.slice none 0 0), .p (.slice none 0 0), .p (.slice none 0 0)]), (2, .var 30 [i64 0, .p (.slice none 0 0), .sl (((l.ps.take x.1).map QL).map Xx) (some 3), .p (.slice none 0 0)]), (3, .tok 30 4 ((l.ps.take x.1).map QL).length)], 4⟩) (fun x => (l.ps).length - x.1) (⟨0, Nat.zero_le _, by simp⟩) ?_ ?_
 ·
  exact Qa rfl (Xl ⟨(QE (by simp)), rfl, (Xu trivial)⟩) ⟨rfl, rfl, rfl, rfl, rfl, rfl, rfl, rfl, rfl, trivial⟩
 rintro ⟨k, hk, hg⟩
 dsimp only
 refine JK 22 rfl (fun hl8 => ?_)
 refine QA ?_
 refine zq ?_ ?_ <;> intro h55
 rotate_left
 ·
  have hge : (l.ps).length ≤ k := by simpa using h55
  refine Je ?_; refine QG ?_
  change (resY _ _).bind AV.fzt = some _
  refine Yj rfl ?_
  rw [Ki]
  refine QsJ (Q2 ?_) rfl ?_ rfl
  ·simp_all [Qn.N]
  first | (simp_all [Qn.ps]; done) | (refine Qir ?_; simp_all [Qn.ps, List.take_of_length_le])
 have hlt : k < (l.ps).length := by simpa using h55
 obtain ⟨x, hx⟩ := Qk hlt
 refine QA ?_; refine zP (Qh rfl rfl rfl k rfl _ (Xt hx) rfl) ?_; refine QJ ?_; refine Qy 5 (by kernel_rfl) (by kernel_rfl) ?_
 refine QC ?_; refine zp (Qc (ih x (List.mem_of_getElem? hx)) rfl rfl rfl) ?_
 refine zp (Qj rfl rfl rfl rfl (by exact rfl) (by decide) (by decide)) ?_; change Qz _ _ _ _ _ _
 refine Xh hN rfl rfl rfl (by simp) rfl rfl (Xa Qco _) rfl (by simp [Kf]; omega) rfl rfl rfl rfl ?_
 refine Je ?_; refine Qb ?_
 exact ⟨⟨k + 1, hlt, trivial⟩, Qa rfl (QR ⟨(QE (by dsimp only; omega)), rfl, trivial⟩) ⟨rfl, rfl, rfl, (cgV (Qmh hx)), rfl, rfl, (cgT (by simp [Kf]; omega)), rfl, rfl, trivial⟩, by dsimp only; omega⟩
theorem Qdn (l : Qs) (h : Kv l) : FC Tryz.prog 112 [.agg (QF l)] (.agg (Xm (QL l))) := Qsl l h.small (fun p hp => Qdn p (h.part p hp))
termination_by l
decreasing_by exact Qs.sizeOf_ps ‹_›
def KZ (l : Qs) : Qn × Int := if Q0 l = 0 then (QL l, 0) else (.zero, 1)
theorem Qpv (l : Qs) : FC Tryz.prog 166 [.agg (QF l)] (.tup [.agg (Xm (KZ l).1), i64 (KZ l).2]) := by
 refine YV [.c 2 30 4 true, .t 3] ⟨⟨inferInstance, rfl⟩, trivial⟩ Tryz.func166 rfl rfl 10 Tryz.ntmps166 (Nat.le_of_ble_eq_true rfl) ?_
 intro E hN
 refine XN ?_; refine zP (Qc (Wx l) rfl rfl rfl) ?_; refine QO ?_
 refine zq ?_ ?_ <;> intro h6
 ·
  have h1 : ¬ Q0 l = 0 := by simpa using h6
  refine Je ?_; refine QG ?_
  change (resY _ _).bind AV.fzt = some _
  refine Yj rfl ?_
  rw [KZ, if_neg h1]; rfl
 have h1 : Q0 l = 0 := by simpa using h6
 refine QJ ?_; refine zP (Qc (Qdn l (QP h1)) rfl rfl rfl) ?_; refine QC ?_; refine QG ?_
 change (resY _ _).bind AV.fzt = some _
 refine Yj rfl ?_
 rw [KZ, if_pos h1]
end Go.Proofs.YtaecccdkjmipeaaGreat
namespace Go.Proofs.YtaecccdkjmipeaaGreat
set_option maxRecDepth 100000
set_option maxHeartbeats 1000000
open Go.RowKit
mutual
def Qr : Qn → Qs → Bool
 | .mk N nm ps es, l =>
  if l.k == 1 then Jx (.mk N nm ps es) true false false false && (N == 0 || N == 1)
  else if l.k == 2 || l.k == 3 then Jx (.mk N nm ps es) true false false false && decide (l.lo ≤ N) && decide (N ≤ l.hi)
  else if l.k == 4 then Jx (.mk N nm ps es) false true false false && JE l.nm nm
  else if l.k == 10 then Jx (.mk N nm ps es) false true false false && JE l.nm nm && Xf l.rs nm
  else if l.k == 8 then (if N == 0 || N == 2 then Jx (.mk N nm ps es) true false false false else if N == 1 then Jx (.mk N nm ps es) true true false false && (nm.length : Int) == 1 && JE l.nm nm else false)
  else if l.k == 9 then Jx (.mk N nm ps es) false false false true && QmT es
  else if l.k == 5 then Jx (.mk N nm ps es) false true true false && ((nm.length : Int) == ps.length) && JE l.nm nm && (match l.ps with | a :: _ => Qjv ps a | [] => false)
  else Jx (.mk N nm ps es) false false true false && ((ps.length : Int) == l.ps.length) && KR ps l.ps
def Qjv : List Qn → Qs → Bool
 | [], _ => true
 | p :: r, a => (Qr p a && !eqV p (QL a)) && Qjv r a
def KR : List Qn → List Qs → Bool
 | [], _ => true
 | p :: r, q :: s => Qr p q && KR r s
 | _ :: _, [] => false
end
def QdT (a : Qs) (p : Qn) : Bool := Qr p a && !eqV p (QL a)
theorem QbH (a : Qs) : ∀ l : List Qn, Qjv l a = l.all (QdT a)
 | [] => by simp [Qjv]
 | p :: r => by rw [Qjv, List.all_cons, QbH a r]; rfl
theorem QI (v : Qn) (l : Qs) : Qr v l =
  if l.k == 1 then Jx v true false false false && (v.N == 0 || v.N == 1)
  else if l.k == 2 || l.k == 3 then Jx v true false false false && decide (l.lo ≤ v.N) && decide (v.N ≤ l.hi)
  else if l.k == 4 then Jx v false true false false && JE l.nm v.nm
  else if l.k == 10 then Jx v false true false false && JE l.nm v.nm && Xf l.rs v.nm
  else if l.k == 8 then (if v.N == 0 || v.N == 2 then Jx v true false false false else if v.N == 1 then Jx v true true false false && (v.nm.length : Int) == 1 && JE l.nm v.nm else false)
  else if l.k == 9 then Jx v false false false true && QmT v.es
  else if l.k == 5 then Jx v false true true false && ((v.nm.length : Int) == v.ps.length) && JE l.nm v.nm && (match l.ps with | a :: _ => Qjv v.ps a | [] => false)
  else Jx v false false true false && ((v.ps.length : Int) == l.ps.length) && KR v.ps l.ps := by
 cases v with
 | mk N nm ps es => rw [Qr]; rfl
section
variable {vs : List Qn} {ls : List Qs} {k : Nat} {x : Qn} {q : Qs} {b : Bool}
theorem Qww (hg : KR (vs.drop k) (ls.drop k) = b) (hx : vs[k]? = some x) (hq : ls[k]? = some q) : b = (Qr x q && KR (vs.drop (k + 1)) (ls.drop (k + 1))) := by
 rw [← hg, XL hx, XL hq, KR]
theorem Qvl (hg : KR (vs.drop k) (ls.drop k) = b) (h : vs.length ≤ k) : b = true := by
 rw [← hg, List.drop_of_length_le h, KR]
end
theorem Qo1 {l : Qs} (h : Xq l = 0) (hk : l.k = 5) : ∃ a r, l.ps = a :: r := by
 unfold Xq at h
 rw [if_pos (by rw [hk]; decide)] at h
 have hb : KE l = false := by
  cases hb : KE l
  ·rfl
  rw [hb] at h; simp [Yh] at h
 cases hp : l.ps with
 | cons a r => exact ⟨a, r, rfl⟩
 | nil => simp [KE, Yb, hk, hp] at hb
theorem Qvn (v : Qn) (l : Qs) (hO : Kv l) (ih : ∀ x ∈ v.ps, ∀ a, Kv a → FC Tryz.prog 191 [.agg (QF a), .agg (Xm x)] (bl (Qr x a))) : FC Tryz.prog 191 [.agg (QF l), .agg (Xm v)] (bl (Qr v l)) := by
 refine Qd [4] Tryz.func191 rfl rfl 183 Tryz.ntmps191 (Nat.le_of_ble_eq_true rfl) ?_
 intro E hN
 refine QlK ?_
 refine zq ?_ ?_ <;> intro h7
 ·
  refine QC ?_; refine zP (Qc (Ww _ _ _ _ _) rfl rfl rfl) ?_; refine zM ?_
  refine zc 15 ?_ ?_ <;> intro h9
  rotate_left
  ·
   refine XN ?_; refine zQ ?_
   exact Qt (by rw [QI]; simp_all <;> (intros; omega))
  refine QJ ?_
  refine zc 19 ?_ ?_ <;> intro h12
  ·
   refine QC ?_; refine uP (X7 h9) (XI rfl rfl h12 rfl) ?_; refine QO ?_; refine zQ ?_
   exact Qt (by rw [QI]; simp_all <;> (intros; omega))
  refine QC ?_; refine uP (X7 h9) (Ji rfl rfl h12 rfl) ?_; refine QO ?_; refine zQ ?_
  exact Qt (by rw [QI]; simp_all <;> (intros; omega))
 refine Je ?_
 refine zq ?_ ?_ <;> intro h16
 ·
  refine QA ?_; refine zP (Qc (Ww _ _ _ _ _) rfl rfl rfl) ?_; refine zM ?_
  refine zc 30 ?_ ?_ <;> intro h18
  rotate_left
  ·
   refine WG ?_; refine zQ ?_
   exact Qt (by rw [QI]; simp_all <;> (intros; omega))
  refine Xz ?_
  refine zc 37 ?_ ?_ <;> intro h23
  ·
   refine Xz ?_; refine zQ ?_
   exact Qt (by rw [QI]; simp_all <;> (intros; omega))
  refine Xz ?_; refine zQ ?_
  exact Qt (by rw [QI]; simp_all <;> (intros; omega))
 refine QJ ?_
 refine zq ?_ ?_ <;> intro h29
 ·
  refine QC ?_; refine zP (Qc (Ww _ _ _ _ _) rfl rfl rfl) ?_; refine zM ?_
  refine zc 30 ?_ ?_ <;> intro h31
  rotate_left
  ·
   refine WG ?_; refine zQ ?_
   exact Qt (by rw [QI]; simp_all <;> (intros; omega))
  refine Xz ?_
  refine zc 37 ?_ ?_ <;> intro h36
  ·
   refine Xz ?_; refine zQ ?_
   exact Qt (by rw [QI]; simp_all <;> (intros; omega))
  refine Xz ?_; refine zQ ?_
  exact Qt (by rw [QI]; simp_all <;> (intros; omega))
 refine QA ?_
 refine zq ?_ ?_ <;> intro h42
 ·
  refine QC ?_; refine zP (Qc (Ww _ _ _ _ _) rfl rfl rfl) ?_; refine zM ?_
  refine zc 48 ?_ ?_ <;> intro h44
  ·
   refine QJ ?_; refine uP (X7 h44) (Qc (Qck _ _) rfl rfl rfl) ?_; refine QO ?_; refine zQ ?_
   exact Qt (by rw [QI]; simp_all <;> (intros; omega))
  refine Xz ?_; refine zQ ?_
  exact Qt (by rw [QI]; simp_all <;> (intros; omega))
 refine QA ?_
 refine zq ?_ ?_ <;> intro h50
 ·
  refine QC ?_; refine zP (Qc (Ww _ _ _ _ _) rfl rfl rfl) ?_; refine zM ?_
  refine zc 59 ?_ ?_ <;> intro h52
  rotate_left
  ·
   refine WG ?_; refine zQ ?_
   exact Qt (by rw [QI]; simp_all <;> (intros; omega))
  refine QJ ?_; refine uP (X7 h52) (Qc (Qck _ _) rfl rfl rfl) ?_; refine QO ?_
  refine zc 66 ?_ ?_ <;> intro h57
  ·
   refine QJ ?_; refine uP (X7 h57) (Qc (Qp2 _ _) rfl rfl rfl) ?_; refine QO ?_; refine zQ ?_
   exact Qt (by rw [QI]; simp_all <;> (intros; omega))
  refine Xz ?_; refine zQ ?_
  exact Qt (by rw [QI]; simp_all <;> (intros; omega))
 refine QA ?_
 refine zq ?_ ?_ <;> intro h63
 ·
  refine Wi ?_
  refine zq ?_ ?_ <;> intro h66
  ·
   refine QA ?_; refine zP (Qc (Ww _ _ _ _ _) rfl rfl rfl) ?_; refine zS ?_; refine zQ ?_
   exact Qt (by rw [QI]; simp_all <;> (intros; omega))
  refine QJ ?_
  refine zq ?_ ?_ <;> intro h69
  ·
   refine QC ?_; refine zP (Qc (Ww _ _ _ _ _) rfl rfl rfl) ?_; refine zS ?_; refine zQ ?_
   exact Qt (by rw [QI]; simp_all <;> (intros; omega))
  refine QA ?_
  refine zq ?_ ?_ <;> intro h72
  rotate_left
  ·
   refine QJ ?_; refine zQ ?_
   exact Qt (by rw [QI]; simp_all <;> (intros; omega))
  refine QC ?_; refine zP (Qc (Ww _ _ _ _ _) rfl rfl rfl) ?_; refine zM ?_
  refine zc 86 ?_ ?_ <;> intro h74
  rotate_left
  ·
   refine Wi ?_; refine zQ ?_
   exact Qt (by rw [QI]; simp_all <;> (intros; omega))
  refine Je ?_
  refine zc 92 ?_ ?_ <;> intro h78
  ·
   refine QJ ?_; refine uP (X7 h78) (Qc (Qck _ _) rfl rfl rfl) ?_; refine QO ?_; refine zQ ?_
   exact Qt (by rw [QI]; simp_all <;> (intros; omega))
  refine Xz ?_; refine zQ ?_
  exact Qt (by rw [QI]; simp_all <;> (intros; omega))
 refine QA ?_
 refine zq ?_ ?_ <;> intro h84
 ·
  refine QC ?_; refine zP (Qc (Ww _ _ _ _ _) rfl rfl rfl) ?_; refine zM ?_
  refine zc 103 ?_ ?_ <;> intro h86
  ·
   refine QO ?_; refine uP (X7 h86) (Qc (Qvw _) rfl rfl rfl) ?_; refine QO ?_; refine zQ ?_
   exact Qt (by rw [QI]; simp_all <;> (intros; omega))
  refine QA ?_; refine zQ ?_
  exact Qt (by rw [QI]; simp_all <;> (intros; omega))
 refine QA ?_
 refine zq ?_ ?_ <;> intro h90
 rotate_left
 ·
  refine QA ?_; refine zP (Qc (Ww _ _ _ _ _) rfl rfl rfl) ?_; refine QO ?_
  refine zc 157 ?_ ?_ <;> intro h133
  ·
   refine Wi ?_; refine zQ ?_
   exact Qt (by rw [QI]; simp_all <;> (intros; omega))
  refine JU ?_
  refine zq ?_ ?_ <;> intro h140
  ·
   refine QC ?_; refine zQ ?_
   exact Qt (by rw [QI]; simp_all <;> (intros; omega))
  refine XN ?_
  have hle : v.ps.length = l.ps.length := by simp_all <;> omega
  have hE : Qr v l = KR v.ps l.ps := by rw [QI]; simp_all
  refine Qi (fun x : {k : Nat // k ≤ (v.ps).length ∧ KR (v.ps.drop k) (l.ps.drop k) = KR v.ps l.ps} => ⟨[(2, .ptr 0 0), (3, .ptr 1 0), (167, JM v.ps), (168, i64 v.ps.length), (169, i64 (x.1 : Nat))], [(0, .var 26 (QF l)), (1, .var 30 (Xm v))], 2⟩) (fun x => (v.ps).length - x.1) (⟨0, Nat.zero_le _, by simp⟩) ?_ ?_
  ·
   exact Qa rfl (Xl ⟨(QE (by simp)), rfl, (Xu trivial)⟩) ⟨rfl, rfl, rfl, rfl, rfl, rfl, trivial⟩
  rintro ⟨k, hk, hg⟩
  dsimp only
  refine JK 167 rfl (fun hl8 => ?_)
  refine QA ?_
  refine zq ?_ ?_ <;> intro h149
  rotate_left
  ·
   have hge : (v.ps).length ≤ k := by simpa using h149
   refine QJ ?_; refine zQ ?_
   exact Qt (by rw [hE, Qvl hg hge])
  have hlt : k < (v.ps).length := by simpa using h149
  obtain ⟨x, hx⟩ := Qk hlt
  obtain ⟨q, hq⟩ := Qk (show k < l.ps.length by omega)
  have hOq : Kv q := hO.part q (List.mem_of_getElem? hq)
  have hs := Qww hg hx hq
  refine Je ?_; refine zP (Qh rfl rfl rfl k rfl _ (Xk hx) rfl) ?_; refine Je ?_; refine Qy 7 (by kernel_rfl) (by kernel_rfl) ?_
  refine QC ?_; refine zp (Qh rfl rfl rfl k rfl _ (Xt hq) rfl) ?_; refine QO ?_
  refine zp (Qc (ih x (List.mem_of_getElem? hx) q hOq) rfl rfl rfl) ?_; change Qz _ _ _ _ _ _; refine QO ?_
  refine zq ?_ ?_ <;> intro h159
  ·
   refine QC ?_; refine zQ ?_
   exact Qt (by rw [hE, hs]; simp_all)
  refine QJ ?_; refine Qb ?_
  exact ⟨⟨k + 1, hlt, by simp_all⟩, Qa rfl (QR ⟨(QE (by dsimp only; omega)), rfl, trivial⟩) ⟨rfl, rfl, rfl, rfl, rfl, rfl, trivial⟩, by dsimp only; omega⟩
 refine QJ ?_; refine zP (Qc (Ww _ _ _ _ _) rfl rfl rfl) ?_; refine QO ?_
 refine zc 113 ?_ ?_ <;> intro h92
 ·
  refine QjA ?_; refine zQ ?_
  exact Qt (by rw [QI]; simp_all <;> (intros; omega))
 refine JU ?_
 refine zc 122 ?_ ?_ <;> intro h99
 ·
  refine JA ?_; refine zQ ?_
  exact Qt (by rw [QI]; simp_all <;> (intros; omega))
 refine QJ ?_; refine uP (JI h99) (Qc (Qck _ _) rfl rfl rfl) ?_; refine QC ?_
 refine zq ?_ ?_ <;> intro h104
 ·
  refine QC ?_; refine zQ ?_
  exact Qt (by rw [QI]; simp_all <;> (intros; omega))
 refine XN ?_
 obtain ⟨a, r, hps⟩ := Qo1 hO.shape (by simp_all)
 have hOa : Kv a := hO.part a (by rw [hps]; exact List.mem_cons_self)
 have ha : l.ps[0]? = some a := by rw [hps]; rfl
 have hE : Qr v l = v.ps.all (QdT a) := by rw [QI]; simp_all [QbH]
 refine Qi (fun x : {k : Nat // k ≤ (v.ps).length ∧ (v.ps.drop k).all (QdT a) = v.ps.all (QdT a)} => ⟨[(2, .ptr 0 0), (3, .ptr 1 0), (131, JM v.ps), (132, i64 v.ps.length), (133, i64 (x.1 : Nat))], [(0, .var 26 (QF l)), (1, .var 30 (Xm v))], 2⟩) (fun x => (v.ps).length - x.1) (⟨0, Nat.zero_le _, by simp⟩) ?_ ?_
 ·
  exact Qa rfl (Xl ⟨(QE (by simp)), rfl, (Xu trivial)⟩) ⟨rfl, rfl, rfl, rfl, rfl, rfl, trivial⟩
 rintro ⟨k, hk, hg⟩
 dsimp only
 refine JK 131 rfl (fun hl8 => ?_)
 refine QA ?_
 refine zq ?_ ?_ <;> intro h113
 rotate_left
 ·
  have hge : (v.ps).length ≤ k := by simpa using h113
  refine QJ ?_; refine zQ ?_
  exact Qt (by rw [hE, X4 hg hge])
 have hlt : k < (v.ps).length := by simpa using h113
 obtain ⟨x, hx⟩ := Qk hlt
 refine QA ?_; refine zP (Qh rfl rfl rfl k rfl _ (Xk hx) rfl) ?_; refine QA ?_; refine Qy 15 (by kernel_rfl) (by kernel_rfl) ?_
 refine QO ?_; refine zp (Qh rfl rfl rfl 0 rfl _ (Xt ha) rfl) ?_; refine QO ?_
 refine zp (Qc (ih x (List.mem_of_getElem? hx) a hOa) rfl rfl rfl) ?_; refine QO ?_
 refine zd 144 ?_ ?_ <;> intro h123
 ·
  refine Xz ?_; change Qz _ _ _ _ _ _; refine Je ?_; refine zQ ?_
  exact Qt (by rw [hE, Q6 hg hx (by simp_all [QdT])])
 refine QC ?_; refine vP (JI (m1 (n0 h123))) (Qh rfl rfl rfl 0 rfl _ (Xt ha) rfl) ?_; refine KO ?_
 refine vP (JI (m1 (n0 h123))) (Qc (Qdn a hOa) rfl rfl rfl) ?_; refine vP (JI (m1 (n0 h123))) (Qc (Qhr _ _) rfl rfl rfl) ?_
 change Qz _ _ _ _ _ _; refine QO ?_
 refine zq ?_ ?_ <;> intro h130
 ·
  refine QC ?_; refine zQ ?_
  exact Qt (by rw [hE, Q6 hg hx (by simp_all [QdT])])
 refine QJ ?_; refine Qb ?_
 exact ⟨⟨k + 1, hlt, XF hg hx (by simp_all [QdT])⟩, Qa rfl (QR ⟨(QE (by dsimp only; omega)), rfl, trivial⟩) ⟨rfl, rfl, rfl, rfl, rfl, rfl, trivial⟩, by dsimp only; omega⟩
theorem QoI (v : Qn) (l : Qs) (hO : Kv l) : FC Tryz.prog 191 [.agg (QF l), .agg (Xm v)] (bl (Qr v l)) := Qvn v l hO (fun x _ a ha => QoI x a ha)
termination_by v
decreasing_by exact Qn.sizeOf_ps ‹_›
def Qbt (l : Qs) (v : Qn) : Bool := (Q0 l == 0) && Qr v l
theorem Qqi (l : Qs) (v : Qn) : FC Tryz.prog 178 [.agg (QF l), .agg (Xm v)] (bl (Qbt l v)) := by
 refine Qd [4] Tryz.func178 rfl rfl 13 Tryz.ntmps178 (Nat.le_of_ble_eq_true rfl) ?_
 intro E hN
 refine JU ?_; refine zP (Qc (Wx l) rfl rfl rfl) ?_; refine QO ?_
 refine zc 8 ?_ ?_ <;> intro h7
 ·
  have h1 : Q0 l = 0 := by simpa using h7
  refine QO ?_; refine uP (X7 h7) (Qc (QoI v l (QP h1)) rfl rfl rfl) ?_; refine QO ?_; refine zQ ?_
  exact Qt (by simp_all [Qbt])
 refine QA ?_; refine zQ ?_
 exact Qt (by simp_all [Qbt])
end Go.Proofs.YtaecccdkjmipeaaGreat
