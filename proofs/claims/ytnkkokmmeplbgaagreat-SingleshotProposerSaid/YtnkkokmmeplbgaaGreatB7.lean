/-
  Contracts: elements of a lattice.
-/
import Derived.Test.YtnkkokmmeplbgaaGreatB5
namespace Go.Proofs.YtnkkokmmeplbgaaGreat
set_option maxRecDepth 100000
set_option maxHeartbeats 1000000
open Go.RowKit
def QdS (e f : En) : Bool := !(Qev e.1 f.1 == 1 || Qev e.1 f.1 == 2)
def QdZ (l : List En) (e : En) (i : Nat) : Bool := !((e.1.length : Int) == 0) && QP (-1) e.1 && XM e.2 && !(decide ((i : Int) > 0) && (match l[i - 1]? with | some y => decide (Jb y e ≥ 0) | none => false)) && (l.take i).all (QdS e)
def QeG (l : List En) (p : En × Nat) : Bool := QdZ l p.1 p.2
def Qiv (l : List En) : Bool := l.zipIdx.all (QeG l)
theorem XF {l : List En} {k : Nat} {x : En} (h : l[k]? = some x) : l.zipIdx[k]? = some (x, k) := by simp [h]
theorem Qaz (l : List En) : l.zipIdx.length = l.length := by simp
mutual
def QU : QD → Qw
 | .mk k lo hi _ ps _ => .mk (if k == 2 then lo else if k == 3 then hi else 0) [] (if k == 6 || k == 7 then Qb9 ps else []) []
def Qb9 : List QD → List Qw
 | [] => []
 | p :: r => QU p :: Qb9 r
end
theorem Qeq : ∀ l : List QD, Qb9 l = l.map QU
 | [] => by simp [Qb9]
 | p :: r => by simp only [Qb9, List.map_cons]; rw [Qeq r]
theorem JB (l : QD) : QU l = .mk (if l.k == 2 then l.lo else if l.k == 3 then l.hi else 0) [] (if l.k == 6 || l.k == 7 then l.ps.map QU else []) [] := by
 cases l with
 | mk k lo hi nm ps rs => rw [QU, Qeq]; rfl
theorem YF (v : Qw) : okE 4 (JV v) = true := by rw [Kn]; rfl
theorem XH (a b c d : AV) : Qo 4 1 [a, b, c, d] = [[a, b, c, d]] := rfl
theorem cgV {tt : TypeId} {a b d : AV} {es es' : List (List AV)} {tk : Option Nat} (h : es = es') : some (Qx.var tt [a, b, .sl es tk, d]) = some (Qx.var tt [a, b, .sl es' tk, d]) := by rw [h]
theorem Qd9 {l : List QD} {k : Nat} {x : QD} (h : l[k]? = some x) : (((l.take k).map QU).map JV) ++ Qo 4 1 (Qz (QU x)) = (((l.take (k + 1)).map QU).map JV) := by
 rw [XH, List.take_add_one, h]
 simp [Kn]
theorem Qha {a b c d a' b' c' d' : AV} (h1 : a = a') (h2 : b = b') (h3 : c = c') (h4 : d = d') : AV.agg [a, b, c, d] = AV.agg [a', b', c', d'] := by rw [h1, h2, h3, h4]
inductive YK : QD → Prop
 | mk (l : QD) (h1 : Xo l = 0) (h2 : orE [JC l, Jr l, X7 l, Js l] = 0) (h3 : l.ps.length ≤ 64) (h4 : ∀ p ∈ l.ps, YK p) : YK l
theorem QhN : ∀ (f : Nat) (l : QD) (n : Int), 0 ≤ n → (Xc f l n).1 = 0 → YK l ∧ n + 1 ≤ (Xc f l n).2 ∧ (Xc f l n).2 ≤ 64
 | 0, l, n, _, h => by simp [Xc] at h
 | f + 1, l, n, hn, h => by
  by_cases h64 : n ≥ 64
  ·rw [Qjl h64] at h; simp at h
  have h64 : n < 64 := by omega
  cases hs : Xo l != 0 with
  | true => rw [Qei h64 hs] at h; simp at h; simp [h] at hs
  | false =>
   cases ho : orE [JC l, Jr l, X7 l, Js l] != 0 with
   | true => rw [QpN h64 hs ho] at h; simp at h; simp [h] at ho
   | false =>
    rw [QbA h64 hs ho] at h ⊢
    have key : ∀ (q : QD) (m : Int), 0 ≤ m → (Xc f q m).1 = 0 → YK q ∧ m + 1 ≤ (Xc f q m).2 ∧ (Xc f q m).2 ≤ 64 := fun q m hm hq => QhN f q m hm hq
    have all : ∀ (ps : List QD) (m : Int), 0 ≤ m → m ≤ 64 → (JE (Xc f) ps m).1 = 0 → (∀ p ∈ ps, YK p) ∧ m + ps.length ≤ (JE (Xc f) ps m).2 ∧ (JE (Xc f) ps m).2 ≤ 64 := by
     intro ps
     induction ps with
     | nil => intro m _ h1 _; simpa [JE] using h1
     | cons q r ih =>
      intro m h0 h1 h2
      unfold JE at h2 ⊢
      split at h2
      ·rename_i hz
       rw [if_pos hz]
       obtain ⟨k1, k2, k3⟩ := key q m h0 (by simpa using hz)
       obtain ⟨k4, k5, k6⟩ := ih _ (by omega) k3 h2
       refine ⟨fun p hp => ?_, by simp only [List.length_cons]; omega, k6⟩
       rcases List.mem_cons.1 hp with rfl | hp
       ·exact k1
       exact k4 p hp
      rename_i hz
      exact absurd (by simpa using h2) hz
    obtain ⟨k1, k2, k3⟩ := all l.ps (n + 1) (by omega) (by omega) h
    exact ⟨.mk l (by simpa using hs) (by simpa using ho) (by omega) k1, by omega, k3⟩
theorem X0 {l : QD} (h : Xp l = 0) : YK l := (QhN 6 l 0 (by decide) h).1
theorem YK.shape {l : QD} (h : YK l) : Xo l = 0 := by cases h; assumption
theorem YK.small {l : QD} (h : YK l) : l.ps.length ≤ 64 := by cases h; assumption
theorem YK.part {l : QD} (h : YK l) : ∀ p ∈ l.ps, YK p := by cases h; assumption
theorem Qtg (l : List En) : FC Tryz.prog 141 [W7 l] (bl (Qiv l)) := by
 refine Qg [2] Tryz.func141 rfl rfl 66 Tryz.ntmps141 (Nat.le_of_ble_eq_true rfl) ?_
 intro E hN
 refine Jj 0 rfl (fun hl0 => ?_)
 refine X6 ?_
 refine Ql (fun x : {k : Nat // k ≤ (l).length ∧ (l.zipIdx.drop k).all (QeG l) = l.zipIdx.all (QeG l)} => ⟨[(0, W7 l), (8, W7 l), (9, i64 l.length), (10, i64 (x.1 : Nat))], [], 0⟩) (fun x => (l).length - x.1) (⟨0, Nat.zero_le _, by simp⟩) ?_ ?_
 ·
  exact Qa rfl (JI ⟨(Q0 (by simp)), rfl, (Xv trivial)⟩) trivial
 rintro ⟨k, hk, hg⟩
 dsimp only
 refine QF ?_
 refine zq ?_ ?_ <;> intro h7
 rotate_left
 ·
  have hge : (l).length ≤ k := by simpa using h7
  refine Qv ?_; refine zQ ?_
  exact Qm (XU hg (by rw [Qaz]; exact hge)).symm
 have hlt : k < (l).length := by simpa using h7
 obtain ⟨x, hx⟩ := Qn hlt
 refine Q8 ?_; refine zP (Qf rfl rfl rfl k rfl _ (Qk hx) rfl) ?_; refine Q4 ?_; refine Qd 29 (by kernel_rfl) (by kernel_rfl) ?_
 refine QF ?_
 refine zd 19 ?_ ?_ <;> intro h15
 ·
  refine QaA ?_; change Qj _ _ _ _ _ _; refine Q8 ?_; refine zQ ?_
  exact Qm (Q3 hg (XF hx) (by simp_all [QeG, QdZ])).symm
 refine Qu ?_; refine vP (Xj h15) (Qc (Qa9 _) rfl rfl rfl) ?_; refine Qs ?_
 refine zd 25 ?_ ?_ <;> intro h18
 ·
  refine QeU ?_; change Qj _ _ _ _ _ _; refine Q8 ?_; refine zQ ?_
  exact Qm (Q3 hg (XF hx) (by simp_all [QeG, QdZ])).symm
 refine Qu ?_; refine vP (Xj (m1 (n0 h18))) (Qc (Qd6 _) rfl rfl rfl) ?_; refine Qs ?_
 refine zd 31 ?_ ?_ <;> intro h21
 ·
  refine X6 ?_; change Qj _ _ _ _ _ _; refine Q8 ?_; refine zQ ?_
  exact Qm (Q3 hg (XF hx) (by simp_all [QeG, QdZ])).symm
 refine Qs ?_
 refine zd 34 ?_ ?_ <;> intro h22
 rotate_left
 ·
  refine XN ?_; refine vP (Xj (m1 (n0 h21))) (Xw rfl rfl h22 rfl) ?_; change Qj _ _ _ _ _ _; refine XN ?_
  refine zP (Qrm rfl rfl rfl k rfl (by omega) (by exact fun _ => rfl)) ?_; refine Qv ?_
  refine Ql (fun x1 : {j : Nat // j ≤ (l.take k).length ∧ ((l.take k).drop j).all (QdS x) = (l.take k).all (QdS x)} => ⟨[(0, W7 l), (4, .ptr 0 0), (8, W7 l), (9, i64 l.length), (10, i64 (k : Nat)), (47, W7 (l.take k)), (48, i64 (l.take k).length), (49, i64 (x1.1 : Nat))], [(0, .var 149 (Kv x))], 1⟩) (fun x1 => (l.take k).length - x1.1) (⟨0, Nat.zero_le _, by simp⟩) ?_ ?_
  ·
   exact Qa rfl (JH (JI ⟨(Q0 (by simp)), rfl, (Xv trivial)⟩)) ⟨rfl, rfl, rfl, trivial⟩
  rintro ⟨j, hj, hgj⟩
  dsimp only
  have htk : (l.take k).length ≤ l.length := by simp; omega
  refine QF ?_
  refine zq ?_ ?_ <;> intro h63
  rotate_left
  ·
   have hgej : (l.take k).length ≤ j := by simpa using h63
   have hA := XU hgj hgej
   refine Qv ?_; refine Qb ?_
   exact ⟨⟨k + 1, hlt, Xx hg (XF hx) (by simp_all [QeG, QdZ])⟩, Qa rfl (JO ⟨(Q0 (by dsimp only; omega)), rfl, trivial⟩) trivial, by dsimp only; omega⟩
  have hltj : j < (l.take k).length := by simpa using h63
  obtain ⟨y2, hy2⟩ := Qn hltj
  refine QF ?_; refine zP (Qf rfl rfl rfl j rfl _ (Qk hy2) rfl) ?_; refine XB ?_; refine zP (Qc (QfS _ _) rfl rfl rfl) ?_
  refine Q4 ?_
  refine zc 60 ?_ ?_ <;> intro h73
  ·
   refine XN ?_; refine zQ ?_
   exact Qm (Q3 hg (XF hx) (by rw [QeG, QdZ, Q3 hgj hy2 (by simp_all [QdS])]; simp)).symm
  refine Qv ?_
  refine zq ?_ ?_ <;> intro h74
  ·
   refine Qs ?_; refine zQ ?_
   exact Qm (Q3 hg (XF hx) (by rw [QeG, QdZ, Q3 hgj hy2 (by simp_all [QdS])]; simp)).symm
  refine Qv ?_; refine Qb ?_
  exact ⟨⟨j + 1, hltj, Xx hgj hy2 (by simp_all [QdS])⟩, Qa rfl (JH (JO ⟨(Q0 (by dsimp only; omega)), rfl, trivial⟩)) ⟨rfl, rfl, rfl, trivial⟩, by dsimp only; omega⟩
 have hk0 : 0 < k := by simpa using h22
 obtain ⟨y, hy⟩ := Qn (show k - 1 < l.length by omega)
 refine Qu ?_; refine vP (XG h22) (KM rfl rfl rfl (by omega)) ?_
 refine vP (XG h22) (Qf rfl rfl rfl (k - 1) (by omega) _ (Qk hy) rfl) ?_; refine Qu ?_
 refine vP (XG h22) (Qc (Qj8 _ _) rfl rfl rfl) ?_; refine Jk ?_; refine vP (Xj (m1 (n0 h21))) (Xu rfl rfl h22 rfl) ?_
 change Qj _ _ _ _ _ _; refine Qu ?_
 refine zq ?_ ?_ <;> intro h28
 ·
  refine Qs ?_; refine zQ ?_
  exact Qm (Q3 hg (XF hx) (by simp_all [QeG, QdZ])).symm
 refine QF ?_; refine zP (Qrm rfl rfl rfl k rfl (by omega) (by exact fun _ => rfl)) ?_; refine Qv ?_
 refine Ql (fun x1 : {j : Nat // j ≤ (l.take k).length ∧ ((l.take k).drop j).all (QdS x) = (l.take k).all (QdS x)} => ⟨[(0, W7 l), (4, .ptr 0 0), (8, W7 l), (9, i64 l.length), (10, i64 (k : Nat)), (47, W7 (l.take k)), (48, i64 (l.take k).length), (49, i64 (x1.1 : Nat))], [(0, .var 149 (Kv x))], 1⟩) (fun x1 => (l.take k).length - x1.1) (⟨0, Nat.zero_le _, by simp⟩) ?_ ?_
 ·
  exact Qa rfl (JH (JI ⟨(Q0 (by simp)), rfl, (Xv trivial)⟩)) ⟨rfl, rfl, rfl, trivial⟩
 rintro ⟨j, hj, hgj⟩
 dsimp only
 have htk : (l.take k).length ≤ l.length := by simp; omega
 refine QF ?_
 refine zq ?_ ?_ <;> intro h39
 rotate_left
 ·
  have hgej : (l.take k).length ≤ j := by simpa using h39
  have hA := XU hgj hgej
  refine Qv ?_; refine Qb ?_
  exact ⟨⟨k + 1, hlt, Xx hg (XF hx) (by simp_all [QeG, QdZ])⟩, Qa rfl (JO ⟨(Q0 (by dsimp only; omega)), rfl, trivial⟩) trivial, by dsimp only; omega⟩
 have hltj : j < (l.take k).length := by simpa using h39
 obtain ⟨y2, hy2⟩ := Qn hltj
 refine QF ?_; refine zP (Qf rfl rfl rfl j rfl _ (Qk hy2) rfl) ?_; refine XB ?_; refine zP (Qc (QfS _ _) rfl rfl rfl) ?_
 refine Q4 ?_
 refine zc 60 ?_ ?_ <;> intro h49
 ·
  refine XN ?_; refine zQ ?_
  exact Qm (Q3 hg (XF hx) (by rw [QeG, QdZ, Q3 hgj hy2 (by simp_all [QdS])]; simp)).symm
 refine Qv ?_
 refine zq ?_ ?_ <;> intro h50
 ·
  refine Qs ?_; refine zQ ?_
  exact Qm (Q3 hg (XF hx) (by rw [QeG, QdZ, Q3 hgj hy2 (by simp_all [QdS])]; simp)).symm
 refine Qv ?_; refine Qb ?_
 exact ⟨⟨j + 1, hltj, Xx hgj hy2 (by simp_all [QdS])⟩, Qa rfl (JH (JO ⟨(Q0 (by dsimp only; omega)), rfl, trivial⟩)) ⟨rfl, rfl, rfl, trivial⟩, by dsimp only; omega⟩
theorem QpL (l : QD) (hp : l.ps.length ≤ 64) (ih : ∀ p ∈ l.ps, FC Tryz.prog 133 [.agg (Q2 p)] (.agg (Qz (QU p)))) : FC Tryz.prog 133 [.agg (Q2 l)] (.agg (Qz (QU l))) := by
 refine Jf [.c 2 30 4 true] ⟨⟨inferInstance, rfl⟩, trivial⟩ Tryz.func133 rfl rfl 37 Tryz.ntmps133 (Nat.le_of_ble_eq_true rfl) ?_
 intro E hN
 refine Qpc ?_
 refine zq ?_ ?_ <;> intro h7
 ·
  refine Jv ?_; refine Qh ?_
  change (resY _ _).bind AV.fzt = some _
  refine XD rfl ?_
  rw [JB]
  refine Qha (QS ?_) rfl ?_ rfl
  ·simp_all [Qw.N]
  first | (simp_all [Qw.ps]; done) | (refine QdH ?_; simp_all [Qw.ps, List.take_of_length_le])
 refine QF ?_
 refine zq ?_ ?_ <;> intro h14
 ·
  refine Jv ?_; refine Qh ?_
  change (resY _ _).bind AV.fzt = some _
  refine XD rfl ?_
  rw [JB]
  refine Qha (QS ?_) rfl ?_ rfl
  ·simp_all [Qw.N]
  first | (simp_all [Qw.ps]; done) | (refine QdH ?_; simp_all [Qw.ps, List.take_of_length_le])
 refine Q8 ?_
 refine zq ?_ ?_ <;> intro h21
 ·
  refine XB ?_; refine QI (J7 rfl 2 2 30 4 rfl rfl rfl) ?_
  refine Ql (fun x : {k : Nat // k ≤ (l.ps).length ∧ True} => ⟨[(2, .ptr 1 0), (3, .ptr 2 0), (22, Qgi l.ps), (23, i64 l.ps.length), (24, i64 (x.1 : Nat))], [(1, .var 30 [i64 0, .p (.slice none 0 0), .p (.slice none 0 0), .p (.slice none 0 0)]), (2, .var 30 [i64 0, .p (.slice none 0 0), .sl (((l.ps.take x.1).map QU).map JV) (some 3), .p (.slice none 0 0)]), (3, .tok 30 4 ((l.ps.take x.1).map QU).length)], 4⟩) (fun x => (l.ps).length - x.1) (⟨0, Nat.zero_le _, by simp⟩) ?_ ?_
  ·
   exact Qa rfl (JO ⟨(Q0 (by simp)), rfl, (Xv trivial)⟩) ⟨rfl, rfl, rfl, rfl, rfl, rfl, rfl, rfl, rfl, trivial⟩
  rintro ⟨k, hk, hg⟩
  dsimp only
  refine Jj 22 rfl (fun hl8 => ?_)
  refine QF ?_
  refine zq ?_ ?_ <;> intro h30
  rotate_left
  ·
   have hge : (l.ps).length ≤ k := by simpa using h30
   refine Q8 ?_; refine Qh ?_
   change (resY _ _).bind AV.fzt = some _
   refine XD rfl ?_
   rw [JB]
   refine Qha (QS ?_) rfl ?_ rfl
   ·simp_all [Qw.N]
   first | (simp_all [Qw.ps]; done) | (refine QdH ?_; simp_all [Qw.ps, List.take_of_length_le])
  have hlt : k < (l.ps).length := by simpa using h30
  obtain ⟨x, hx⟩ := Qn hlt
  refine QF ?_; refine zP (Qf rfl rfl rfl k rfl _ (XK hx) rfl) ?_; refine Qv ?_; refine Qd 5 (by kernel_rfl) (by kernel_rfl) ?_
  refine Qs ?_; refine zp (Qc (ih x (List.mem_of_getElem? hx)) rfl rfl rfl) ?_
  refine zp (QE rfl rfl rfl rfl (by exact rfl) (by decide) (by decide)) ?_; change Qj _ _ _ _ _ _
  refine QG hN rfl rfl rfl (by simp) rfl rfl (QN YF _) rfl (by simp [XH]; omega) rfl rfl rfl rfl ?_
  refine Q8 ?_; refine Qb ?_
  exact ⟨⟨k + 1, hlt, trivial⟩, Qa rfl (JH ⟨(Q0 (by dsimp only; omega)), rfl, trivial⟩) ⟨rfl, rfl, rfl, (cgV (Qd9 hx)), rfl, rfl, (cgT (by simp [XH]; omega)), rfl, rfl, trivial⟩, by dsimp only; omega⟩
 refine Qv ?_
 refine zq ?_ ?_ <;> intro h46
 rotate_left
 ·
  refine Q8 ?_; refine Qh ?_
  change (resY _ _).bind AV.fzt = some _
  refine XD rfl ?_
  rw [JB]
  refine Qha (QS ?_) rfl ?_ rfl
  ·simp_all [Qw.N]
  first | (simp_all [Qw.ps]; done) | (refine QdH ?_; simp_all [Qw.ps, List.take_of_length_le])
 refine XN ?_; refine QI (J7 rfl 2 2 30 4 rfl rfl rfl) ?_
 refine Ql (fun x : {k : Nat // k ≤ (l.ps).length ∧ True} => ⟨[(2, .ptr 1 0), (3, .ptr 2 0), (22, Qgi l.ps), (23, i64 l.ps.length), (24, i64 (x.1 : Nat))], [(1, .var 30 [i64 0, .p (.slice none 0 0), .p (.slice none 0 0), .p (.slice none 0 0)]), (2, .var 30 [i64 0, .p (.slice none 0 0), .sl (((l.ps.take x.1).map QU).map JV) (some 3), .p (.slice none 0 0)]), (3, .tok 30 4 ((l.ps.take x.1).map QU).length)], 4⟩) (fun x => (l.ps).length - x.1) (⟨0, Nat.zero_le _, by simp⟩) ?_ ?_
 ·
  exact Qa rfl (JO ⟨(Q0 (by simp)), rfl, (Xv trivial)⟩) ⟨rfl, rfl, rfl, rfl, rfl, rfl, rfl, rfl, rfl, trivial⟩
 rintro ⟨k, hk, hg⟩
 dsimp only
 refine Jj 22 rfl (fun hl8 => ?_)
 refine QF ?_
 refine zq ?_ ?_ <;> intro h55
 rotate_left
 ·
  have hge : (l.ps).length ≤ k := by simpa using h55
  refine Q8 ?_; refine Qh ?_
  change (resY _ _).bind AV.fzt = some _
  refine XD rfl ?_
  rw [JB]
  refine Qha (QS ?_) rfl ?_ rfl
  ·simp_all [Qw.N]
  first | (simp_all [Qw.ps]; done) | (refine QdH ?_; simp_all [Qw.ps, List.take_of_length_le])
 have hlt : k < (l.ps).length := by simpa using h55
 obtain ⟨x, hx⟩ := Qn hlt
 refine QF ?_; refine zP (Qf rfl rfl rfl k rfl _ (XK hx) rfl) ?_; refine Qv ?_; refine Qd 5 (by kernel_rfl) (by kernel_rfl) ?_
 refine Qs ?_; refine zp (Qc (ih x (List.mem_of_getElem? hx)) rfl rfl rfl) ?_
 refine zp (QE rfl rfl rfl rfl (by exact rfl) (by decide) (by decide)) ?_; change Qj _ _ _ _ _ _
 refine QG hN rfl rfl rfl (by simp) rfl rfl (QN YF _) rfl (by simp [XH]; omega) rfl rfl rfl rfl ?_
 refine Q8 ?_; refine Qb ?_
 exact ⟨⟨k + 1, hlt, trivial⟩, Qa rfl (JH ⟨(Q0 (by dsimp only; omega)), rfl, trivial⟩) ⟨rfl, rfl, rfl, (cgV (Qd9 hx)), rfl, rfl, (cgT (by simp [XH]; omega)), rfl, rfl, trivial⟩, by dsimp only; omega⟩
theorem QeA (l : QD) (h : YK l) : FC Tryz.prog 133 [.agg (Q2 l)] (.agg (Qz (QU l))) := QpL l h.small (fun p hp => QeA p (h.part p hp))
termination_by l
decreasing_by exact QD.sizeOf_ps ‹_›
def KE (l : QD) : Qw × Int := if Xp l = 0 then (QU l, 0) else (.zero, 1)
theorem Qhv (l : QD) : FC Tryz.prog 107 [.agg (Q2 l)] (.tup [.agg (Qz (KE l).1), i64 (KE l).2]) := by
 refine Jf [.c 2 30 4 true, .t 3] ⟨⟨inferInstance, rfl⟩, trivial⟩ Tryz.func107 rfl rfl 10 Tryz.ntmps107 (Nat.le_of_ble_eq_true rfl) ?_
 intro E hN
 refine XB ?_; refine zP (Qc (Qd5 l) rfl rfl rfl) ?_; refine Qu ?_
 refine zq ?_ ?_ <;> intro h6
 ·
  have h1 : ¬ Xp l = 0 := by simpa using h6
  refine Q8 ?_; refine Qh ?_
  change (resY _ _).bind AV.fzt = some _
  refine XD rfl ?_
  rw [KE, if_neg h1]; rfl
 have h1 : Xp l = 0 := by simpa using h6
 refine Qv ?_; refine zP (Qc (QeA l (X0 h1)) rfl rfl rfl) ?_; refine Qs ?_; refine Qh ?_
 change (resY _ _).bind AV.fzt = some _
 refine XD rfl ?_
 rw [KE, if_pos h1]
end Go.Proofs.YtnkkokmmeplbgaaGreat
namespace Go.Proofs.YtnkkokmmeplbgaaGreat
set_option maxRecDepth 100000
set_option maxHeartbeats 1000000
open Go.RowKit
mutual
def Qt : Qw → QD → Bool
 | .mk N nm ps es, l =>
  if l.k == 1 then Q5 (.mk N nm ps es) true false false false && (N == 0 || N == 1)
  else if l.k == 2 || l.k == 3 then Q5 (.mk N nm ps es) true false false false && decide (l.lo ≤ N) && decide (N ≤ l.hi)
  else if l.k == 4 then Q5 (.mk N nm ps es) false true false false && Jc l.nm nm
  else if l.k == 10 then Q5 (.mk N nm ps es) false true false false && Jc l.nm nm && Wk l.rs nm
  else if l.k == 8 then (if N == 0 || N == 2 then Q5 (.mk N nm ps es) true false false false else if N == 1 then Q5 (.mk N nm ps es) true true false false && (nm.length : Int) == 1 && Jc l.nm nm else false)
  else if l.k == 9 then Q5 (.mk N nm ps es) false false false true && Qiv es
  else if l.k == 5 then Q5 (.mk N nm ps es) false true true false && ((nm.length : Int) == ps.length) && Jc l.nm nm && (match l.ps with | a :: _ => Qhg ps a | [] => false)
  else Q5 (.mk N nm ps es) false false true false && ((ps.length : Int) == l.ps.length) && YU ps l.ps
def Qhg : List Qw → QD → Bool
 | [], _ => true
 | p :: r, a => (Qt p a && !eqV p (QU a)) && Qhg r a
def YU : List Qw → List QD → Bool
 | [], _ => true
 | p :: r, q :: s => Qt p q && YU r s
 | _ :: _, [] => false
end
def W5 (a : QD) (p : Qw) : Bool := Qt p a && !eqV p (QU a)
theorem Qah (a : QD) : ∀ l : List Qw, Qhg l a = l.all (W5 a)
 | [] => by simp [Qhg]
 | p :: r => by rw [Qhg, List.all_cons, Qah a r]; rfl
theorem Qr (v : Qw) (l : QD) : Qt v l =
  if l.k == 1 then Q5 v true false false false && (v.N == 0 || v.N == 1)
  else if l.k == 2 || l.k == 3 then Q5 v true false false false && decide (l.lo ≤ v.N) && decide (v.N ≤ l.hi)
  else if l.k == 4 then Q5 v false true false false && Jc l.nm v.nm
  else if l.k == 10 then Q5 v false true false false && Jc l.nm v.nm && Wk l.rs v.nm
  else if l.k == 8 then (if v.N == 0 || v.N == 2 then Q5 v true false false false else if v.N == 1 then Q5 v true true false false && (v.nm.length : Int) == 1 && Jc l.nm v.nm else false)
  else if l.k == 9 then Q5 v false false false true && Qiv v.es
  else if l.k == 5 then Q5 v false true true false && ((v.nm.length : Int) == v.ps.length) && Jc l.nm v.nm && (match l.ps with | a :: _ => Qhg v.ps a | [] => false)
  else Q5 v false false true false && ((v.ps.length : Int) == l.ps.length) && YU v.ps l.ps := by
 cases v with
 | mk N nm ps es => rw [Qt]; rfl
section
variable {vs : List Qw} {ls : List QD} {k : Nat} {x : Qw} {q : QD} {b : Bool}
theorem QrV (hg : YU (vs.drop k) (ls.drop k) = b) (hx : vs[k]? = some x) (hq : ls[k]? = some q) : b = (Qt x q && YU (vs.drop (k + 1)) (ls.drop (k + 1))) := by
 rw [← hg, XA hx, XA hq, YU]
theorem QpP (hg : YU (vs.drop k) (ls.drop k) = b) (h : vs.length ≤ k) : b = true := by
 rw [← hg, List.drop_of_length_le h, YU]
end
theorem Qd7 {l : QD} (h : Xo l = 0) (hk : l.k = 5) : ∃ a r, l.ps = a :: r := by
 unfold Xo at h
 rw [if_pos (by rw [hk]; decide)] at h
 have hb : Kj l = false := by
  cases hb : Kj l
  ·rfl
  rw [hb] at h; simp [J1] at h
 cases hp : l.ps with
 | cons a r => exact ⟨a, r, rfl⟩
 | nil => simp [Kj, JL, hk, hp] at hb
theorem Qtj (v : Qw) (l : QD) (hO : YK l) (ih : ∀ x ∈ v.ps, ∀ a, YK a → FC Tryz.prog 109 [.agg (Q2 a), .agg (Qz x)] (bl (Qt x a))) : FC Tryz.prog 109 [.agg (Q2 l), .agg (Qz v)] (bl (Qt v l)) := by
 refine Qg [4] Tryz.func109 rfl rfl 183 Tryz.ntmps109 (Nat.le_of_ble_eq_true rfl) ?_
 intro E hN
 refine QeU ?_
 refine zq ?_ ?_ <;> intro h7
 ·
  refine Qs ?_; refine zP (Qc (K3 _ _ _ _ _) rfl rfl rfl) ?_; refine zM ?_
  refine zc 15 ?_ ?_ <;> intro h9
  rotate_left
  ·
   refine XB ?_; refine zQ ?_
   exact Qm (by rw [Qr]; simp_all <;> (intros; omega))
  refine Qv ?_
  refine zc 19 ?_ ?_ <;> intro h12
  ·
   refine Qs ?_; refine uP (XG h9) (Xu rfl rfl h12 rfl) ?_; refine Qu ?_; refine zQ ?_
   exact Qm (by rw [Qr]; simp_all <;> (intros; omega))
  refine Qs ?_; refine uP (XG h9) (Xw rfl rfl h12 rfl) ?_; refine Qu ?_; refine zQ ?_
  exact Qm (by rw [Qr]; simp_all <;> (intros; omega))
 refine Q8 ?_
 refine zq ?_ ?_ <;> intro h16
 ·
  refine QF ?_; refine zP (Qc (K3 _ _ _ _ _) rfl rfl rfl) ?_; refine zM ?_
  refine zc 30 ?_ ?_ <;> intro h18
  rotate_left
  ·
   refine Ki ?_; refine zQ ?_
   exact Qm (by rw [Qr]; simp_all <;> (intros; omega))
  refine Q4 ?_
  refine zc 37 ?_ ?_ <;> intro h23
  ·
   refine Q4 ?_; refine zQ ?_
   exact Qm (by rw [Qr]; simp_all <;> (intros; omega))
  refine Q4 ?_; refine zQ ?_
  exact Qm (by rw [Qr]; simp_all <;> (intros; omega))
 refine Qv ?_
 refine zq ?_ ?_ <;> intro h29
 ·
  refine Qs ?_; refine zP (Qc (K3 _ _ _ _ _) rfl rfl rfl) ?_; refine zM ?_
  refine zc 30 ?_ ?_ <;> intro h31
  rotate_left
  ·
   refine Ki ?_; refine zQ ?_
   exact Qm (by rw [Qr]; simp_all <;> (intros; omega))
  refine Q4 ?_
  refine zc 37 ?_ ?_ <;> intro h36
  ·
   refine Q4 ?_; refine zQ ?_
   exact Qm (by rw [Qr]; simp_all <;> (intros; omega))
  refine Q4 ?_; refine zQ ?_
  exact Qm (by rw [Qr]; simp_all <;> (intros; omega))
 refine QF ?_
 refine zq ?_ ?_ <;> intro h42
 ·
  refine Qs ?_; refine zP (Qc (K3 _ _ _ _ _) rfl rfl rfl) ?_; refine zM ?_
  refine zc 48 ?_ ?_ <;> intro h44
  ·
   refine Qv ?_; refine uP (XG h44) (Qc (QbB _ _) rfl rfl rfl) ?_; refine Qu ?_; refine zQ ?_
   exact Qm (by rw [Qr]; simp_all <;> (intros; omega))
  refine Q4 ?_; refine zQ ?_
  exact Qm (by rw [Qr]; simp_all <;> (intros; omega))
 refine QF ?_
 refine zq ?_ ?_ <;> intro h50
 ·
  refine Qs ?_; refine zP (Qc (K3 _ _ _ _ _) rfl rfl rfl) ?_; refine zM ?_
  refine zc 59 ?_ ?_ <;> intro h52
  rotate_left
  ·
   refine Ki ?_; refine zQ ?_
   exact Qm (by rw [Qr]; simp_all <;> (intros; omega))
  refine Qv ?_; refine uP (XG h52) (Qc (QbB _ _) rfl rfl rfl) ?_; refine Qu ?_
  refine zc 66 ?_ ?_ <;> intro h57
  ·
   refine Qv ?_; refine uP (XG h57) (Qc (Qnr _ _) rfl rfl rfl) ?_; refine Qu ?_; refine zQ ?_
   exact Qm (by rw [Qr]; simp_all <;> (intros; omega))
  refine Q4 ?_; refine zQ ?_
  exact Qm (by rw [Qr]; simp_all <;> (intros; omega))
 refine QF ?_
 refine zq ?_ ?_ <;> intro h63
 ·
  refine YR ?_
  refine zq ?_ ?_ <;> intro h66
  ·
   refine QF ?_; refine zP (Qc (K3 _ _ _ _ _) rfl rfl rfl) ?_; refine zS ?_; refine zQ ?_
   exact Qm (by rw [Qr]; simp_all <;> (intros; omega))
  refine Qv ?_
  refine zq ?_ ?_ <;> intro h69
  ·
   refine Qs ?_; refine zP (Qc (K3 _ _ _ _ _) rfl rfl rfl) ?_; refine zS ?_; refine zQ ?_
   exact Qm (by rw [Qr]; simp_all <;> (intros; omega))
  refine QF ?_
  refine zq ?_ ?_ <;> intro h72
  rotate_left
  ·
   refine Qv ?_; refine zQ ?_
   exact Qm (by rw [Qr]; simp_all <;> (intros; omega))
  refine Qs ?_; refine zP (Qc (K3 _ _ _ _ _) rfl rfl rfl) ?_; refine zM ?_
  refine zc 86 ?_ ?_ <;> intro h74
  rotate_left
  ·
   refine YR ?_; refine zQ ?_
   exact Qm (by rw [Qr]; simp_all <;> (intros; omega))
  refine Q8 ?_
  refine zc 92 ?_ ?_ <;> intro h78
  ·
   refine Qv ?_; refine uP (XG h78) (Qc (QbB _ _) rfl rfl rfl) ?_; refine Qu ?_; refine zQ ?_
   exact Qm (by rw [Qr]; simp_all <;> (intros; omega))
  refine Q4 ?_; refine zQ ?_
  exact Qm (by rw [Qr]; simp_all <;> (intros; omega))
 refine QF ?_
 refine zq ?_ ?_ <;> intro h84
 ·
  refine Qs ?_; refine zP (Qc (K3 _ _ _ _ _) rfl rfl rfl) ?_; refine zM ?_
  refine zc 103 ?_ ?_ <;> intro h86
  ·
   refine Qu ?_; refine uP (XG h86) (Qc (Qtg _) rfl rfl rfl) ?_; refine Qu ?_; refine zQ ?_
   exact Qm (by rw [Qr]; simp_all <;> (intros; omega))
  refine QF ?_; refine zQ ?_
  exact Qm (by rw [Qr]; simp_all <;> (intros; omega))
 refine QF ?_
 refine zq ?_ ?_ <;> intro h90
 rotate_left
 ·
  refine QF ?_; refine zP (Qc (K3 _ _ _ _ _) rfl rfl rfl) ?_; refine Qu ?_
  refine zc 157 ?_ ?_ <;> intro h133
  ·
   refine YR ?_; refine zQ ?_
   exact Qm (by rw [Qr]; simp_all <;> (intros; omega))
  refine JA ?_
  refine zq ?_ ?_ <;> intro h140
  ·
   refine Qs ?_; refine zQ ?_
   exact Qm (by rw [Qr]; simp_all <;> (intros; omega))
  refine XB ?_
  have hle : v.ps.length = l.ps.length := by simp_all <;> omega
  have hE : Qt v l = YU v.ps l.ps := by rw [Qr]; simp_all
  refine Ql (fun x : {k : Nat // k ≤ (v.ps).length ∧ YU (v.ps.drop k) (l.ps.drop k) = YU v.ps l.ps} => ⟨[(2, .ptr 0 0), (3, .ptr 1 0), (167, Qad v.ps), (168, i64 v.ps.length), (169, i64 (x.1 : Nat))], [(0, .var 26 (Q2 l)), (1, .var 30 (Qz v))], 2⟩) (fun x => (v.ps).length - x.1) (⟨0, Nat.zero_le _, by simp⟩) ?_ ?_
  ·
   exact Qa rfl (JO ⟨(Q0 (by simp)), rfl, (Xv trivial)⟩) ⟨rfl, rfl, rfl, rfl, rfl, rfl, trivial⟩
  rintro ⟨k, hk, hg⟩
  dsimp only
  refine Jj 167 rfl (fun hl8 => ?_)
  refine QF ?_
  refine zq ?_ ?_ <;> intro h149
  rotate_left
  ·
   have hge : (v.ps).length ≤ k := by simpa using h149
   refine Qv ?_; refine zQ ?_
   exact Qm (by rw [hE, QpP hg hge])
  have hlt : k < (v.ps).length := by simpa using h149
  obtain ⟨x, hx⟩ := Qn hlt
  obtain ⟨q, hq⟩ := Qn (show k < l.ps.length by omega)
  have hOq : YK q := hO.part q (List.mem_of_getElem? hq)
  have hs := QrV hg hx hq
  refine Q8 ?_; refine zP (Qf rfl rfl rfl k rfl _ (QM hx) rfl) ?_; refine Q8 ?_; refine Qd 7 (by kernel_rfl) (by kernel_rfl) ?_
  refine Qs ?_; refine zp (Qf rfl rfl rfl k rfl _ (XK hq) rfl) ?_; refine Qu ?_
  refine zp (Qc (ih x (List.mem_of_getElem? hx) q hOq) rfl rfl rfl) ?_; change Qj _ _ _ _ _ _; refine Qu ?_
  refine zq ?_ ?_ <;> intro h159
  ·
   refine Qs ?_; refine zQ ?_
   exact Qm (by rw [hE, hs]; simp_all)
  refine Qv ?_; refine Qb ?_
  exact ⟨⟨k + 1, hlt, by simp_all⟩, Qa rfl (JH ⟨(Q0 (by dsimp only; omega)), rfl, trivial⟩) ⟨rfl, rfl, rfl, rfl, rfl, rfl, trivial⟩, by dsimp only; omega⟩
 refine Qv ?_; refine zP (Qc (K3 _ _ _ _ _) rfl rfl rfl) ?_; refine Qu ?_
 refine zc 113 ?_ ?_ <;> intro h92
 ·
  refine Qpc ?_; refine zQ ?_
  exact Qm (by rw [Qr]; simp_all <;> (intros; omega))
 refine JA ?_
 refine zc 122 ?_ ?_ <;> intro h99
 ·
  refine X6 ?_; refine zQ ?_
  exact Qm (by rw [Qr]; simp_all <;> (intros; omega))
 refine Qv ?_; refine uP (Xj h99) (Qc (QbB _ _) rfl rfl rfl) ?_; refine Qs ?_
 refine zq ?_ ?_ <;> intro h104
 ·
  refine Qs ?_; refine zQ ?_
  exact Qm (by rw [Qr]; simp_all <;> (intros; omega))
 refine XB ?_
 obtain ⟨a, r, hps⟩ := Qd7 hO.shape (by simp_all)
 have hOa : YK a := hO.part a (by rw [hps]; exact List.mem_cons_self)
 have ha : l.ps[0]? = some a := by rw [hps]; rfl
 have hE : Qt v l = v.ps.all (W5 a) := by rw [Qr]; simp_all [Qah]
 refine Ql (fun x : {k : Nat // k ≤ (v.ps).length ∧ (v.ps.drop k).all (W5 a) = v.ps.all (W5 a)} => ⟨[(2, .ptr 0 0), (3, .ptr 1 0), (131, Qad v.ps), (132, i64 v.ps.length), (133, i64 (x.1 : Nat))], [(0, .var 26 (Q2 l)), (1, .var 30 (Qz v))], 2⟩) (fun x => (v.ps).length - x.1) (⟨0, Nat.zero_le _, by simp⟩) ?_ ?_
 ·
  exact Qa rfl (JO ⟨(Q0 (by simp)), rfl, (Xv trivial)⟩) ⟨rfl, rfl, rfl, rfl, rfl, rfl, trivial⟩
 rintro ⟨k, hk, hg⟩
 dsimp only
 refine Jj 131 rfl (fun hl8 => ?_)
 refine QF ?_
 refine zq ?_ ?_ <;> intro h113
 rotate_left
 ·
  have hge : (v.ps).length ≤ k := by simpa using h113
  refine Qv ?_; refine zQ ?_
  exact Qm (by rw [hE, XU hg hge])
 have hlt : k < (v.ps).length := by simpa using h113
 obtain ⟨x, hx⟩ := Qn hlt
 refine QF ?_; refine zP (Qf rfl rfl rfl k rfl _ (QM hx) rfl) ?_; refine QF ?_; refine Qd 15 (by kernel_rfl) (by kernel_rfl) ?_
 refine Qu ?_; refine zp (Qf rfl rfl rfl 0 rfl _ (XK ha) rfl) ?_; refine Qu ?_
 refine zp (Qc (ih x (List.mem_of_getElem? hx) a hOa) rfl rfl rfl) ?_; refine Qu ?_
 refine zd 144 ?_ ?_ <;> intro h123
 ·
  refine Q4 ?_; change Qj _ _ _ _ _ _; refine Q8 ?_; refine zQ ?_
  exact Qm (by rw [hE, Q3 hg hx (by simp_all [W5])])
 refine Qs ?_; refine vP (Xj (m1 (n0 h123))) (Qf rfl rfl rfl 0 rfl _ (XK ha) rfl) ?_; refine Jk ?_
 refine vP (Xj (m1 (n0 h123))) (Qc (QeA a hOa) rfl rfl rfl) ?_; refine vP (Xj (m1 (n0 h123))) (Qc (QbU _ _) rfl rfl rfl) ?_
 change Qj _ _ _ _ _ _; refine Qu ?_
 refine zq ?_ ?_ <;> intro h130
 ·
  refine Qs ?_; refine zQ ?_
  exact Qm (by rw [hE, Q3 hg hx (by simp_all [W5])])
 refine Qv ?_; refine Qb ?_
 exact ⟨⟨k + 1, hlt, Xx hg hx (by simp_all [W5])⟩, Qa rfl (JH ⟨(Q0 (by dsimp only; omega)), rfl, trivial⟩) ⟨rfl, rfl, rfl, rfl, rfl, rfl, trivial⟩, by dsimp only; omega⟩
theorem Qmj (v : Qw) (l : QD) (hO : YK l) : FC Tryz.prog 109 [.agg (Q2 l), .agg (Qz v)] (bl (Qt v l)) := Qtj v l hO (fun x _ a ha => Qmj x a ha)
termination_by v
decreasing_by exact Qw.sizeOf_ps ‹_›
def XZ (l : QD) (v : Qw) : Bool := (Xp l == 0) && Qt v l
theorem KV (l : QD) (v : Qw) : FC Tryz.prog 62 [.agg (Q2 l), .agg (Qz v)] (bl (XZ l v)) := by
 refine Qg [4] Tryz.func62 rfl rfl 13 Tryz.ntmps62 (Nat.le_of_ble_eq_true rfl) ?_
 intro E hN
 refine JA ?_; refine zP (Qc (Qd5 l) rfl rfl rfl) ?_; refine Qu ?_
 refine zc 8 ?_ ?_ <;> intro h7
 ·
  have h1 : Xp l = 0 := by simpa using h7
  refine Qu ?_; refine uP (XG h7) (Qc (Qmj v l (X0 h1)) rfl rfl rfl) ?_; refine Qu ?_; refine zQ ?_
  exact Qm (by simp_all [XZ])
 refine QF ?_; refine zQ ?_
 exact Qm (by simp_all [XZ])
end Go.Proofs.YtnkkokmmeplbgaaGreat
