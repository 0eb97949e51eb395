/-
  Contracts: elements of a lattice.
-/
import Derived.Test.YtnkkokmmeplbgaaGreatB5
namespace Go.Proofs.YtnkkokmmeplbgaaGreat
set_option maxRecDepth 100000
set_option maxHeartbeats 1000000
open Go.RowKit
def QeR (e f : En) : Bool := !(QeB e.1 f.1 == 1 || QeB e.1 f.1 == 2)
def Qen (l : List En) (e : En) (i : Nat) : Bool := !((e.1.length : Int) == 0) && QV (-1) e.1 && XP e.2 && !(decide ((i : Int) > 0) && (match l[i - 1]? with | some y => decide (Jh y e ≥ 0) | none => false)) && (l.take i).all (QeR e)
def Qfp (l : List En) (p : En × Nat) : Bool := Qen l p.1 p.2
def Qju (l : List En) : Bool := l.zipIdx.all (Qfp l)
theorem XI {l : List En} {k : Nat} {x : En} (h : l[k]? = some x) : l.zipIdx[k]? = some (x, k) := by simp [h]
theorem Qba (l : List En) : l.zipIdx.length = l.length := by simp
mutual
def Qn : Qv → Qp
 | .mk k lo hi _ ps _ => .mk (if k == 2 then lo else if k == 3 then hi else 0) [] (if k == 6 || k == 7 then Qdg ps else []) []
def Qdg : List Qv → List Qp
 | [] => []
 | p :: r => Qn p :: Qdg r
end
theorem Qeu : ∀ l : List Qv, Qdg l = l.map Qn
 | [] => by simp [Qdg]
 | p :: r => by simp only [Qdg, List.map_cons]; rw [Qeu r]
theorem JG (l : Qv) : Qn l = .mk (if l.k == 2 then l.lo else if l.k == 3 then l.hi else 0) [] (if l.k == 6 || l.k == 7 then l.ps.map Qn else []) [] := by
 cases l with
 | mk k lo hi nm ps rs => rw [Qn, Qeu]; rfl
theorem Y7 (v : Qp) : okE 4 (KV v) = true := by rw [W0]; rfl
theorem XM (a b c d : AV) : JI 4 1 [a, b, c, d] = [[a, b, c, d]] := rfl
theorem cgV {tt : TypeId} {a b d : AV} {es es' : List (List AV)} {tk : Option Nat} (h : es = es') : some (Qs.var tt [a, b, .sl es tk, d]) = some (Qs.var tt [a, b, .sl es' tk, d]) := by rw [h]
theorem QeP {l : List Qv} {k : Nat} {x : Qv} (h : l[k]? = some x) : (((l.take k).map Qn).map KV) ++ JI 4 1 (QF (Qn x)) = (((l.take (k + 1)).map Qn).map KV) := by
 rw [XM, List.take_add_one, h]
 simp [W0]
theorem QhO {a b c d a' b' c' d' : AV} (h1 : a = a') (h2 : b = b') (h3 : c = c') (h4 : d = d') : AV.agg [a, b, c, d] = AV.agg [a', b', c', d'] := by rw [h1, h2, h3, h4]
inductive YM : Qv → Prop
 | mk (l : Qv) (h1 : Xr l = 0) (h2 : orE [JK l, Jy l, Jb l, Jz l] = 0) (h3 : l.ps.length ≤ 64) (h4 : ∀ p ∈ l.ps, YM p) : YM l
theorem QiM : ∀ (f : Nat) (l : Qv) (n : Int), 0 ≤ n → (Xd f l n).1 = 0 → YM l ∧ n + 1 ≤ (Xd f l n).2 ∧ (Xd f l n).2 ≤ 64
 | 0, l, n, _, h => by simp [Xd] at h
 | f + 1, l, n, hn, h => by
  by_cases h64 : n ≥ 64
  ·rw [QkG h64] at h; simp at h
  have h64 : n < 64 := by omega
  cases hs : Xr l != 0 with
  | true => rw [QeA h64 hs] at h; simp at h; simp [h] at hs
  | false =>
   cases ho : orE [JK l, Jy l, Jb l, Jz l] != 0 with
   | true => rw [Qqp h64 hs ho] at h; simp at h; simp [h] at ho
   | false =>
    rw [Qb7 h64 hs ho] at h ⊢
    have key : ∀ (q : Qv) (m : Int), 0 ≤ m → (Xd f q m).1 = 0 → YM q ∧ m + 1 ≤ (Xd f q m).2 ∧ (Xd f q m).2 ≤ 64 := fun q m hm hq => QiM f q m hm hq
    have all : ∀ (ps : List Qv) (m : Int), 0 ≤ m → m ≤ 64 → (JM (Xd f) ps m).1 = 0 → (∀ p ∈ ps, YM p) ∧ m + ps.length ≤ (JM (Xd f) ps m).2 ∧ (JM (Xd f) ps m).2 ≤ 64 := by
     intro ps
     induction ps with
     | nil => intro m _ h1 _; simpa [JM] using h1
     | cons q r ih =>
      intro m h0 h1 h2
      unfold JM at h2 ⊢
      split at h2
      ·rename_i hz
       rw [if_pos hz];obtain ⟨k1, k2, k3⟩ := key q m h0 (by simpa using hz);obtain ⟨k4, k5, k6⟩ := ih _ (by omega) k3 h2;refine ⟨fun p hp => ?_, by simp only [List.length_cons]; omega, k6⟩
       rcases List.mem_cons.1 hp with rfl | hp
       ·exact k1
       exact k4 p hp
      rename_i hz
      exact absurd (by simpa using h2) hz
    obtain ⟨k1, k2, k3⟩ := all l.ps (n + 1) (by omega) (by omega) h;exact ⟨.mk l (by simpa using hs) (by simpa using ho) (by omega) k1, by omega, k3⟩
theorem Xb {l : Qv} (h : QB l = 0) : YM l := (QiM 6 l 0 (by decide) h).1
theorem YM.shape {l : Qv} (h : YM l) : Xr l = 0 := by cases h; assumption
theorem YM.small {l : Qv} (h : YM l) : l.ps.length ≤ 64 := by cases h; assumption
theorem YM.part {l : Qv} (h : YM l) : ∀ p ∈ l.ps, YM p := by cases h; assumption
theorem Qu4 (l : List En) : FC Tryz.prog 141 [WA l] (bl (Qju l)) := by
 refine Qh [2] Tryz.func141 rfl rfl 66 Tryz.ntmps141 (Nat.le_of_ble_eq_true rfl) ?_
 intro E hN;refine Jq 0 rfl (fun hl0 => ?_);refine Jx ?_;refine Qm (fun x : {k : Nat // k ≤ (l).length ∧ (l.zipIdx.drop k).all (Qfp l) = l.zipIdx.all (Qfp l)} => ⟨[(0, WA l), (8, WA l), (9, i64 l.length), (10, i64 (x.1 : Nat))], [], 0⟩) (fun x => (l).length - x.1) (⟨0, Nat.zero_le _, by simp⟩) ?_ ?_
 ·exact Qa rfl (Yf ⟨(Y6 (by simp)), rfl, (XE trivial)⟩) trivial
 rintro ⟨k, hk, hg⟩;dsimp only;refine Qy ?_
 refine zq ?_ ?_ <;> intro h7
 rotate_left
 ·have hge : (l).length ≤ k := by simpa using h7
  refine QC ?_;refine zQ ?_;exact Qo (X4 hg (by rw [Qba]; exact hge)).symm
 have hlt : k < (l).length := by simpa using h7
 obtain ⟨x, hx⟩ := Qq hlt;refine Xk ?_;refine zP (Qf rfl rfl rfl k rfl _ (Qi hx) rfl) ?_;refine Xg ?_;refine zD 29 ?_;refine Qy ?_
 refine zd 19 ?_ ?_ <;> intro h15
 ·refine QaZ ?_;refine Xk ?_;refine zQ ?_;exact Qo (Q6 hg (XI hx) (by simp_all [Qfp, Qen])).symm
 refine QH ?_;refine vP (X0 h15) (Qd (Qb3 _) rfl rfl rfl) ?_;refine QD ?_
 refine zd 25 ?_ ?_ <;> intro h18
 ·refine QaZ ?_;refine zQ ?_;exact Qo (Q6 hg (XI hx) (by simp_all [Qfp, Qen])).symm
 refine QH ?_;refine vP (X0 (m1 (n0 h18))) (Qd (QeK _) rfl rfl rfl) ?_;refine QD ?_
 refine zd 31 ?_ ?_ <;> intro h21
 ·refine Wn ?_;refine zQ ?_;exact Qo (Q6 hg (XI hx) (by simp_all [Qfp, Qen])).symm
 refine QD ?_
 refine zd 34 ?_ ?_ <;> intro h22
 rotate_left
 ·refine Xo ?_;refine vP (X0 (m1 (n0 h21))) (Xx rfl rfl h22 rfl) ?_;refine Xo ?_;refine zP (QtT rfl rfl rfl k rfl (by omega) (by exact fun _ => rfl)) ?_;refine QC ?_;refine Qm (fun x1 : {j : Nat // j ≤ (l.take k).length ∧ ((l.take k).drop j).all (QeR x) = (l.take k).all (QeR x)} => ⟨[(0, WA l), (4, .ptr 0 0), (8, WA l), (9, i64 l.length), (10, i64 (k : Nat)), (47, WA (l.take k)), (48, i64 (l.take k).length), (49, i64 (x1.1 : Nat))], [(0, .var 149 (K3 x))], 1⟩) (fun x1 => (l.take k).length - x1.1) (⟨0, Nat.zero_le _, by simp⟩) ?_ ?_
  ·exact Qa rfl (YO (Yf ⟨(Y6 (by simp)), rfl, (XE trivial)⟩)) ⟨rfl, rfl, rfl, trivial⟩
  rintro ⟨j, hj, hgj⟩;dsimp only
  have htk : (l.take k).length ≤ l.length := by simp; omega
  refine Qy ?_
  refine zq ?_ ?_ <;> intro h63
  rotate_left
  ·have hgej : (l.take k).length ≤ j := by simpa using h63
   have hA := X4 hgj hgej
   refine QC ?_;refine Qb ?_;exact ⟨⟨k + 1, hlt, XG hg (XI hx) (by simp_all [Qfp, Qen])⟩, Qa rfl (JZ ⟨X5, rfl, trivial⟩) trivial, by dsimp only; omega⟩
  have hltj : j < (l.take k).length := by simpa using h63
  obtain ⟨y2, hy2⟩ := Qq hltj;refine Qy ?_;refine zP (Qf rfl rfl rfl j rfl _ (Qi hy2) rfl) ?_;refine Xs ?_;refine zP (Qd (Qge _ _) rfl rfl rfl) ?_;refine Xg ?_
  refine zc 60 ?_ ?_ <;> intro h73
  ·refine Xo ?_;refine zQ ?_;exact Qo (Q6 hg (XI hx) (by rw [Qfp, Qen, Q6 hgj hy2 (by simp_all [QeR])]; simp)).symm
  refine QC ?_
  refine zq ?_ ?_ <;> intro h74
  ·refine QD ?_;refine zQ ?_;exact Qo (Q6 hg (XI hx) (by rw [Qfp, Qen, Q6 hgj hy2 (by simp_all [QeR])]; simp)).symm
  refine QC ?_;refine Qb ?_;exact ⟨⟨j + 1, hltj, XG hgj hy2 (by simp_all [QeR])⟩, Qa rfl (YO (JZ ⟨X5, rfl, trivial⟩)) ⟨rfl, rfl, rfl, trivial⟩, by dsimp only; omega⟩
 have hk0 : 0 < k := by simpa using h22
 obtain ⟨y, hy⟩ := Qq (show k - 1 < l.length by omega);refine QH ?_;refine vP (XO h22) (Kb rfl rfl rfl (by omega)) ?_;refine vP (XO h22) (Qf rfl rfl rfl (k - 1) (by omega) _ (Qi hy) rfl) ?_;refine QH ?_;refine vP (XO h22) (Qd (QkD _ _) rfl rfl rfl) ?_;refine JB ?_;refine vP (X0 (m1 (n0 h21))) (XF rfl rfl h22 rfl) ?_;refine QH ?_
 refine zq ?_ ?_ <;> intro h28
 ·refine QD ?_;refine zQ ?_;exact Qo (Q6 hg (XI hx) (by simp_all [Qfp, Qen])).symm
 refine Qy ?_;refine zP (QtT rfl rfl rfl k rfl (by omega) (by exact fun _ => rfl)) ?_;refine QC ?_;refine Qm (fun x1 : {j : Nat // j ≤ (l.take k).length ∧ ((l.take k).drop j).all (QeR x) = (l.take k).all (QeR x)} => ⟨[(0, WA l), (4, .ptr 0 0), (8, WA l), (9, i64 l.length), (10, i64 (k : Nat)), (47, WA (l.take k)), (48, i64 (l.take k).length), (49, i64 (x1.1 : Nat))], [(0, .var 149 (K3 x))], 1⟩) (fun x1 => (l.take k).length - x1.1) (⟨0, Nat.zero_le _, by simp⟩) ?_ ?_
 ·exact Qa rfl (YO (Yf ⟨(Y6 (by simp)), rfl, (XE trivial)⟩)) ⟨rfl, rfl, rfl, trivial⟩
 rintro ⟨j, hj, hgj⟩;dsimp only
 have htk : (l.take k).length ≤ l.length := by simp; omega
 refine Qy ?_
 refine zq ?_ ?_ <;> intro h39
 rotate_left
 ·have hgej : (l.take k).length ≤ j := by simpa using h39
  have hA := X4 hgj hgej
  refine QC ?_;refine Qb ?_;exact ⟨⟨k + 1, hlt, XG hg (XI hx) (by simp_all [Qfp, Qen])⟩, Qa rfl (JZ ⟨X5, rfl, trivial⟩) trivial, by dsimp only; omega⟩
 have hltj : j < (l.take k).length := by simpa using h39
 obtain ⟨y2, hy2⟩ := Qq hltj;refine Qy ?_;refine zP (Qf rfl rfl rfl j rfl _ (Qi hy2) rfl) ?_;refine Xs ?_;refine zP (Qd (Qge _ _) rfl rfl rfl) ?_;refine Xg ?_
 refine zc 60 ?_ ?_ <;> intro h49
 ·refine Xo ?_;refine zQ ?_;exact Qo (Q6 hg (XI hx) (by rw [Qfp, Qen, Q6 hgj hy2 (by simp_all [QeR])]; simp)).symm
 refine QC ?_
 refine zq ?_ ?_ <;> intro h50
 ·refine QD ?_;refine zQ ?_;exact Qo (Q6 hg (XI hx) (by rw [Qfp, Qen, Q6 hgj hy2 (by simp_all [QeR])]; simp)).symm
 refine QC ?_;refine Qb ?_;exact ⟨⟨j + 1, hltj, XG hgj hy2 (by simp_all [QeR])⟩, Qa rfl (YO (JZ ⟨X5, rfl, trivial⟩)) ⟨rfl, rfl, rfl, trivial⟩, by dsimp only; omega⟩
theorem Qqn (l : Qv) (hp : l.ps.length ≤ 64) (ih : ∀ p ∈ l.ps, FC Tryz.prog 133 [.agg (Q2 p)] (.agg (QF (Qn p)))) : FC Tryz.prog 133 [.agg (Q2 l)] (.agg (QF (Qn l))) := by
 refine Ju [.c 2 30 4 true] ⟨⟨inferInstance, rfl⟩, trivial⟩ Tryz.func133 rfl rfl 37 Tryz.ntmps133 (Nat.le_of_ble_eq_true rfl) ?_
 intro E hN;refine QjC ?_
 refine zq ?_ ?_ <;> intro h7
 ·refine Xn ?_;refine Qg ?_;change (resY _ _).bind AV.fzt = some _;refine Xm rfl ?_;rw [JG];refine QhO (QZ ?_) rfl ?_ rfl
  ·simp_all [Qp.N]
  first | (simp_all [Qp.ps]; done) | (refine Qd9 ?_; simp_all [Qp.ps, List.take_of_length_le])
 refine Qy ?_
 refine zq ?_ ?_ <;> intro h14
 ·refine Xn ?_;refine Qg ?_;change (resY _ _).bind AV.fzt = some _;refine Xm rfl ?_;rw [JG];refine QhO (QZ ?_) rfl ?_ rfl
  ·simp_all [Qp.N]
  first | (simp_all [Qp.ps]; done) | (refine Qd9 ?_; simp_all [Qp.ps, List.take_of_length_le])
 refine Xk ?_
 refine zq ?_ ?_ <;> intro h21
 ·refine Xs ?_;refine Qx (Yh rfl 2 2 30 4 rfl rfl rfl) ?_
  refine Qm (fun x : {k : Nat // k ≤ (l.ps).length ∧ True} => ⟨[(2, .ptr 1 0), (3, .ptr 2 0), (22, Qkk l.ps), (23, i64 l.ps.length), (24, i64 (x.1 : Nat))], [(1, .var 30 [i64 0, .p (.slice none 0 0), .p (.slice none 0 0), .p (.slice none 0 0)]), (2, .var 30 [i64 0, .p (.slice none 0 0), .sl (((l.ps.take x.1).map Qn).map KV) (some 3), .p (.slice none 0 0)]), (3, .tok 30 4 ((l.ps.take x.1).map Qn).length)], 4⟩) (fun x => (l.ps).length - x.1) (⟨0, Nat.zero_le _, by simp⟩) ?_ ?_
  ·exact Qa rfl (JZ ⟨(Y6 (by simp)), rfl, (XE trivial)⟩) ⟨rfl, rfl, rfl, rfl, rfl, rfl, rfl, rfl, rfl, trivial⟩
  rintro ⟨k, hk, hg⟩;dsimp only;refine Jq 22 rfl (fun hl8 => ?_);refine Qy ?_
  refine zq ?_ ?_ <;> intro h30
  rotate_left
  ·have hge : (l.ps).length ≤ k := by simpa using h30
   refine Xk ?_;refine Qg ?_;change (resY _ _).bind AV.fzt = some _;refine Xm rfl ?_;rw [JG];refine QhO (QZ ?_) rfl ?_ rfl
   ·simp_all [Qp.N]
   first | (simp_all [Qp.ps]; done) | (refine Qd9 ?_; simp_all [Qp.ps, List.take_of_length_le])
  have hlt : k < (l.ps).length := by simpa using h30
  obtain ⟨x, hx⟩ := Qq hlt;refine Qy ?_;refine zP (Qf rfl rfl rfl k rfl _ (XK hx) rfl) ?_;refine QC ?_;refine zD 5 ?_;refine QD ?_;refine zp (Qd (ih x (List.mem_of_getElem? hx)) rfl rfl rfl) ?_;refine zp (QG rfl rfl rfl rfl (by exact rfl) (by decide) (by decide)) ?_;refine QM hN rfl rfl rfl (by simp) rfl rfl (QP Y7 _) rfl (by simp [XM]; omega) rfl rfl rfl rfl ?_;refine Xk ?_;refine Qb ?_
  exact ⟨⟨k + 1, hlt, trivial⟩, Qa rfl (YO ⟨X5, rfl, trivial⟩) ⟨rfl, rfl, rfl, (cgV (QeP hx)), rfl, rfl, (cgT (by simp [XM]; omega)), rfl, rfl, trivial⟩, by dsimp only; omega⟩
 refine QC ?_
 refine zq ?_ ?_ <;> intro h46
 rotate_left
 ·refine Xk ?_;refine Qg ?_;change (resY _ _).bind AV.fzt = some _;refine Xm rfl ?_;rw [JG];refine QhO (QZ ?_) rfl ?_ rfl
  ·simp_all [Qp.N]
  first | (simp_all [Qp.ps]; done) | (refine Qd9 ?_; simp_all [Qp.ps, List.take_of_length_le])
 refine Xo ?_;refine Qx (Yh rfl 2 2 30 4 rfl rfl rfl) ?_
 refine Qm (fun x : {k : Nat // k ≤ (l.ps).length ∧ True} => ⟨[(2, .ptr 1 0), (3, .ptr 2 0), (22, Qkk l.ps), (23, i64 l.ps.length), (24, i64 (x.1 : Nat))], [(1, .var 30 [i64 0, .p (.slice none 0 0), .p (.slice none 0 0), .p (.slice none 0 0)]), (2, .var 30 [i64 0, .p (.slice none 0 0), .sl (((l.ps.take x.1).map Qn).map KV) (some 3), .p (.slice none 0 0)]), (3, .tok 30 4 ((l.ps.take x.1).map Qn).length)], 4⟩) (fun x => (l.ps).length - x.1) (⟨0, Nat.zero_le _, by simp⟩) ?_ ?_
 ·exact Qa rfl (JZ ⟨(Y6 (by simp)), rfl, (XE trivial)⟩) ⟨rfl, rfl, rfl, rfl, rfl, rfl, rfl, rfl, rfl, trivial⟩
 rintro ⟨k, hk, hg⟩;dsimp only;refine Jq 22 rfl (fun hl8 => ?_);refine Qy ?_
 refine zq ?_ ?_ <;> intro h55
 rotate_left
 ·have hge : (l.ps).length ≤ k := by simpa using h55
  refine Xk ?_;refine Qg ?_;change (resY _ _).bind AV.fzt = some _;refine Xm rfl ?_;rw [JG];refine QhO (QZ ?_) rfl ?_ rfl
  ·simp_all [Qp.N]
  first | (simp_all [Qp.ps]; done) | (refine Qd9 ?_; simp_all [Qp.ps, List.take_of_length_le])
 have hlt : k < (l.ps).length := by simpa using h55
 obtain ⟨x, hx⟩ := Qq hlt;refine Qy ?_;refine zP (Qf rfl rfl rfl k rfl _ (XK hx) rfl) ?_;refine QC ?_;refine zD 5 ?_;refine QD ?_;refine zp (Qd (ih x (List.mem_of_getElem? hx)) rfl rfl rfl) ?_;refine zp (QG rfl rfl rfl rfl (by exact rfl) (by decide) (by decide)) ?_;refine QM hN rfl rfl rfl (by simp) rfl rfl (QP Y7 _) rfl (by simp [XM]; omega) rfl rfl rfl rfl ?_;refine Xk ?_;refine Qb ?_
 exact ⟨⟨k + 1, hlt, trivial⟩, Qa rfl (YO ⟨X5, rfl, trivial⟩) ⟨rfl, rfl, rfl, (cgV (QeP hx)), rfl, rfl, (cgT (by simp [XM]; omega)), rfl, rfl, trivial⟩, by dsimp only; omega⟩
theorem Qdx (l : Qv) (h : YM l) : FC Tryz.prog 133 [.agg (Q2 l)] (.agg (QF (Qn l))) := Qqn l h.small (fun p hp => Qdx p (h.part p hp))
termination_by l
decreasing_by exact Qv.sizeOf_ps ‹_›
def YC (l : Qv) : Qp × Int := if QB l = 0 then (Qn l, 0) else (.zero, 1)
theorem Qi0 (l : Qv) : FC Tryz.prog 107 [.agg (Q2 l)] (.tup [.agg (QF (YC l).1), i64 (YC l).2]) := by
 refine Ju [.c 2 30 4 true, .t 3] ⟨⟨inferInstance, rfl⟩, trivial⟩ Tryz.func107 rfl rfl 10 Tryz.ntmps107 (Nat.le_of_ble_eq_true rfl) ?_
 intro E hN;refine Xs ?_;refine zP (Qd (QbG l) rfl rfl rfl) ?_;refine QH ?_
 refine zq ?_ ?_ <;> intro h6
 ·have h1 : ¬ QB l = 0 := by simpa using h6
  refine Xk ?_;refine Qg ?_;change (resY _ _).bind AV.fzt = some _;refine Xm rfl ?_
  rw [YC, if_neg h1]; rfl
 have h1 : QB l = 0 := by simpa using h6
 refine QC ?_;refine zP (Qd (Qdx l (Xb h1)) rfl rfl rfl) ?_;refine QD ?_;refine Qg ?_;change (resY _ _).bind AV.fzt = some _;refine Xm rfl ?_;rw [YC, if_pos h1]
end Go.Proofs.YtnkkokmmeplbgaaGreat
namespace Go.Proofs.YtnkkokmmeplbgaaGreat
set_option maxRecDepth 100000
set_option maxHeartbeats 1000000
open Go.RowKit
mutual
def Qw : Qp → Qv → Bool
 | .mk N nm ps es, l =>
  if l.k == 1 then Q9 (.mk N nm ps es) true false false false && (N == 0 || N == 1)
  else if l.k == 2 || l.k == 3 then Q9 (.mk N nm ps es) true false false false && decide (l.lo ≤ N) && decide (N ≤ l.hi)
  else if l.k == 4 then Q9 (.mk N nm ps es) false true false false && Jg l.nm nm
  else if l.k == 10 then Q9 (.mk N nm ps es) false true false false && Jg l.nm nm && WS l.rs nm
  else if l.k == 8 then (if N == 0 || N == 2 then Q9 (.mk N nm ps es) true false false false else if N == 1 then Q9 (.mk N nm ps es) true true false false && (nm.length : Int) == 1 && Jg l.nm nm else false)
  else if l.k == 9 then Q9 (.mk N nm ps es) false false false true && Qju es
  else if l.k == 5 then Q9 (.mk N nm ps es) false true true false && ((nm.length : Int) == ps.length) && Jg l.nm nm && (match l.ps with | a :: _ => QiB ps a | [] => false)
  else Q9 (.mk N nm ps es) false false true false && ((ps.length : Int) == l.ps.length) && Kj ps l.ps
def QiB : List Qp → Qv → Bool
 | [], _ => true
 | p :: r, a => (Qw p a && !WH p (Qn a)) && QiB r a
def Kj : List Qp → List Qv → Bool
 | [], _ => true
 | p :: r, q :: s => Qw p q && Kj r s
 | _ :: _, [] => false
end
def QaO (a : Qv) (p : Qp) : Bool := Qw p a && !WH p (Qn a)
theorem Qa4 (a : Qv) : ∀ l : List Qp, QiB l a = l.all (QaO a)
 | [] => by simp [QiB]
 | p :: r => by rw [QiB, List.all_cons, Qa4 a r]; rfl
theorem Qu (v : Qp) (l : Qv) : Qw v l =
  if l.k == 1 then Q9 v true false false false && (v.N == 0 || v.N == 1)
  else if l.k == 2 || l.k == 3 then Q9 v true false false false && decide (l.lo ≤ v.N) && decide (v.N ≤ l.hi)
  else if l.k == 4 then Q9 v false true false false && Jg l.nm v.nm
  else if l.k == 10 then Q9 v false true false false && Jg l.nm v.nm && WS l.rs v.nm
  else if l.k == 8 then (if v.N == 0 || v.N == 2 then Q9 v true false false false else if v.N == 1 then Q9 v true true false false && (v.nm.length : Int) == 1 && Jg l.nm v.nm else false)
  else if l.k == 9 then Q9 v false false false true && Qju v.es
  else if l.k == 5 then Q9 v false true true false && ((v.nm.length : Int) == v.ps.length) && Jg l.nm v.nm && (match l.ps with | a :: _ => QiB v.ps a | [] => false)
  else Q9 v false false true false && ((v.ps.length : Int) == l.ps.length) && Kj v.ps l.ps := by
 cases v with
 | mk N nm ps es => rw [Qw]; rfl
section
variable {vs : List Qp} {ls : List Qv} {k : Nat} {x : Qp} {q : Qv} {b : Bool}
theorem Quf (hg : Kj (vs.drop k) (ls.drop k) = b) (hx : vs[k]? = some x) (hq : ls[k]? = some q) : b = (Qw x q && Kj (vs.drop (k + 1)) (ls.drop (k + 1))) := by
 rw [← hg, XC hx, XC hq, Kj]
theorem Qqy (hg : Kj (vs.drop k) (ls.drop k) = b) (h : vs.length ≤ k) : b = true := by
 rw [← hg, List.drop_of_length_le h, Kj]
end
theorem QeZ {l : Qv} (h : Xr l = 0) (hk : l.k = 5) : ∃ a r, l.ps = a :: r := by
 unfold Xr at h
 rw [if_pos (by rw [hk]; decide)] at h
 have hb : KN l = false := by
  cases hb : KN l
  ·rfl
  rw [hb] at h; simp [Yb] at h
 cases hp : l.ps with
 | cons a r => exact ⟨a, r, rfl⟩
 | nil => simp [KN, J3, hk, hp] at hb
theorem Qu9 (v : Qp) (l : Qv) (hO : YM l) (ih : ∀ x ∈ v.ps, ∀ a, YM a → FC Tryz.prog 109 [.agg (Q2 a), .agg (QF x)] (bl (Qw x a))) : FC Tryz.prog 109 [.agg (Q2 l), .agg (QF v)] (bl (Qw v l)) := by
 refine Qh [4] Tryz.func109 rfl rfl 183 Tryz.ntmps109 (Nat.le_of_ble_eq_true rfl) ?_
 intro E hN;refine Wn ?_
 refine zq ?_ ?_ <;> intro h7
 ·refine QD ?_;refine zP (Qd (WC _ _ _ _ _) rfl rfl rfl) ?_;refine zM ?_
  refine zc 15 ?_ ?_ <;> intro h9
  rotate_left
  ·refine Xs ?_;refine zQ ?_;exact Qo (by rw [Qu]; simp_all <;> (intros; omega))
  refine QC ?_
  refine zc 19 ?_ ?_ <;> intro h12
  ·refine QD ?_;refine uP (XO h9) (XF rfl rfl h12 rfl) ?_;refine QH ?_;refine zQ ?_;exact Qo (by rw [Qu]; simp_all <;> (intros; omega))
  refine QD ?_;refine uP (XO h9) (Xx rfl rfl h12 rfl) ?_;refine QH ?_;refine zQ ?_;exact Qo (by rw [Qu]; simp_all <;> (intros; omega))
 refine Xk ?_
 refine zq ?_ ?_ <;> intro h16
 ·refine Qy ?_;refine zP (Qd (WC _ _ _ _ _) rfl rfl rfl) ?_;refine zM ?_
  refine zc 30 ?_ ?_ <;> intro h18
  rotate_left
  ·refine YI ?_;refine zQ ?_;exact Qo (by rw [Qu]; simp_all <;> (intros; omega))
  refine Xg ?_
  refine zc 37 ?_ ?_ <;> intro h23
  ·refine Xg ?_;refine zQ ?_;exact Qo (by rw [Qu]; simp_all <;> (intros; omega))
  refine Xg ?_;refine zQ ?_;exact Qo (by rw [Qu]; simp_all <;> (intros; omega))
 refine QC ?_
 refine zq ?_ ?_ <;> intro h29
 ·refine QD ?_;refine zP (Qd (WC _ _ _ _ _) rfl rfl rfl) ?_;refine zM ?_
  refine zc 30 ?_ ?_ <;> intro h31
  rotate_left
  ·refine YI ?_;refine zQ ?_;exact Qo (by rw [Qu]; simp_all <;> (intros; omega))
  refine Xg ?_
  refine zc 37 ?_ ?_ <;> intro h36
  ·refine Xg ?_;refine zQ ?_;exact Qo (by rw [Qu]; simp_all <;> (intros; omega))
  refine Xg ?_;refine zQ ?_;exact Qo (by rw [Qu]; simp_all <;> (intros; omega))
 refine Qy ?_
 refine zq ?_ ?_ <;> intro h42
 ·refine QD ?_;refine zP (Qd (WC _ _ _ _ _) rfl rfl rfl) ?_;refine zM ?_
  refine zc 48 ?_ ?_ <;> intro h44
  ·refine QC ?_;refine uP (XO h44) (Qd (Qck _ _) rfl rfl rfl) ?_;refine QH ?_;refine zQ ?_;exact Qo (by rw [Qu]; simp_all <;> (intros; omega))
  refine Xg ?_;refine zQ ?_;exact Qo (by rw [Qu]; simp_all <;> (intros; omega))
 refine Qy ?_
 refine zq ?_ ?_ <;> intro h50
 ·refine QD ?_;refine zP (Qd (WC _ _ _ _ _) rfl rfl rfl) ?_;refine zM ?_
  refine zc 59 ?_ ?_ <;> intro h52
  rotate_left
  ·refine YI ?_;refine zQ ?_;exact Qo (by rw [Qu]; simp_all <;> (intros; omega))
  refine QC ?_;refine uP (XO h52) (Qd (Qck _ _) rfl rfl rfl) ?_;refine QH ?_
  refine zc 66 ?_ ?_ <;> intro h57
  ·refine QC ?_;refine uP (XO h57) (Qd (Qpg _ _) rfl rfl rfl) ?_;refine QH ?_;refine zQ ?_;exact Qo (by rw [Qu]; simp_all <;> (intros; omega))
  refine Xg ?_;refine zQ ?_;exact Qo (by rw [Qu]; simp_all <;> (intros; omega))
 refine Qy ?_
 refine zq ?_ ?_ <;> intro h63
 ·refine WV ?_
  refine zq ?_ ?_ <;> intro h66
  ·refine Qy ?_;refine zP (Qd (WC _ _ _ _ _) rfl rfl rfl) ?_;refine zS ?_;refine zQ ?_;exact Qo (by rw [Qu]; simp_all <;> (intros; omega))
  refine QC ?_
  refine zq ?_ ?_ <;> intro h69
  ·refine QD ?_;refine zP (Qd (WC _ _ _ _ _) rfl rfl rfl) ?_;refine zS ?_;refine zQ ?_;exact Qo (by rw [Qu]; simp_all <;> (intros; omega))
  refine Qy ?_
  refine zq ?_ ?_ <;> intro h72
  rotate_left
  ·refine QC ?_;refine zQ ?_;exact Qo (by rw [Qu]; simp_all <;> (intros; omega))
  refine QD ?_;refine zP (Qd (WC _ _ _ _ _) rfl rfl rfl) ?_;refine zM ?_
  refine zc 86 ?_ ?_ <;> intro h74
  rotate_left
  ·refine WV ?_;refine zQ ?_;exact Qo (by rw [Qu]; simp_all <;> (intros; omega))
  refine Xk ?_
  refine zc 92 ?_ ?_ <;> intro h78
  ·refine QC ?_;refine uP (XO h78) (Qd (Qck _ _) rfl rfl rfl) ?_;refine QH ?_;refine zQ ?_;exact Qo (by rw [Qu]; simp_all <;> (intros; omega))
  refine Xg ?_;refine zQ ?_;exact Qo (by rw [Qu]; simp_all <;> (intros; omega))
 refine Qy ?_
 refine zq ?_ ?_ <;> intro h84
 ·refine QD ?_;refine zP (Qd (WC _ _ _ _ _) rfl rfl rfl) ?_;refine zM ?_
  refine zc 103 ?_ ?_ <;> intro h86
  ·refine QH ?_;refine uP (XO h86) (Qd (Qu4 _) rfl rfl rfl) ?_;refine QH ?_;refine zQ ?_;exact Qo (by rw [Qu]; simp_all <;> (intros; omega))
  refine Qy ?_;refine zQ ?_;exact Qo (by rw [Qu]; simp_all <;> (intros; omega))
 refine Qy ?_
 refine zq ?_ ?_ <;> intro h90
 rotate_left
 ·refine Qy ?_;refine zP (Qd (WC _ _ _ _ _) rfl rfl rfl) ?_;refine QH ?_
  refine zc 157 ?_ ?_ <;> intro h133
  ·refine WV ?_;refine zQ ?_;exact Qo (by rw [Qu]; simp_all <;> (intros; omega))
  refine X3 ?_
  refine zq ?_ ?_ <;> intro h140
  ·refine QD ?_;refine zQ ?_;exact Qo (by rw [Qu]; simp_all <;> (intros; omega))
  refine Xs ?_
  have hle : v.ps.length = l.ps.length := by simp_all <;> omega
  have hE : Qw v l = Kj v.ps l.ps := by rw [Qu]; simp_all
  refine Qm (fun x : {k : Nat // k ≤ (v.ps).length ∧ Kj (v.ps.drop k) (l.ps.drop k) = Kj v.ps l.ps} => ⟨[(2, .ptr 0 0), (3, .ptr 1 0), (167, Y8 v.ps), (168, i64 v.ps.length), (169, i64 (x.1 : Nat))], [(0, .var 26 (Q2 l)), (1, .var 30 (QF v))], 2⟩) (fun x => (v.ps).length - x.1) (⟨0, Nat.zero_le _, by simp⟩) ?_ ?_
  ·exact Qa rfl (JZ ⟨(Y6 (by simp)), rfl, (XE trivial)⟩) ⟨rfl, rfl, rfl, rfl, rfl, rfl, trivial⟩
  rintro ⟨k, hk, hg⟩;dsimp only;refine Jq 167 rfl (fun hl8 => ?_);refine Qy ?_
  refine zq ?_ ?_ <;> intro h149
  rotate_left
  ·have hge : (v.ps).length ≤ k := by simpa using h149
   refine QC ?_;refine zQ ?_;exact Qo (by rw [hE, Qqy hg hge])
  have hlt : k < (v.ps).length := by simpa using h149
  obtain ⟨x, hx⟩ := Qq hlt;obtain ⟨q, hq⟩ := Qq (show k < l.ps.length by omega)
  have hOq : YM q := hO.part q (List.mem_of_getElem? hq)
  have hs := Quf hg hx hq
  refine Xk ?_;refine zP (Qf rfl rfl rfl k rfl _ (QR hx) rfl) ?_;refine Xk ?_;refine zD 7 ?_;refine QD ?_;refine zp (Qf rfl rfl rfl k rfl _ (XK hq) rfl) ?_;refine QH ?_;refine zp (Qd (ih x (List.mem_of_getElem? hx) q hOq) rfl rfl rfl) ?_;refine QH ?_
  refine zq ?_ ?_ <;> intro h159
  ·refine QD ?_;refine zQ ?_;exact Qo (by rw [hE, hs]; simp_all)
  refine QC ?_;refine Qb ?_;exact ⟨⟨k + 1, hlt, by simp_all⟩, Qa rfl (YO ⟨X5, rfl, trivial⟩) ⟨rfl, rfl, rfl, rfl, rfl, rfl, trivial⟩, by dsimp only; omega⟩
 refine QC ?_;refine zP (Qd (WC _ _ _ _ _) rfl rfl rfl) ?_;refine QH ?_
 refine zc 113 ?_ ?_ <;> intro h92
 ·refine QjC ?_;refine zQ ?_;exact Qo (by rw [Qu]; simp_all <;> (intros; omega))
 refine X3 ?_
 refine zc 122 ?_ ?_ <;> intro h99
 ·refine Jx ?_;refine zQ ?_;exact Qo (by rw [Qu]; simp_all <;> (intros; omega))
 refine QC ?_;refine uP (X0 h99) (Qd (Qck _ _) rfl rfl rfl) ?_;refine QD ?_
 refine zq ?_ ?_ <;> intro h104
 ·refine QD ?_;refine zQ ?_;exact Qo (by rw [Qu]; simp_all <;> (intros; omega))
 refine Xs ?_;obtain ⟨a, r, hps⟩ := QeZ hO.shape (by simp_all)
 have hOa : YM a := hO.part a (by rw [hps]; exact List.mem_cons_self)
 have ha : l.ps[0]? = some a := by rw [hps]; rfl
 have hE : Qw v l = v.ps.all (QaO a) := by rw [Qu]; simp_all [Qa4]
 refine Qm (fun x : {k : Nat // k ≤ (v.ps).length ∧ (v.ps.drop k).all (QaO a) = v.ps.all (QaO a)} => ⟨[(2, .ptr 0 0), (3, .ptr 1 0), (131, Y8 v.ps), (132, i64 v.ps.length), (133, i64 (x.1 : Nat))], [(0, .var 26 (Q2 l)), (1, .var 30 (QF v))], 2⟩) (fun x => (v.ps).length - x.1) (⟨0, Nat.zero_le _, by simp⟩) ?_ ?_
 ·exact Qa rfl (JZ ⟨(Y6 (by simp)), rfl, (XE trivial)⟩) ⟨rfl, rfl, rfl, rfl, rfl, rfl, trivial⟩
 rintro ⟨k, hk, hg⟩;dsimp only;refine Jq 131 rfl (fun hl8 => ?_);refine Qy ?_
 refine zq ?_ ?_ <;> intro h113
 rotate_left
 ·have hge : (v.ps).length ≤ k := by simpa using h113
  refine QC ?_;refine zQ ?_;exact Qo (by rw [hE, X4 hg hge])
 have hlt : k < (v.ps).length := by simpa using h113
 obtain ⟨x, hx⟩ := Qq hlt;refine Qy ?_;refine zP (Qf rfl rfl rfl k rfl _ (QR hx) rfl) ?_;refine Qy ?_;refine zD 15 ?_;refine QH ?_;refine zp (Qf rfl rfl rfl 0 rfl _ (XK ha) rfl) ?_;refine QH ?_;refine zp (Qd (ih x (List.mem_of_getElem? hx) a hOa) rfl rfl rfl) ?_;refine QH ?_
 refine zd 144 ?_ ?_ <;> intro h123
 ·refine WV ?_;refine zQ ?_;exact Qo (by rw [hE, Q6 hg hx (by simp_all [QaO])])
 refine QD ?_;refine vP (X0 (m1 (n0 h123))) (Qf rfl rfl rfl 0 rfl _ (XK ha) rfl) ?_;refine JB ?_;refine vP (X0 (m1 (n0 h123))) (Qd (Qdx a hOa) rfl rfl rfl) ?_;refine vP (X0 (m1 (n0 h123))) (Qd (Qfu _ _) rfl rfl rfl) ?_;refine QH ?_
 refine zq ?_ ?_ <;> intro h130
 ·refine QD ?_;refine zQ ?_;exact Qo (by rw [hE, Q6 hg hx (by simp_all [QaO])])
 refine QC ?_;refine Qb ?_;exact ⟨⟨k + 1, hlt, XG hg hx (by simp_all [QaO])⟩, Qa rfl (YO ⟨X5, rfl, trivial⟩) ⟨rfl, rfl, rfl, rfl, rfl, rfl, trivial⟩, by dsimp only; omega⟩
theorem Qn1 (v : Qp) (l : Qv) (hO : YM l) : FC Tryz.prog 109 [.agg (Q2 l), .agg (QF v)] (bl (Qw v l)) := Qu9 v l hO (fun x _ a ha => Qn1 x a ha)
termination_by v
decreasing_by exact Qp.sizeOf_ps ‹_›
def XR (l : Qv) (v : Qp) : Bool := (QB l == 0) && Qw v l
theorem Qa6 (l : Qv) (v : Qp) : FC Tryz.prog 62 [.agg (Q2 l), .agg (QF v)] (bl (XR l v)) := by
 refine Qh [4] Tryz.func62 rfl rfl 13 Tryz.ntmps62 (Nat.le_of_ble_eq_true rfl) ?_
 intro E hN;refine X3 ?_;refine zP (Qd (QbG l) rfl rfl rfl) ?_;refine QH ?_
 refine zc 8 ?_ ?_ <;> intro h7
 ·have h1 : QB l = 0 := by simpa using h7
  refine QH ?_;refine uP (XO h7) (Qd (Qn1 v l (Xb h1)) rfl rfl rfl) ?_;refine QH ?_;refine zQ ?_;exact Qo (by simp_all [XR])
 refine Qy ?_;refine zQ ?_;exact Qo (by simp_all [XR])
end Go.Proofs.YtnkkokmmeplbgaaGreat
