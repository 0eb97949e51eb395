/-
  Contracts: finite.Check, usable, below, covers, Covers, meet
-/
import Derived.Test.YtaecccdkjmipeaaGreatF3
import Derived.Test.YtaecccdkjmipeaaGreatF1
import Derived.Test.YtaecccdkjmipeaaGreatT5
import Derived.Test.YtaecccdkjmipeaaGreatA8
import Derived.Test.YtaecccdkjmipeaaGreatB18
namespace Go.Proofs.YtaecccdkjmipeaaGreat
set_option maxRecDepth 100000
set_option maxHeartbeats 1000000
open Go.RowKit
theorem QmA (n : Nat) (f : Nat → Nat → Nat) (ht : KP (XD n f) n f) : FC Tryz.prog 25 [Xr (XD n f)] (.tup [.agg (QvU (vio n f)), i64 0]) := by
 refine YV [.c 2 48 4 true, .t 3] ⟨⟨inferInstance, rfl⟩, trivial⟩ Tryz.func25 rfl rfl 10 Tryz.ntmps25 (Nat.le_of_ble_eq_true rfl) ?_
 intro E hN
 have h256 := ht.le
 have hlt := ht.lt
 have h1n := ht.pos
 refine JU ?_; refine zP (Qc (fcb (c := true) (Qht (XD n f)) ht.is) rfl rfl rfl) ?_; refine Xz ?_
 refine zP (Qc (Qeq n f h256 hlt) rfl rfl rfl) ?_; refine QC ?_; refine QG ?_
 change (resY _ _).bind AV.fzt = some _
 refine Yj rfl ?_
 rfl
theorem Qhz (n : Nat) (f : Nat → Nat → Nat) (ht : KP (XD n f) n f) : FC Tryz.prog 63 [Xr (XD n f)] (i64 (if (vio n f).1 = 0 then 0 else 4)) := by
 refine Qd [2] Tryz.func63 rfl rfl 10 Tryz.ntmps63 (Nat.le_of_ble_eq_true rfl) ?_
 intro E hN
 have h256 := ht.le
 have hlt := ht.lt
 have h1n := ht.pos
 refine XJ ?_; refine zP (Qc (fcb (c := true) (Qht (XD n f)) ht.is) rfl rfl rfl) ?_; refine XJ ?_
 refine zP (Qc (Qeq n f h256 hlt) rfl rfl rfl) ?_; refine zP (Qt1 rfl rfl rfl) ?_; refine QO ?_
 refine zq ?_ ?_ <;> intro h4
 ·
  have h3 : ¬ (vio n f).1 = 0 := by intro e; simp [e] at h4
  refine QC ?_; refine zQ ?_
  rw [if_neg h3]
 have h3 : (vio n f).1 = 0 := by have := h4; simp at this; omega
 refine QJ ?_; refine zQ ?_
 rw [if_pos h3]
theorem QlV (f : Nat → Nat → Nat) (i j : Nat) : JT f i j = (((i : Int) != (j : Int)) && ((f i j : Int) == (j : Int))) := by rw [JT, Qfj, Ql3]; rfl
theorem Qh5 {t : List (Nat × AV)} {H : List (Nat × QH)} {nx o n : Nat} {te : TypeId} {k : Nat} {es : List (List AV)} (h : Ql H o = some (.arr te k es)) (hn : es.length = n) : St.cells1 ⟨t, H, nx⟩ (.own o n) = some [.own o n] := by
 simp [St.cells1, St.cell1, h, hn]
section
variable {L : Nat} {te : TypeId} {k n m : Nat} {g h : Nat → List AV} {es : List (List AV)} {e : List AV}
theorem Qv (hg : ∀ i, (g i).all (okId L) = true) (hh : ∀ i, (h i).all (okId L) = true) : WH L (.arr te k (Wz n g h m)) = true :=
 QN (f := fun i => if i < m then g i else h i) (fun i => by split; exact hg i; exact hh i) (List.range n)
theorem XE (he : WH L (.arr te k es) = true) (hx : e.all (okId L) = true) (i : Nat) : WH L (.arr te k (es.set i e)) = true := by
 simp only [WH, List.all_eq_true] at *
 intro x hxm
 obtain ⟨e', he', hxe⟩ := List.mem_flatten.1 hxm
 rcases List.mem_or_eq_of_mem_set he' with h | h
 ·exact he x (List.mem_flatten.2 ⟨e', h, hxe⟩)
 subst h; exact hx x hxe
theorem JB {α : Type} {g : α → List AV} (hg : ∀ i, fzs (g i) = some (g i)) (l : List α) : ∀ e ∈ l.map g, fzs e = some e := fun e he => by
 obtain ⟨i, -, rfl⟩ := List.mem_map.1 he
 exact hg i
theorem XA {α : Type} {g : α → List AV} (hg : ∀ i, okE k (g i) = true) (l : List α) : (l.map g).all (okE k) = true := by
 rw [List.all_map, List.all_eq_true]
 exact fun i _ => hg i
end
theorem Qfv (n : Nat) (f : Nat → Nat → Nat) (ht : KP (XD n f) n f) (i j : Nat) (hi : i < n) (hj : j < n) : FC Tryz.prog 101 [Xr (XD n f), i64 i, i64 j] (bl (JT f i j)) := by
 refine Qd [6] Tryz.func101 rfl rfl 21 Tryz.ntmps101 (Nat.le_of_ble_eq_true rfl) ?_
 intro E hN
 refine XN ?_
 refine zc 10 ?_ ?_ <;> intro h4
 ·
  refine QO ?_; refine uP (X7 h4) (Qh rfl rfl rfl i rfl _ (XH hi) rfl) ?_; refine QO ?_
  refine uP (X7 h4) (Qh rfl rfl rfl j rfl _ (Xj hj) rfl) ?_; refine QA ?_; refine zQ ?_
  all_goals exact Qt (by rw [QlV]; simp_all)
 refine YJ ?_; refine zQ ?_
 all_goals exact Qt (by rw [QlV]; simp_all)
def Qcm (n : Nat) (f : Nat → Nat → Nat) (i j : Nat) : List (Nat × Nat) := (List.range i).flatMap (Qiu n f) ++ ((List.range j).filter (cov n f i)).map fun j => (i, j)
theorem Ql7 (n : Nat) (f : Nat → Nat → Nat) (i : Nat) : Qcm n f i n = Qcm n f (i + 1) 0 := by
 unfold Qcm
 rw [List.range_succ, List.flatMap_append]
 simp [Qiu]
theorem Qsv (n : Nat) (f : Nat → Nat → Nat) : Qcm n f n 0 = Y0 n f := by
 unfold Qcm Y0
 simp
theorem QbV {n : Nat} {f : Nat → Nat → Nat} {i j : Nat} (h : cov n f i j = true) : Qcm n f i (j + 1) = Qcm n f i j ++ [(i, j)] := by
 unfold Qcm
 rw [List.range_succ, List.filter_append, List.map_append, ← List.append_assoc]
 simp [h]
theorem QdB {n : Nat} {f : Nat → Nat → Nat} {i j : Nat} (h : cov n f i j = false) : Qcm n f i (j + 1) = Qcm n f i j := by
 unfold Qcm
 rw [List.range_succ, List.filter_append, List.map_append]
 simp [h]
theorem Quk (n : Nat) (f : Nat → Nat → Nat) (i j : Nat) : (Qcm n f i j).length ≤ i * n + j := by
 unfold Qcm
 rw [List.length_append, List.length_map]
 have h2 : ((List.range j).filter (cov n f i)).length ≤ j := by have := List.length_filter_le (cov n f i) (List.range j); rwa [List.length_range] at this
 have h1 : ∀ i, ((List.range i).flatMap (Qiu n f)).length ≤ i * n := by
  intro i
  induction i with
  | zero => simp
  | succ i ih =>
   rw [List.range_succ, List.flatMap_append, List.length_append]
   have h3 : (Qiu n f i).length ≤ n := by
    unfold Qiu
    rw [List.length_map]
    have := List.length_filter_le (cov n f i) (List.range n); rwa [List.length_range] at this
   simp only [List.flatMap_cons, List.flatMap_nil, List.append_nil]
   rw [Nat.add_mul]
   omega
 have := h1 i
 omega
theorem Qvb {n : Nat} {f : Nat → Nat → Nat} {i j : Nat} (hb : JT f i j = true) (hk : ∀ k, k < n → (JT f i k && JT f k j) = false) : cov n f i j = true := by
 unfold cov
 rw [hb, Bool.true_and, List.all_eq_true]
 intro k hk'
 rw [hk k (List.mem_range.1 hk')]; rfl
theorem Qqe {n : Nat} {f : Nat → Nat → Nat} {i j : Nat} (hb : JT f i j = false) : cov n f i j = false := by unfold cov; rw [hb]; rfl
theorem Qtk {n : Nat} {f : Nat → Nat → Nat} {i j k : Nat} (hk : k < n) (h : (JT f i k && JT f k j) = true) : cov n f i j = false := by
 unfold cov
 rw [Bool.and_eq_false_iff]
 refine .inr ?_
 rw [Bool.eq_false_iff]
 intro h2
 have := List.all_eq_true.1 h2 k (List.mem_range.2 hk)
 rw [h] at this; cases this
theorem Qpe {n i j : Nat} (h : n ≤ 256) (hi : i < n) (hj : j < n) : i * n + j + 1 ≤ 65536 := by
 have h1 : (i + 1) * n ≤ n * n := Nat.mul_le_mul_right _ hi
 have h2 : n * n ≤ 65536 := Nat.mul_le_mul h h
 rw [Nat.add_mul] at h1
 omega
theorem QaF (i j : Nat) : Qg 2 1 [AV.p (.int .i64 i), AV.p (.int .i64 j)] = [pr2 (i, j)] := rfl
theorem Qpu {L L' : List (List AV)} {q : Nat} (h : L = L') : some (AV.sl L (some q)) = some (AV.sl L' (some q)) := by rw [h]
theorem Qd7 (n : Nat) (f : Nat → Nat → Nat) (ht : KP (XD n f) n f) : FC Tryz.prog 64 [Xr (XD n f)] (prs (Y0 n f)) := by
 refine Qd [2] Tryz.func64 rfl rfl 47 Tryz.ntmps64 (Nat.le_of_ble_eq_true rfl) ?_
 intro E hN
 have h256 := ht.le
 have hlt := ht.lt
 have h1n := ht.pos
 refine QeT ?_; refine Qu (Qe8 rfl 3 62 2 rfl) ?_
 refine Qi (fun x : {i : Nat // i ≤ n ∧ True} => ⟨[(0, Xr (XD n f)), (7, Xr (XD n f)), (8, i64 n), (9, i64 (x.1 : Nat)), (3, .sl ((Qcm n f x.1 0).map pr2) (some 0))], [(0, .tok 62 2 (Qcm n f x.1 0).length)], 1⟩) (fun x => n - x.1) (⟨0, Nat.zero_le _, by trivial⟩) ?_ ?_
 ·
  exact Qa rfl (Jg ⟨(QE (by simp [XD])), rfl, (Jg trivial)⟩) ⟨rfl, rfl, rfl, trivial⟩
 rintro ⟨i, hi, gi⟩
 dsimp only
 refine QA ?_
 refine zq ?_ ?_ <;> intro h8
 rotate_left
 ·
  have gei : n ≤ i := by simpa using h8
  obtain rfl : i = n := by omega
  refine QA ?_; refine zQ ?_
  rw [Qsv]
 have lti : i < n := by simpa using h8
 refine XJ ?_; refine QpV ?_; refine JU ?_
 refine Qi (fun x : {j : Nat // j ≤ n ∧ True} => ⟨[(0, Xr (XD n f)), (7, Xr (XD n f)), (8, i64 n), (9, i64 (i : Nat)), (4, i64 (i : Nat)), (12, Xr (XD n f)), (13, i64 n), (14, i64 (x.1 : Nat)), (3, .sl ((Qcm n f i x.1).map pr2) (some 0))], [(0, .tok 62 2 (Qcm n f i x.1).length)], 1⟩) (fun x => n - x.1) (⟨0, Nat.zero_le _, by trivial⟩) ?_ ?_
 ·
  exact Qa rfl (QR (Jg ⟨(QE (by simp [XD])), rfl, (Jg trivial)⟩)) ⟨rfl, rfl, rfl, trivial⟩
 rintro ⟨j, hj, gj⟩
 dsimp only
 refine QA ?_
 refine zq ?_ ?_ <;> intro h19
 rotate_left
 ·
  have gej : n ≤ j := by simpa using h19
  obtain rfl : j = n := by omega
  refine QJ ?_; refine Qb ?_
  exact ⟨⟨i + 1, lti, trivial⟩, Qa rfl (Xl ⟨(QE (by dsimp only; omega)), rfl, (Qpu (by rw [Ql7])), rfl, trivial⟩) ⟨(cgT (by rw [Ql7])), rfl, rfl, trivial⟩, by dsimp only; omega⟩
 have ltj : j < n := by simpa using h19
 refine WG ?_; refine zP (Qc (Qfv n f ht i j lti ltj) rfl rfl rfl) ?_; refine QO ?_
 refine zq ?_ ?_ <;> intro h20
 ·
  have hcv : cov n f i j = false := Qqe (by simpa using h20)
  refine QJ ?_; refine Qb ?_
  exact ⟨⟨j + 1, ltj, trivial⟩, Qa rfl (QR (Xl ⟨(QE (by dsimp only; omega)), rfl, (Qpu (by first | rw [QdB hcv] | (rw [QbV hcv]; simp [QaF]))), rfl, trivial⟩)) ⟨(cgT (by first | rw [QdB hcv] | (rw [QbV hcv]; simp [QaF]))), rfl, rfl, trivial⟩, by dsimp only; omega⟩
 have h8 : JT f i j = true := by simpa using h20
 refine JU ?_
 refine Qi (fun x : {k : Nat // k ≤ n ∧ ∀ q, q < k → (JT f i q && JT f q j) = false} => ⟨[(0, Xr (XD n f)), (7, Xr (XD n f)), (8, i64 n), (9, i64 (i : Nat)), (4, i64 (i : Nat)), (12, Xr (XD n f)), (13, i64 n), (14, i64 (j : Nat)), (5, i64 (j : Nat)), (22, Xr (XD n f)), (23, i64 n), (24, i64 (x.1 : Nat)), (3, .sl ((Qcm n f i j).map pr2) (some 0))], [(0, .tok 62 2 (Qcm n f i j).length)], 1⟩) (fun x => n - x.1) (⟨0, Nat.zero_le _, by simp⟩) ?_ ?_
 ·
  exact Qa rfl (QR (QR (Jg ⟨(QE (by simp [XD])), rfl, (Jg trivial)⟩))) ⟨rfl, rfl, rfl, trivial⟩
 rintro ⟨k, hk, gk⟩
 dsimp only
 refine QA ?_
 refine zq ?_ ?_ <;> intro h36
 rotate_left
 ·
  have gek : n ≤ k := by simpa using h36
  have hcv : cov n f i j = true := Qvb h8 (fun q hq => gk q (by omega))
  refine QA ?_; refine zP (WO rfl rfl rfl) ?_; refine zP (Qj rfl rfl rfl rfl (by exact rfl) (by decide) (by decide)) ?_
  refine Xh hN rfl rfl rfl (by simp) rfl rfl (XA (fun _ => rfl) _) rfl (by have := Quk n f i j; have := Qpe h256 lti ltj; constructor <;> simp [QaF] <;> omega) rfl rfl rfl rfl ?_
  refine QA ?_; refine Qb ?_
  exact ⟨⟨j + 1, ltj, trivial⟩, Qa rfl (QR (Xl ⟨(QE (by dsimp only; omega)), rfl, (Qpu (by first | rw [QdB hcv] | (rw [QbV hcv]; simp [QaF]))), rfl, trivial⟩)) ⟨(cgT (by first | rw [QdB hcv] | (rw [QbV hcv]; simp [QaF]))), rfl, rfl, trivial⟩, by dsimp only; omega⟩
 have ltk : k < n := by simpa using h36
 refine Wi ?_; refine zP (Qc (Qfv n f ht i k lti ltk) rfl rfl rfl) ?_; refine zM ?_
 refine zc 31 ?_ ?_ <;> intro h37
 rotate_left
 ·
  refine YJ ?_; refine Qb ?_
  exact ⟨⟨k + 1, ltk, fun q hq => by rcases Nat.lt_or_ge q k with h | h; exact gk q h; obtain rfl : q = k := (by omega); simp_all⟩, Qa rfl (QR (QR (Xl ⟨(QE (by dsimp only; omega)), rfl, (Xu trivial)⟩))) ⟨rfl, rfl, rfl, trivial⟩, by dsimp only; omega⟩
 refine QC ?_; refine uP (X7 h37) (Qc (Qfv n f ht k j ltk ltj) rfl rfl rfl) ?_; refine QO ?_
 refine zq ?_ ?_ <;> intro h38
 ·
  have hcv : cov n f i j = false := Qtk ltk (by simp_all)
  refine QJ ?_; refine Qb ?_
  exact ⟨⟨j + 1, ltj, trivial⟩, Qa rfl (QR (Xl ⟨(QE (by dsimp only; omega)), rfl, (Qpu (by first | rw [QdB hcv] | (rw [QbV hcv]; simp [QaF]))), rfl, trivial⟩)) ⟨(cgT (by first | rw [QdB hcv] | (rw [QbV hcv]; simp [QaF]))), rfl, rfl, trivial⟩, by dsimp only; omega⟩
 refine QJ ?_; refine Qb ?_
 exact ⟨⟨k + 1, ltk, fun q hq => by rcases Nat.lt_or_ge q k with h | h; exact gk q h; obtain rfl : q = k := (by omega); simp_all⟩, Qa rfl (QR (QR (Xl ⟨(QE (by dsimp only; omega)), rfl, (Xu trivial)⟩))) ⟨rfl, rfl, rfl, trivial⟩, by dsimp only; omega⟩
theorem QnC (n : Nat) (f : Nat → Nat → Nat) (ht : KP (XD n f) n f) (hu : FC Tryz.prog 63 [Xr (XD n f)] (i64 0)) : FC Tryz.prog 32 [Xr (XD n f)] (.tup [prs (Y0 n f), i64 0]) := by
 refine Qd [2, 3] Tryz.func32 rfl rfl 12 Tryz.ntmps32 (Nat.le_of_ble_eq_true rfl) ?_
 intro E hN
 refine JU ?_; refine zP (Qc hu rfl rfl rfl) ?_; refine JA ?_; refine zP (Qc (Qd7 n f ht) rfl rfl rfl) ?_; refine QO ?_
 refine zQ ?_
 rfl
theorem Qc4 {n : Nat} {f : Nat → Nat → Nat} (hlt : ∀ i j, i < n → j < n → f i j < n) {z : Nat} (hz : z < n) (i j : Nat) : ∀ k, k ≤ n → Qat f z i j k < n
 | 0, _ => hz
 | k + 1, hk => by
  rw [KK]
  split
  ·exact hlt _ _ (Qc4 hlt hz i j k (by omega)) (by omega)
  exact Qc4 hlt hz i j k (by omega)
theorem Qra {n : Nat} {f : Nat → Nat → Nat} (h : 1 ≤ n) : (bot n f).getD 0 < n := by
 cases hb : bot n f with
 | none => exact h
 | some z => exact (QhP hb).1
def QlZ (n : Nat) (f : Nat → Nat → Nat) (i : Nat) : List AV := QjN (Qbx n (XZ n f) i)
def Qpa : Nat → List AV := fun _ => [.p (.slice none 0 0)]
def mEl (n : Nat) (f : Nat → Nat → Nat) (i j : Nat) : List AV := QeF (XZ n f i j)
def Qo8 : Nat → List AV := fun _ => [i64 0]
theorem Qtq (n : Nat) (f : Nat → Nat → Nat) (i : Nat) : Wz n (mEl n f i) Qo8 n = (Qbx n (XZ n f) i).map iv1 := by
 rw [QdI (Nat.le_refl n)]
 unfold Qbx
 rw [List.map_map]; rfl
theorem QnT {n : Nat} {g h : Nat → List AV} {i : Nat} {x y : List AV} (hi : i < n) (hy : y = g i) : ((Wz n g h i).set i x).set i y = Wz n g h (i + 1) := by
 rw [List.set_set, hy, YD hi]
theorem Qcj {n : Nat} {g h : Nat → List AV} {i : Nat} {x : List AV} (hi : i < n) : ((Wz n g h i).set i x)[i]? = some x := by
 rw [List.getElem?_set_self (by rw [XC]; exact hi)]
theorem WP {n : Nat} {g h : Nat → List AV} {i : Nat} {x : List AV} : n = ((Wz n g h i).set i x).length := by rw [List.length_set, XC]
theorem Qcs {n : Nat} {g h : Nat → List AV} {i : Nat} {x : List AV} (hg : ∀ i, (g i).length = 1) (hh : ∀ i, (h i).length = 1) (hx : x.length = 1) : ∀ e ∈ (Wz n g h i).set i x, e.length = 1 := fun e he => by
 rcases List.mem_or_eq_of_mem_set he with h2 | h2
 ·obtain ⟨q, -, rfl⟩ := List.mem_map.1 h2
  split
  ·exact hg q
  exact hh q
 rw [h2]; exact hx
theorem WE {n k : Nat} {g h : Nat → List AV} (hg : ∀ i, (g i).length = 1) (hh : ∀ i, (h i).length = 1) : ∀ e ∈ Wz n g h k, e.length = 1 := fun e h2 => by
 obtain ⟨q, -, rfl⟩ := List.mem_map.1 h2
 split
 ·exact hg q
 exact hh q
theorem QpP (n : Nat) (f : Nat → Nat → Nat) (ht : KP (XD n f) n f) : FC Tryz.prog 65 [Xr (XD n f)] (Xr (XD n (XZ n f))) := by
 refine Qd [2] Tryz.func65 rfl rfl 78 Tryz.ntmps65 (Nat.le_of_ble_eq_true rfl) ?_
 intro E hN
 have h256 := ht.le
 have hlt := ht.lt
 have h1n := ht.pos
 have hzl : (bot n f).getD 0 < n := Qra h1n
 refine Xz ?_; refine zP (Qc (QoR n f h256 hlt) rfl rfl rfl) ?_; refine XN ?_
 refine QdH hN rfl (k := 1) (zs := [.slice none 0 0]) rfl (y := 24) (by kernel_rfl) rfl rfl (n := n) (QE (by simp [XD])) (QE (by simp [XD])) (by omega) rfl rfl rfl rfl ?_
 refine XN ?_
 refine Qi (fun x : {i : Nat // i ≤ n ∧ True} => ⟨[(0, Xr (XD n f)), (3, i64 ((bot n f).getD 0 : Nat)), (5, .own 0 n), (19, i64 n), (20, i64 (x.1 : Nat))], [(0, .arr 56 1 (Wz n (QlZ n f) Qpa x.1))], 1⟩) (fun x => n - x.1) (⟨0, Nat.zero_le _, by trivial⟩) ?_ ?_
 ·
  exact Qa rfl (Xl ⟨(QE (by simp [XD])), rfl, (Xu trivial)⟩) ⟨(Yl (by rw [Qdo, Qdv]; rfl)), rfl, (Qv (fun _ => rfl) (fun _ => rfl)), trivial⟩
 rintro ⟨i, hi, gi⟩
 dsimp only
 refine QA ?_
 refine zq ?_ ?_ <;> intro h13
 rotate_left
 ·
  have gei : n ≤ i := by simpa using h13
  obtain rfl : n = i := by omega
  refine Je ?_
  refine Qu (QB 2 0 rfl (es := (List.range n).map (QlZ n f)) (by exact Yl (QdI (Nat.le_refl _))) (by simp) (XA (fun _ => rfl) _) (JB (fun _ => rfl) _) rfl) ?_
  refine zR ?_
  show AV.sl _ none = AV.sl (((List.range n).map (Qbx n (XZ n f))).map QjN) none
  rw [List.map_map]; rfl
 have lti : i < n := by simpa using h13
 refine WG ?_
 refine QdH hN rfl (k := 1) (zs := [.int .i64 0]) rfl (y := 8) (by kernel_rfl) rfl rfl (n := n) (QE (by simp [XD])) (QE (by simp [XD])) (by omega) rfl rfl rfl rfl ?_
 refine zP (JL rfl rfl rfl rfl XC.symm i rfl lti) ?_
 refine Qb4 hN rfl rfl rfl XC.symm i rfl (by rw [XC]; exact lti) rfl (Qh5 rfl (by simp)) rfl rfl (WE (fun _ => rfl) (fun _ => rfl)) rfl rfl rfl rfl ?_
 refine XJ ?_
 refine Qi (fun x : {j : Nat // j ≤ n ∧ True} => ⟨[(0, Xr (XD n f)), (3, i64 ((bot n f).getD 0 : Nat)), (5, .own 0 n), (19, i64 n), (20, i64 (i : Nat)), (6, i64 (i : Nat)), (30, i64 n), (31, i64 (x.1 : Nat))], [(0, .arr 56 1 ((Wz n (QlZ n f) Qpa i).set i [.own 1 n])), (1, .arr 3 1 (Wz n (mEl n f i) Qo8 x.1))], 2⟩) (fun x => n - x.1) (⟨0, Nat.zero_le _, by trivial⟩) ?_ ?_
 ·
  exact Qa rfl (QR (Jg ⟨(QE (by simp [XD])), rfl, (Xu trivial)⟩)) ⟨rfl, rfl, (XE (Qv (fun _ => rfl) (fun _ => rfl)) rfl i), (Yl (by rw [Qdo, Qdv]; rfl)), rfl, (Qv (fun _ => rfl) (fun _ => rfl)), trivial⟩
 rintro ⟨j, hj, gj⟩
 dsimp only
 refine QA ?_
 refine zq ?_ ?_ <;> intro h27
 rotate_left
 ·
  have gej : n ≤ j := by simpa using h27
  obtain rfl : n = j := by omega
  refine KO ?_
  refine Qu (Qhh 0 i 1 rfl (by exact Qcj lti) (by exact Yl (Qtq n f i)) rfl (by simp [Qbx]) (XA (fun _ => rfl) _) (JB (fun _ => rfl) _) rfl rfl) ?_
  refine QC ?_; refine Qb ?_
  exact ⟨⟨i + 1, lti, trivial⟩, Qa rfl (QR ⟨(QE (by dsimp only; omega)), rfl, trivial⟩) ⟨(Yl (QnT lti rfl)), rfl, (Qv (fun _ => rfl) (fun _ => rfl)), trivial⟩, by dsimp only; omega⟩
 have ltj : j < n := by simpa using h27
 refine QjA ?_
 refine Qi (fun x : {k : Nat // k ≤ n ∧ True} => ⟨[(0, Xr (XD n f)), (3, i64 ((bot n f).getD 0 : Nat)), (5, .own 0 n), (19, i64 n), (20, i64 (i : Nat)), (6, i64 (i : Nat)), (30, i64 n), (31, i64 (j : Nat)), (7, i64 (j : Nat)), (8, i64 (Qat f ((bot n f).getD 0) i j x.1 : Nat)), (36, i64 n), (37, i64 (x.1 : Nat))], [(0, .arr 56 1 ((Wz n (QlZ n f) Qpa i).set i [.own 1 n])), (1, .arr 3 1 (Wz n (mEl n f i) Qo8 j))], 2⟩) (fun x => n - x.1) (⟨0, Nat.zero_le _, by trivial⟩) ?_ ?_
 ·
  exact Qa rfl (QR (QR (Jg ⟨(QE (by simp [XD])), rfl, (Xu trivial)⟩))) ⟨rfl, rfl, (XE (Qv (fun _ => rfl) (fun _ => rfl)) rfl i), rfl, rfl, (Qv (fun _ => rfl) (fun _ => rfl)), trivial⟩
 rintro ⟨k, hk, gk⟩
 dsimp only
 refine QA ?_
 refine zq ?_ ?_ <;> intro h41
 rotate_left
 ·
  have gek : n ≤ k := by simpa using h41
  obtain rfl : n = k := by omega
  refine QJ ?_; refine zP (JL rfl rfl rfl rfl WP i rfl lti) ?_
  refine zP (JG rfl rfl rfl WP (Qcs (fun _ => rfl) (fun _ => rfl) rfl) i rfl (Qcj lti) (fun _ => rfl) rfl) ?_; refine QO ?_
  refine zP (JL rfl rfl rfl rfl XC.symm j rfl ltj) ?_
  refine Qb4 hN rfl rfl rfl XC.symm j rfl (by rw [XC]; exact ltj) rfl rfl rfl rfl (WE (fun _ => rfl) (fun _ => rfl)) rfl rfl rfl rfl ?_
  refine QJ ?_; refine Qb ?_
  exact ⟨⟨j + 1, ltj, trivial⟩, Qa rfl (QR (Xl ⟨(QE (by dsimp only; omega)), rfl, trivial⟩)) ⟨rfl, rfl, (XE (Qv (fun _ => rfl) (fun _ => rfl)) rfl i), (Yl (by first | exact YD ltj | rw [← YD ltj]; rfl)), rfl, (Qv (fun _ => rfl) (fun _ => rfl)), trivial⟩, by dsimp only; omega⟩
 have ltk : k < n := by simpa using h41
 have hmk := Qc4 hlt hzl i j k hk
 refine JA ?_; refine zP (Qh rfl rfl rfl k rfl _ (XH ltk) rfl) ?_; refine QO ?_
 refine zP (Qh rfl rfl rfl i rfl _ (Xj lti) rfl) ?_; refine QJ ?_
 refine zc 49 ?_ ?_ <;> intro h46
 rotate_left
 ·
  refine QeT ?_; refine Qb ?_
  exact ⟨⟨k + 1, ltk, trivial⟩, Qa rfl (QR (QR (Xu ⟨(QE (by rw [KK]; split <;> first | rfl | (exfalso; simp_all <;> omega))), rfl, rfl, rfl, (QE (by dsimp only; omega)), rfl, trivial⟩))) ⟨rfl, rfl, (XE (Qv (fun _ => rfl) (fun _ => rfl)) rfl i), rfl, rfl, (Qv (fun _ => rfl) (fun _ => rfl)), trivial⟩, by dsimp only; omega⟩
 refine QO ?_; refine uP (X7 h46) (Qh rfl rfl rfl k rfl _ (XH ltk) rfl) ?_; refine QO ?_
 refine uP (X7 h46) (Qh rfl rfl rfl j rfl _ (Xj ltj) rfl) ?_; refine QA ?_
 refine zq ?_ ?_ <;> intro h51
 ·
  refine QC ?_; refine zP (Qh rfl rfl rfl (Qat f ((bot n f).getD 0) i j k) rfl _ (XH hmk) rfl) ?_; refine QO ?_
  refine zP (Qh rfl rfl rfl k rfl _ (Xj ltk) rfl) ?_; refine Je ?_; refine Qb ?_
  exact ⟨⟨k + 1, ltk, trivial⟩, Qa rfl (QR (QR (Xu ⟨(QE (by rw [KK]; split <;> first | rfl | (exfalso; simp_all <;> omega))), rfl, rfl, rfl, (QE (by dsimp only; omega)), rfl, trivial⟩))) ⟨rfl, rfl, (XE (Qv (fun _ => rfl) (fun _ => rfl)) rfl i), rfl, rfl, (Qv (fun _ => rfl) (fun _ => rfl)), trivial⟩, by dsimp only; omega⟩
 refine QJ ?_; refine Qb ?_
 exact ⟨⟨k + 1, ltk, trivial⟩, Qa rfl (QR (QR (Xu ⟨(QE (by rw [KK]; split <;> first | rfl | (exfalso; simp_all <;> omega))), rfl, rfl, rfl, (QE (by dsimp only; omega)), rfl, trivial⟩))) ⟨rfl, rfl, (XE (Qv (fun _ => rfl) (fun _ => rfl)) rfl i), rfl, rfl, (Qv (fun _ => rfl) (fun _ => rfl)), trivial⟩, by dsimp only; omega⟩
end Go.Proofs.YtaecccdkjmipeaaGreat
