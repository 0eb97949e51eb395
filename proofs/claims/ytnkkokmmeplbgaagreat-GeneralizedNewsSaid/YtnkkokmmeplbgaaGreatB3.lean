/-
  Contracts: descriptions of lattices are checked: Check.
-/
import Derived.Test.YtnkkokmmeplbgaaGreatB2
namespace Go.Proofs.YtnkkokmmeplbgaaGreat
set_option maxRecDepth 100000
set_option maxHeartbeats 1000000
open Go.RowKit
theorem QlH (l : List Nm) : l.zipIdx.length = l.length := by simp
theorem QfE {l : Qs} (h : QU l = 0) (hk : l.k = 7) : ∃ a r, l.ps = a :: r := by
 unfold QU at h
 have hkn : Jt l.k = true := by rw [hk]; decide
 rw [if_pos hkn] at h
 have hb : JV l = false := by
  cases hb : JV l
  ·rfl
  rw [hb] at h; simp [X4] at h
 cases hp : l.ps with
 | cons a r => exact ⟨a, r, rfl⟩
 | nil =>
  simp [JV, XO, hk, hp] at hb
section
variable {g : Qs → Int → Int × Int} {l : List Qs} {k : Nat} {x : Qs} {m : Int} {v : Int × Int}
theorem Qnm (hg : XG g (l.drop k) m = v) (h : l[k]? = some x) (h0 : ((g x m).1 != 0) = false) : XG g (l.drop (k + 1)) (g x m).2 = v := by
 rw [Q4 h] at hg
 unfold XG at hg
 rwa [if_pos (by simpa using h0)] at hg
theorem QeJ (hg : XG g (l.drop k) m = v) (h : l[k]? = some x) (h0 : ((g x m).1 != 0) = true) : g x m = v := by
 rw [Q4 h] at hg
 unfold XG at hg
 rwa [if_neg (by simpa using h0)] at hg
theorem QhH (hg : XG g (l.drop k) m = v) (h : l.length ≤ k) : (0, m) = v := by
 rw [List.drop_of_length_le h] at hg; exact hg
end
theorem Qjc (l : Qs) (hl : l.k = 7 → ∃ a r, l.ps = a :: r) : FC Tryz.prog 157 [.agg (QP l)] (i64 (Xq l)) := by
 refine Qe [2] Tryz.func157 rfl rfl 15 Tryz.ntmps157 (Nat.le_of_ble_eq_true rfl) ?_
 intro E hN
 refine Jc ?_
 refine zc 6 ?_ ?_ <;> intro h5
 ·
  obtain ⟨a, r, hp⟩ := hl (by simpa using h5)
  have ha : l.ps[0]? = some a := by rw [hp]; rfl
  refine QC ?_; refine uP (Xo h5) (Qf rfl rfl rfl 0 rfl _ (Xv ha) rfl) ?_; refine Yb ?_
  refine uP (Xo h5) (Qb (Qkh a) rfl rfl rfl) ?_; refine QC ?_; refine zP (Qb (YI _ _) rfl rfl rfl) ?_; refine zS ?_; refine zQ ?_
  exact QB (by first | (simp only [Xq, hp, *]; simp; done) | (simp only [Xq, *]; simp))
 refine Xj ?_; refine zP (Qb (YI _ _) rfl rfl rfl) ?_; refine zS ?_; refine zQ ?_
 exact QB (by first | (simp only [Xq, hp, *]; simp; done) | (simp only [Xq, *]; simp))
theorem Qgm (l : Qs) : FC Tryz.prog 155 [.agg (QP l)] (i64 (Xp l)) := by
 refine Qe [2] Tryz.func155 rfl rfl 75 Tryz.ntmps155 (Nat.le_of_ble_eq_true rfl) ?_
 intro E hN
 refine KJ ?_
 refine Qo (fun x : {k : Nat // k ≤ (l.nm).length ∧ (l.nm.zipIdx.drop k).all (Ke l) = l.nm.zipIdx.all (Ke l)} => ⟨[(1, .ptr 0 0), (8, XN l.nm), (9, i64 l.nm.length), (10, i64 (x.1 : Nat))], [(0, .var 26 (QP l))], 1⟩) (fun x => (l.nm).length - x.1) (⟨0, Nat.zero_le _, by simp⟩) ?_ ?_
 ·
  exact Qa rfl (Yv ⟨(Xe (by simp)), rfl, (Xr trivial)⟩) ⟨rfl, rfl, rfl, trivial⟩
 rintro ⟨k, hk, hg⟩
 dsimp only
 refine X7 8 rfl (fun hl8 => ?_)
 refine QA ?_
 refine zq ?_ ?_ <;> intro h9
 ·
  have hlt : k < (l.nm).length := by simpa using h9
  obtain ⟨x, hx⟩ := Qr hlt
  refine Xk ?_; refine zP (Qf rfl rfl rfl k rfl _ (Qu hx) rfl) ?_; refine Xj ?_; refine zP (Qb (Qbm _) rfl rfl rfl) ?_
  refine QC ?_
  refine zc 18 ?_ ?_ <;> intro h12
  ·
   refine QmG ?_; refine zQ ?_
   exact QB (by rw [Xp, Q1 hg (QcC hx) (by simp_all [Ke])]; simp)
  refine Qz ?_
  refine zc 22 ?_ ?_ <;> intro h15
  rotate_left
  ·
   refine Xk ?_; refine uP (XF (m1 (n0 h12))) (Xl rfl rfl h15 rfl) ?_; refine Xj ?_; refine Qc ?_
   exact ⟨⟨k + 1, hlt, Xx hg (QcC hx) (by simp_all [Ke])⟩, Qa rfl (Ya ⟨(Xe (by dsimp only; omega)), rfl, trivial⟩) ⟨rfl, rfl, rfl, trivial⟩, by dsimp only; omega⟩
  refine Qx ?_; refine uP (Xo h15) (Qm1 rfl rfl rfl k rfl (by omega) (by exact fun _ => rfl)) ?_; refine Yb ?_
  refine uP (Xo h15) (Qb (Qcc _ _) rfl rfl rfl) ?_; refine uP (XF (m1 (n0 h12))) (Xf rfl rfl h15 rfl) ?_; refine QC ?_
  refine zq ?_ ?_ <;> intro h19
  ·
   refine Qx ?_; refine zQ ?_
   exact QB (by rw [Xp, Q1 hg (QcC hx) (by simp_all [Ke])]; simp)
  refine Qz ?_; refine Qc ?_
  exact ⟨⟨k + 1, hlt, Xx hg (QcC hx) (by simp_all [Ke])⟩, Qa rfl (Ya ⟨(Xe (by dsimp only; omega)), rfl, trivial⟩) ⟨rfl, rfl, rfl, trivial⟩, by dsimp only; omega⟩
 have hge : (l.nm).length ≤ k := by simpa using h9
 have hA := XZ hg (by rw [QlH]; exact hge)
 refine QC ?_; refine Yr (⟨[(1, .ptr 0 0), (40, bl (l.k != 6 && !Qn l.nm))], [(0, .var 26 (QP l))], 1⟩) ?_ ?_
 ·
  refine QA ?_
  refine zc 35 ?_ ?_ <;> intro h24
  ·
   refine QC ?_; refine uP (Xo h24) (Qb (Kr _) rfl rfl rfl) ?_; refine QC ?_; refine Qc ?_
   exact Qa rfl (Xr ⟨(J7 (by simp_all)), rfl, trivial⟩) ⟨rfl, rfl, rfl, trivial⟩
  refine QA ?_; refine Qc ?_
  exact Qa rfl (Xr ⟨(J7 (by simp_all)), rfl, trivial⟩) ⟨rfl, rfl, rfl, trivial⟩
 refine zq ?_ ?_ <;> intro h28
 ·
  refine Qx ?_; refine zQ ?_
  exact QB (by rw [Xp, hA]; simp_all)
 refine XM ?_
 refine Qo (fun x : {k : Nat // k ≤ (l.rs).length ∧ (l.rs.drop k).all (YD l.nm) = l.rs.all (YD l.nm)} => ⟨[(1, .ptr 0 0), (42, rus l.rs), (43, i64 l.rs.length), (44, i64 (x.1 : Nat))], [(0, .var 26 (QP l))], 1⟩) (fun x => (l.rs).length - x.1) (⟨0, Nat.zero_le _, by simp⟩) ?_ ?_
 ·
  exact Qa rfl (Yv ⟨(Xe (by simp)), rfl, (Xr trivial)⟩) ⟨rfl, rfl, rfl, trivial⟩
 rintro ⟨k, hk, hg⟩
 dsimp only
 refine X7 42 rfl (fun hl8 => ?_)
 refine QA ?_
 refine zq ?_ ?_ <;> intro h35
 rotate_left
 ·
  have hge : (l.rs).length ≤ k := by simpa using h35
  refine Qz ?_; refine zQ ?_
  exact QB (by rw [Xp, hA, XZ hg hge]; simp_all <;> (intros; simp_all))
 have hlt : k < (l.rs).length := by simpa using h35
 obtain ⟨x, hx⟩ := Qr hlt
 refine QA ?_; refine zP (Qf rfl rfl rfl k rfl _ (Qu hx) rfl) ?_; refine Jc ?_
 refine zc 52 ?_ ?_ <;> intro h43
 ·
  refine QdU ?_; refine QC ?_; refine zQ ?_
  exact QB (by rw [Xp, Q1 hg hx (by simp_all [YD])]; simp)
 refine QC ?_; refine uP (XF h43) (Qb (Kr _) rfl rfl rfl) ?_; refine Qx ?_
 refine zc 58 ?_ ?_ <;> intro h46
 ·
  refine Qm5 ?_; refine zQ ?_
  exact QB (by rw [Xp, Q1 hg hx (by simp_all [YD])]; simp)
 refine Qz ?_; refine uP (XF (m1 (n0 h46))) (Qb (Qan _ _) rfl rfl rfl) ?_; refine Qx ?_
 refine zc 66 ?_ ?_ <;> intro h51
 ·
  refine Jn ?_; refine zQ ?_
  exact QB (by rw [Xp, Q1 hg hx (by simp_all [YD])]; simp)
 refine Qz ?_; refine uP (XF (m1 (n0 h51))) (Qb (QeV _ _) rfl rfl rfl) ?_; refine Qx ?_
 refine zq ?_ ?_ <;> intro h56
 ·
  refine Qx ?_; refine zQ ?_
  exact QB (by rw [Xp, Q1 hg hx (by simp_all [YD])]; simp)
 refine Qz ?_; refine Qc ?_
 exact ⟨⟨k + 1, hlt, Xx hg hx (by simp_all [YD])⟩, Qa rfl (Ya ⟨(Xe (by dsimp only; omega)), rfl, trivial⟩) ⟨rfl, rfl, rfl, trivial⟩, by dsimp only; omega⟩
theorem Qof (l : List Int) : FC Tryz.prog 153 [ivs l] (i64 (KH l)) := by
 refine Qe [2] Tryz.func153 rfl rfl 18 Tryz.ntmps153 (Nat.le_of_ble_eq_true rfl) ?_
 intro E hN
 refine X7 0 rfl (fun hl0 => ?_)
 refine QdO ?_
 refine Qo (fun x : {k : Nat // k ≤ (l).length ∧ KH (l.drop k) = KH l} => ⟨[(3, i64 0), (6, ivs l), (7, i64 l.length), (8, i64 (x.1 : Nat))], [], 0⟩) (fun x => (l).length - x.1) (⟨0, Nat.zero_le _, by simp⟩) ?_ ?_
 ·
  exact Qa rfl (Yv ⟨(Xe (by simp)), rfl, (Xr trivial)⟩) trivial
 rintro ⟨k, hk, hg⟩
 dsimp only
 refine QA ?_
 refine zq ?_ ?_ <;> intro h6
 rotate_left
 ·
  have hge : (l).length ≤ k := by simpa using h6
  refine QA ?_; refine zQ ?_
  exact QB (by rw [← hg, List.drop_of_length_le hge]; rfl)
 have hlt : k < (l).length := by simpa using h6
 obtain ⟨x, hx⟩ := Qr hlt
 have hs : KH l = if x == 0 then KH (l.drop (k + 1)) else x := by rw [← hg, Q4 hx]; rfl
 refine QA ?_; refine zP (Qf rfl rfl rfl k rfl _ (Qu hx) rfl) ?_; refine Jy ?_
 refine zq ?_ ?_ <;> intro h9
 ·
  refine Qz ?_; refine zQ ?_
  exact QB (by rw [hs, if_neg (by simp_all)])
 have hn : KH (l.drop (k + 1)) = KH l := by rw [hs, if_pos (by simpa using h9)]
 refine Qz ?_; refine Qc ?_
 exact ⟨⟨k + 1, hlt, hn⟩, Qa rfl (Ya ⟨(Xe (by dsimp only; omega)), rfl, trivial⟩) trivial, by dsimp only; omega⟩
theorem Qmu (l : Qs) (n d : Int) (hd : d = 7) : GC Tryz.prog 126 [.ptr Qk 0, .agg (QP l), i64 d] [(Qk, .var 164 [i64 n])] (i64 (QG 0 l n).1) [(Qk, .var 164 [i64 (QG 0 l n).2])] := by
 subst hd
 refine JK [6] Tryz.func126 rfl rfl 62 Tryz.ntmps126 (Nat.le_of_ble_eq_true rfl) ?_
 intro E hN
 refine Jc ?_
 refine zc 14 ?_ ?_ <;> intro h5
 ·
  refine Jn ?_; refine Qj ?_
  change (XP _ _).fzt = some _ ∧ _
  refine QaT rfl ?_ rfl ?_ rfl
  all_goals rfl
 exact absurd h5 (by decide)
section
variable {f : Nat} {l : Qs} {n : Int}
theorem Qgg (h : n ≥ 64) : QG (f + 1) l n = (6, n) := by unfold QG; rw [if_pos h]
theorem Qbg (h : n < 64) (h1 : (QU l != 0) = true) : QG (f + 1) l n = (QU l, n + 1) := by
 unfold QG; rw [if_neg (by omega), if_pos h1]
theorem Qj8 (h : n < 64) (h1 : (QU l != 0) = false) (h2 : (KH [XH l, Xp l, Q7 l, Xq l] != 0) = true) : QG (f + 1) l n = (KH [XH l, Xp l, Q7 l, Xq l], n + 1) := by
 unfold QG; rw [if_neg (by omega), if_neg (by rw [h1]; decide), if_pos h2]
theorem Wm (h : n < 64) (h1 : (QU l != 0) = false) (h2 : (KH [XH l, Xp l, Q7 l, Xq l] != 0) = false) : QG (f + 1) l n = XG (QG f) l.ps (n + 1) := by
 unfold QG; rw [if_neg (by omega), if_neg (by rw [h1]; decide), if_neg (by rw [h2]; decide)]
end
theorem Qm9 (f : Nat) (hf : f + 1 ≤ 6) (ih : ∀ (l : Qs) (n d : Int), d = 7 - (f : Int) → 0 ≤ n → GC Tryz.prog 126 [.ptr Qk 0, .agg (QP l), i64 d] [(Qk, .var 164 [i64 n])] (i64 (QG f l n).1) [(Qk, .var 164 [i64 (QG f l n).2])]) (l : Qs) (n d : Int) (hd : d = 7 - ((f + 1 : Nat) : Int)) (hn : 0 ≤ n) : GC Tryz.prog 126 [.ptr Qk 0, .agg (QP l), i64 d] [(Qk, .var 164 [i64 n])] (i64 (QG (f + 1) l n).1) [(Qk, .var 164 [i64 (QG (f + 1) l n).2])] := by
 refine JK [6] Tryz.func126 rfl rfl 62 Tryz.ntmps126 (Nat.le_of_ble_eq_true rfl) ?_
 intro E hN
 refine Jc ?_
 refine zc 14 ?_ ?_ <;> intro h5
 ·
  exact absurd h5 (by simp; omega)
 refine Yb ?_; refine uP (XF h5) (QE rfl rfl rfl) ?_; refine QA ?_
 refine zq ?_ ?_ <;> intro h8
 ·
  have h64 : n ≥ 64 := by simpa using h8
  refine Qz ?_; refine Qj ?_
  change (XP _ _).fzt = some _ ∧ _
  refine QaT rfl ?_ rfl ?_ rfl
  ·exact QB (by rw [Qgg h64])
  show Qi.var _ [i64 _] = Qi.var _ [i64 _]
  rw [Qgg h64]
 have h64 : n < 64 := by simpa using h8
 refine Qz ?_; refine zP (QE rfl rfl rfl) ?_; refine Qx ?_; refine zP (QE rfl rfl rfl) ?_; refine Xj ?_
 refine zP (Qb (Qlb _) rfl rfl rfl) ?_; refine Xj ?_
 refine zq ?_ ?_ <;> intro h16
 ·
  have h5 := h16
  refine QA ?_; refine Qj ?_
  change (XP _ _).fzt = some _ ∧ _
  refine QaT rfl ?_ rfl ?_ rfl
  ·exact QB (by rw [Qbg h64 h5])
  show Qi.var _ [i64 _] = Qi.var _ [i64 _]
  rw [Qbg h64 h5]
 have h5 := h16
 refine Qx ?_; refine Qg 10 (by kernel_rfl) (by kernel_rfl) ?_; refine zl ?_; refine zp (Qb (QiD _) rfl rfl rfl) ?_; refine zl ?_
 refine zp (Qb (Qgm _) rfl rfl rfl) ?_; refine zl ?_; refine zp (Qb (QiH _) rfl rfl rfl) ?_; refine zl ?_
 refine zp (Qb (Qjc _ (fun h => QfE (by simpa using h5) h)) rfl rfl rfl) ?_
 refine zp (QJ rfl rfl rfl rfl (by exact rfl) (by decide) (by decide)) ?_
 refine zp (Qb (Qof [XH l, Xp l, Q7 l, Xq l]) rfl rfl rfl) ?_; change Ql _ _ _ _ _ _; refine Xj ?_
 refine zq ?_ ?_ <;> intro h27
 ·
  have h8 := h27
  refine QA ?_; refine Qj ?_
  change (XP _ _).fzt = some _ ∧ _
  refine QaT rfl ?_ rfl ?_ rfl
  ·exact QB (by rw [Qj8 h64 h5 h8])
  show Qi.var _ [i64 _] = Qi.var _ [i64 _]
  rw [Qj8 h64 h5 h8]
 have h8 := h27
 refine XM ?_
 refine Qo (fun x : {q : Nat × Int // q.1 ≤ l.ps.length ∧ 0 ≤ q.2 ∧ XG (QG f) (l.ps.drop q.1) q.2 = XG (QG f) l.ps (n + 1)} => ⟨[(0, .ptr Qk 0), (2, i64 d), (47, Qf0 l.ps), (48, i64 l.ps.length), (49, i64 (x.1.1 : Nat))], [(Qk, .var 164 [i64 x.1.2])], 1⟩) (fun x => l.ps.length - x.1.1) (⟨(0, n + 1), Nat.zero_le _, by show 0 ≤ n + 1; omega, by simp⟩) ?_ ?_
 ·
  exact Qa rfl (Ya ⟨(Xe (by simp)), rfl, (Xr trivial)⟩) ⟨rfl, rfl, rfl, trivial⟩
 rintro ⟨⟨k, m⟩, hk, hm, hg⟩
 dsimp only at hk hm hg ⊢
 refine X7 47 rfl (fun hl8 => ?_)
 refine QA ?_
 refine zq ?_ ?_ <;> intro h34
 rotate_left
 ·
  have hge : (l.ps).length ≤ k := by simpa using h34
  refine QA ?_; refine Qj ?_
  change (XP _ _).fzt = some _ ∧ _
  refine QaT rfl ?_ rfl ?_ rfl
  ·exact QB (by rw [Wm h64 h5 h8, ← QhH hg hge])
  show Qi.var _ [i64 _] = Qi.var _ [i64 _]
  rw [Wm h64 h5 h8, ← QhH hg hge]
 have hlt : k < (l.ps).length := by simpa using h34
 obtain ⟨x, hx⟩ := Qr hlt
 refine QA ?_; refine zP (Qf rfl rfl rfl k rfl _ (Xv hx) rfl) ?_; refine XM ?_
 refine QcP hN Qk (ih x m _ (by omega) hm) (.fn _ _ _ _ rfl rfl) rfl rfl rfl rfl rfl rfl rfl rfl rfl rfl rfl ?_; refine Xj ?_
 refine zq ?_ ?_ <;> intro h42
 ·
  have h14 := h42
  refine QA ?_; refine Qj ?_
  change (XP _ _).fzt = some _ ∧ _
  refine QaT rfl ?_ rfl ?_ rfl
  ·exact QB (by rw [Wm h64 h5 h8, ← hg, QeJ rfl hx h14])
  show Qi.var _ [i64 _] = Qi.var _ [i64 _]
  rw [Wm h64 h5 h8, ← hg, QeJ rfl hx h14]
 have h14 := h42
 refine Qz ?_; refine Qc ?_
 exact ⟨⟨(k + 1, (QG f x m).2), hlt, Qb5 _ _ _ hm, Qnm hg hx h14⟩, Qa rfl (Yg ⟨(Xe (by dsimp only; omega)), rfl, trivial⟩) ⟨rfl, rfl, rfl, trivial⟩, by dsimp only; omega⟩
theorem QfI : ∀ (f : Nat) (l : Qs) (n d : Int), f ≤ 6 → d = 7 - (f : Int) → 0 ≤ n → GC Tryz.prog 126 [.ptr Qk 0, .agg (QP l), i64 d] [(Qk, .var 164 [i64 n])] (i64 (QG f l n).1) [(Qk, .var 164 [i64 (QG f l n).2])]
 | 0, l, n, d, _, hd, _ => Qmu l n d (by simpa using hd)
 | f + 1, l, n, d, hf, hd, hn => Qm9 f hf (fun l n d h1 h2 => QfI f l n d (by omega) h1 h2) l n d hd hn
theorem K9 (l : Qs) : FC Tryz.prog 77 [.agg (QP l)] (i64 (QK l)) := by
 refine Qe [2] Tryz.func77 rfl rfl 7 Tryz.ntmps77 (Nat.le_of_ble_eq_true rfl) ?_
 intro E hN
 refine KJ ?_
 refine QcP hN 1 (QfI 6 l 0 1 (by decide) rfl (by decide)) (.fn _ _ _ _ rfl rfl) rfl rfl rfl rfl rfl rfl rfl rfl rfl rfl rfl ?_; refine zS ?_
 refine zQ ?_
 rfl
end Go.Proofs.YtnkkokmmeplbgaaGreat
