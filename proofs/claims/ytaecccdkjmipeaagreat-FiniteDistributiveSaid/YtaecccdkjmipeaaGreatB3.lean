/-
  Contracts: descriptions of lattices are checked: Check.
-/
import Derived.Test.YtaecccdkjmipeaaGreatB2
namespace Go.Proofs.YtaecccdkjmipeaaGreat
set_option maxRecDepth 100000
set_option maxHeartbeats 1000000
open Go.RowKit
theorem Quj (l : List Nm) : l.zipIdx.length = l.length := by simp
theorem Qkm {l : Qs} (h : Xq l = 0) (hk : l.k = 7) : ∃ a r, l.ps = a :: r := by
 unfold Xq at h
 have hkn : Y5 l.k = true := by rw [hk]; decide
 rw [if_pos hkn] at h
 have hb : KE l = false := by
  cases hb : KE l
  ·rfl
  rw [hb] at h; simp [Yh] at h
 cases hp : l.ps with
 | cons a r => exact ⟨a, r, rfl⟩
 | nil =>
  simp [KE, Yb, hk, hp] at hb
section
variable {g : Qs → Int → Int × Int} {l : List Qs} {k : Nat} {x : Qs} {m : Int} {v : Int × Int}
theorem QuF (hg : J4 g (l.drop k) m = v) (h : l[k]? = some x) (h0 : ((g x m).1 != 0) = false) : J4 g (l.drop (k + 1)) (g x m).2 = v := by
 rw [XL h] at hg
 unfold J4 at hg
 rwa [if_pos (by simpa using h0)] at hg
theorem QjS (hg : J4 g (l.drop k) m = v) (h : l[k]? = some x) (h0 : ((g x m).1 != 0) = true) : g x m = v := by
 rw [XL h] at hg
 unfold J4 at hg
 rwa [if_neg (by simpa using h0)] at hg
theorem QmF (hg : J4 g (l.drop k) m = v) (h : l.length ≤ k) : (0, m) = v := by
 rw [List.drop_of_length_le h] at hg; exact hg
end
theorem QpL (l : Qs) (hl : l.k = 7 → ∃ a r, l.ps = a :: r) : FC Tryz.prog 107 [.agg (QF l)] (i64 (JH l)) := by
 refine Qd [2] Tryz.func107 rfl rfl 15 Tryz.ntmps107 (Nat.le_of_ble_eq_true rfl) ?_
 intro E hN
 refine YJ ?_
 refine zc 6 ?_ ?_ <;> intro h5
 ·
  obtain ⟨a, r, hp⟩ := hl (by simpa using h5)
  have ha : l.ps[0]? = some a := by rw [hp]; rfl
  refine QO ?_; refine uP (X7 h5) (Qh rfl rfl rfl 0 rfl _ (Xt ha) rfl) ?_; refine KO ?_
  refine uP (X7 h5) (Qc (Qqz a) rfl rfl rfl) ?_; refine QO ?_; refine zP (Qc (Wy _ _) rfl rfl rfl) ?_; refine zS ?_; refine zQ ?_
  exact Q2 (by first | (simp only [JH, hp, *]; simp; done) | (simp only [JH, *]; simp))
 refine Xz ?_; refine zP (Qc (Wy _ _) rfl rfl rfl) ?_; refine zS ?_; refine zQ ?_
 exact Q2 (by first | (simp only [JH, hp, *]; simp; done) | (simp only [JH, *]; simp))
theorem QlE (l : Qs) : FC Tryz.prog 105 [.agg (QF l)] (i64 (Jw l)) := by
 refine Qd [2] Tryz.func105 rfl rfl 75 Tryz.ntmps105 (Nat.le_of_ble_eq_true rfl) ?_
 intro E hN
 refine WG ?_
 refine Qi (fun x : {k : Nat // k ≤ (l.nm).length ∧ (l.nm.zipIdx.drop k).all (Qab l) = l.nm.zipIdx.all (Qab l)} => ⟨[(1, .ptr 0 0), (8, XU l.nm), (9, i64 l.nm.length), (10, i64 (x.1 : Nat))], [(0, .var 26 (QF l))], 1⟩) (fun x => (l.nm).length - x.1) (⟨0, Nat.zero_le _, by simp⟩) ?_ ?_
 ·
  exact Qa rfl (Jg ⟨(QE (by simp)), rfl, (Xu trivial)⟩) ⟨rfl, rfl, rfl, trivial⟩
 rintro ⟨k, hk, hg⟩
 dsimp only
 refine JK 8 rfl (fun hl8 => ?_)
 refine QA ?_
 refine zq ?_ ?_ <;> intro h9
 ·
  have hlt : k < (l.nm).length := by simpa using h9
  obtain ⟨x, hx⟩ := Qk hlt
  refine Je ?_; refine zP (Qh rfl rfl rfl k rfl _ (Qq hx) rfl) ?_; refine Xz ?_; refine zP (Qc (QeI _) rfl rfl rfl) ?_
  refine QO ?_
  refine zc 18 ?_ ?_ <;> intro h12
  ·
   refine Qe3 ?_; refine zQ ?_
   exact Q2 (by rw [Jw, Q6 hg (Qem hx) (by simp_all [Qab])]; simp)
  refine QJ ?_
  refine zc 22 ?_ ?_ <;> intro h15
  rotate_left
  ·
   refine Je ?_; refine uP (JI (m1 (n0 h12))) (Ji rfl rfl h15 rfl) ?_; refine Xz ?_; refine Qb ?_
   exact ⟨⟨k + 1, hlt, XF hg (Qem hx) (by simp_all [Qab])⟩, Qa rfl (Xl ⟨(QE (by dsimp only; omega)), rfl, trivial⟩) ⟨rfl, rfl, rfl, trivial⟩, by dsimp only; omega⟩
  refine QC ?_; refine uP (X7 h15) (QtK rfl rfl rfl k rfl (by omega) (by exact fun _ => rfl)) ?_; refine KO ?_
  refine uP (X7 h15) (Qc (Qf7 _ _) rfl rfl rfl) ?_; refine uP (JI (m1 (n0 h12))) (XI rfl rfl h15 rfl) ?_; refine QO ?_
  refine zq ?_ ?_ <;> intro h19
  ·
   refine QC ?_; refine zQ ?_
   exact Q2 (by rw [Jw, Q6 hg (Qem hx) (by simp_all [Qab])]; simp)
  refine QJ ?_; refine Qb ?_
  exact ⟨⟨k + 1, hlt, XF hg (Qem hx) (by simp_all [Qab])⟩, Qa rfl (Xl ⟨(QE (by dsimp only; omega)), rfl, trivial⟩) ⟨rfl, rfl, rfl, trivial⟩, by dsimp only; omega⟩
 have hge : (l.nm).length ≤ k := by simpa using h9
 have hA := X4 hg (by rw [Quj]; exact hge)
 refine QO ?_; refine QaL (⟨[(1, .ptr 0 0), (40, bl (l.k != 6 && !Qo l.nm))], [(0, .var 26 (QF l))], 1⟩) ?_ ?_
 ·
  refine QA ?_
  refine zc 35 ?_ ?_ <;> intro h24
  ·
   refine QO ?_; refine uP (X7 h24) (Qc (QaC _) rfl rfl rfl) ?_; refine QO ?_; refine Qb ?_
   exact Qa rfl (Xu ⟨(KG (by simp_all)), rfl, trivial⟩) ⟨rfl, rfl, rfl, trivial⟩
  refine QA ?_; refine Qb ?_
  exact Qa rfl (Xu ⟨(KG (by simp_all)), rfl, trivial⟩) ⟨rfl, rfl, rfl, trivial⟩
 refine zq ?_ ?_ <;> intro h28
 ·
  refine QC ?_; refine zQ ?_
  exact Q2 (by rw [Jw, hA]; simp_all)
 refine XN ?_
 refine Qi (fun x : {k : Nat // k ≤ (l.rs).length ∧ (l.rs.drop k).all (Wf l.nm) = l.rs.all (Wf l.nm)} => ⟨[(1, .ptr 0 0), (42, rus l.rs), (43, i64 l.rs.length), (44, i64 (x.1 : Nat))], [(0, .var 26 (QF l))], 1⟩) (fun x => (l.rs).length - x.1) (⟨0, Nat.zero_le _, by simp⟩) ?_ ?_
 ·
  exact Qa rfl (Jg ⟨(QE (by simp)), rfl, (Xu trivial)⟩) ⟨rfl, rfl, rfl, trivial⟩
 rintro ⟨k, hk, hg⟩
 dsimp only
 refine JK 42 rfl (fun hl8 => ?_)
 refine QA ?_
 refine zq ?_ ?_ <;> intro h35
 rotate_left
 ·
  have hge : (l.rs).length ≤ k := by simpa using h35
  refine QJ ?_; refine zQ ?_
  exact Q2 (by rw [Jw, hA, X4 hg hge]; simp_all <;> (intros; simp_all))
 have hlt : k < (l.rs).length := by simpa using h35
 obtain ⟨x, hx⟩ := Qk hlt
 refine QA ?_; refine zP (Qh rfl rfl rfl k rfl _ (Qq hx) rfl) ?_; refine YJ ?_
 refine zc 52 ?_ ?_ <;> intro h43
 ·
  refine Yd ?_; refine QO ?_; refine zQ ?_
  exact Q2 (by rw [Jw, Q6 hg hx (by simp_all [Wf])]; simp)
 refine QO ?_; refine uP (JI h43) (Qc (QaC _) rfl rfl rfl) ?_; refine QC ?_
 refine zc 58 ?_ ?_ <;> intro h46
 ·
  refine Qis ?_; refine zQ ?_
  exact Q2 (by rw [Jw, Q6 hg hx (by simp_all [Wf])]; simp)
 refine QJ ?_; refine uP (JI (m1 (n0 h46))) (Qc (QbC _ _) rfl rfl rfl) ?_; refine QC ?_
 refine zc 66 ?_ ?_ <;> intro h51
 ·
  refine JA ?_; refine zQ ?_
  exact Q2 (by rw [Jw, Q6 hg hx (by simp_all [Wf])]; simp)
 refine QJ ?_; refine uP (JI (m1 (n0 h51))) (Qc (QhJ _ _) rfl rfl rfl) ?_; refine QC ?_
 refine zq ?_ ?_ <;> intro h56
 ·
  refine QC ?_; refine zQ ?_
  exact Q2 (by rw [Jw, Q6 hg hx (by simp_all [Wf])]; simp)
 refine QJ ?_; refine Qb ?_
 exact ⟨⟨k + 1, hlt, XF hg hx (by simp_all [Wf])⟩, Qa rfl (Xl ⟨(QE (by dsimp only; omega)), rfl, trivial⟩) ⟨rfl, rfl, rfl, trivial⟩, by dsimp only; omega⟩
theorem QvL (l : List Int) : FC Tryz.prog 103 [ivs l] (i64 (orE l)) := by
 refine Qd [2] Tryz.func103 rfl rfl 18 Tryz.ntmps103 (Nat.le_of_ble_eq_true rfl) ?_
 intro E hN
 refine JK 0 rfl (fun hl0 => ?_)
 refine QeT ?_
 refine Qi (fun x : {k : Nat // k ≤ (l).length ∧ orE (l.drop k) = orE l} => ⟨[(3, i64 0), (6, ivs l), (7, i64 l.length), (8, i64 (x.1 : Nat))], [], 0⟩) (fun x => (l).length - x.1) (⟨0, Nat.zero_le _, by simp⟩) ?_ ?_
 ·
  exact Qa rfl (Jg ⟨(QE (by simp)), rfl, (Xu trivial)⟩) trivial
 rintro ⟨k, hk, hg⟩
 dsimp only
 refine QA ?_
 refine zq ?_ ?_ <;> intro h6
 rotate_left
 ·
  have hge : (l).length ≤ k := by simpa using h6
  refine QA ?_; refine zQ ?_
  exact Q2 (by rw [← hg, List.drop_of_length_le hge]; rfl)
 have hlt : k < (l).length := by simpa using h6
 obtain ⟨x, hx⟩ := Qk hlt
 have hs : orE l = if x == 0 then orE (l.drop (k + 1)) else x := by rw [← hg, XL hx]; rfl
 refine QA ?_; refine zP (Qh rfl rfl rfl k rfl _ (Qq hx) rfl) ?_; refine JU ?_
 refine zq ?_ ?_ <;> intro h9
 ·
  refine QJ ?_; refine zQ ?_
  exact Q2 (by rw [hs, if_neg (by simp_all)])
 have hn : orE (l.drop (k + 1)) = orE l := by rw [hs, if_pos (by simpa using h9)]
 refine QJ ?_; refine Qb ?_
 exact ⟨⟨k + 1, hlt, hn⟩, Qa rfl (Xl ⟨(QE (by dsimp only; omega)), rfl, trivial⟩) trivial, by dsimp only; omega⟩
theorem Qs7 (l : Qs) (n d : Int) (hd : d = 7) : GC Tryz.prog 68 [.ptr Ju 0, .agg (QF l), i64 d] [(Ju, .var 101 [i64 n])] (i64 (Q7 0 l n).1) [(Ju, .var 101 [i64 (Q7 0 l n).2])] := by
 subst hd
 refine Qfo [6] Tryz.func68 rfl rfl 62 Tryz.ntmps68 (Nat.le_of_ble_eq_true rfl) ?_
 intro E hN
 refine YJ ?_
 refine zc 14 ?_ ?_ <;> intro h5
 ·
  refine JA ?_; refine QG ?_
  change (YK _ _).fzt = some _ ∧ _
  refine Qd6 rfl ?_ rfl ?_ rfl
  all_goals rfl
 exact absurd h5 (by decide)
section
variable {f : Nat} {l : Qs} {n : Int}
theorem QlL (h : n ≥ 64) : Q7 (f + 1) l n = (6, n) := by unfold Q7; rw [if_pos h]
theorem QeZ (h : n < 64) (h1 : (Xq l != 0) = true) : Q7 (f + 1) l n = (Xq l, n + 1) := by
 unfold Q7; rw [if_neg (by omega), if_pos h1]
theorem Qqr (h : n < 64) (h1 : (Xq l != 0) = false) (h2 : (orE [J7 l, Jw l, X9 l, JH l] != 0) = true) : Q7 (f + 1) l n = (orE [J7 l, Jw l, X9 l, JH l], n + 1) := by
 unfold Q7; rw [if_neg (by omega), if_neg (by rw [h1]; decide), if_pos h2]
theorem Qcf (h : n < 64) (h1 : (Xq l != 0) = false) (h2 : (orE [J7 l, Jw l, X9 l, JH l] != 0) = false) : Q7 (f + 1) l n = J4 (Q7 f) l.ps (n + 1) := by
 unfold Q7; rw [if_neg (by omega), if_neg (by rw [h1]; decide), if_neg (by rw [h2]; decide)]
end
theorem Quu (f : Nat) (hf : f + 1 ≤ 6) (ih : ∀ (l : Qs) (n d : Int), d = 7 - (f : Int) → 0 ≤ n → GC Tryz.prog 68 [.ptr Ju 0, .agg (QF l), i64 d] [(Ju, .var 101 [i64 n])] (i64 (Q7 f l n).1) [(Ju, .var 101 [i64 (Q7 f l n).2])]) (l : Qs) (n d : Int) (hd : d = 7 - ((f + 1 : Nat) : Int)) (hn : 0 ≤ n) : GC Tryz.prog 68 [.ptr Ju 0, .agg (QF l), i64 d] [(Ju, .var 101 [i64 n])] (i64 (Q7 (f + 1) l n).1) [(Ju, .var 101 [i64 (Q7 (f + 1) l n).2])] := by
 refine Qfo [6] Tryz.func68 rfl rfl 62 Tryz.ntmps68 (Nat.le_of_ble_eq_true rfl) ?_
 intro E hN
 refine YJ ?_
 refine zc 14 ?_ ?_ <;> intro h5
 ·
  exact absurd h5 (by simp; omega)
 refine KO ?_; refine uP (JI h5) (Qeu rfl rfl rfl) ?_; refine QA ?_
 refine zq ?_ ?_ <;> intro h8
 ·
  have h64 : n ≥ 64 := by simpa using h8
  refine QJ ?_; refine QG ?_
  change (YK _ _).fzt = some _ ∧ _
  refine Qd6 rfl ?_ rfl ?_ rfl
  ·exact Q2 (by rw [QlL h64])
  show QH.var _ [i64 _] = QH.var _ [i64 _]
  rw [QlL h64]
 have h64 : n < 64 := by simpa using h8
 refine QJ ?_; refine zP (Qeu rfl rfl rfl) ?_; refine QC ?_; refine zP (Qeu rfl rfl rfl) ?_; refine Xz ?_
 refine zP (Qc (Qsm _) rfl rfl rfl) ?_; refine Xz ?_
 refine zq ?_ ?_ <;> intro h16
 ·
  have h5 := h16
  refine QA ?_; refine QG ?_
  change (YK _ _).fzt = some _ ∧ _
  refine Qd6 rfl ?_ rfl ?_ rfl
  ·exact Q2 (by rw [QeZ h64 h5])
  show QH.var _ [i64 _] = QH.var _ [i64 _]
  rw [QeZ h64 h5]
 have h5 := h16
 refine QC ?_; refine Qy 10 (by kernel_rfl) (by kernel_rfl) ?_; refine zl ?_; refine zp (Qc (Qp6 _) rfl rfl rfl) ?_; refine zl ?_
 refine zp (Qc (QlE _) rfl rfl rfl) ?_; refine zl ?_; refine zp (Qc (Qpl _) rfl rfl rfl) ?_; refine zl ?_
 refine zp (Qc (QpL _ (fun h => Qkm (by simpa using h5) h)) rfl rfl rfl) ?_
 refine zp (Qj rfl rfl rfl rfl (by exact rfl) (by decide) (by decide)) ?_
 refine zp (Qc (QvL [J7 l, Jw l, X9 l, JH l]) rfl rfl rfl) ?_; change Qz _ _ _ _ _ _; refine Xz ?_
 refine zq ?_ ?_ <;> intro h27
 ·
  have h8 := h27
  refine QA ?_; refine QG ?_
  change (YK _ _).fzt = some _ ∧ _
  refine Qd6 rfl ?_ rfl ?_ rfl
  ·exact Q2 (by rw [Qqr h64 h5 h8])
  show QH.var _ [i64 _] = QH.var _ [i64 _]
  rw [Qqr h64 h5 h8]
 have h8 := h27
 refine XN ?_
 refine Qi (fun x : {q : Nat × Int // q.1 ≤ l.ps.length ∧ 0 ≤ q.2 ∧ J4 (Q7 f) (l.ps.drop q.1) q.2 = J4 (Q7 f) l.ps (n + 1)} => ⟨[(0, .ptr Ju 0), (2, i64 d), (47, Qp5 l.ps), (48, i64 l.ps.length), (49, i64 (x.1.1 : Nat))], [(Ju, .var 101 [i64 x.1.2])], 1⟩) (fun x => l.ps.length - x.1.1) (⟨(0, n + 1), Nat.zero_le _, by show 0 ≤ n + 1; omega, by simp⟩) ?_ ?_
 ·
  exact Qa rfl (Xl ⟨(QE (by simp)), rfl, (Xu trivial)⟩) ⟨rfl, rfl, rfl, trivial⟩
 rintro ⟨⟨k, m⟩, hk, hm, hg⟩
 dsimp only at hk hm hg ⊢
 refine JK 47 rfl (fun hl8 => ?_)
 refine QA ?_
 refine zq ?_ ?_ <;> intro h34
 rotate_left
 ·
  have hge : (l.ps).length ≤ k := by simpa using h34
  refine QA ?_; refine QG ?_
  change (YK _ _).fzt = some _ ∧ _
  refine Qd6 rfl ?_ rfl ?_ rfl
  ·exact Q2 (by rw [Qcf h64 h5 h8, ← QmF hg hge])
  show QH.var _ [i64 _] = QH.var _ [i64 _]
  rw [Qcf h64 h5 h8, ← QmF hg hge]
 have hlt : k < (l.ps).length := by simpa using h34
 obtain ⟨x, hx⟩ := Qk hlt
 refine QA ?_; refine zP (Qh rfl rfl rfl k rfl _ (Xt hx) rfl) ?_; refine XN ?_
 refine QhB hN Ju (ih x m _ (by omega) hm) (.fn _ _ _ _ rfl rfl) rfl rfl rfl rfl rfl rfl rfl rfl rfl rfl rfl ?_; refine Xz ?_
 refine zq ?_ ?_ <;> intro h42
 ·
  have h14 := h42
  refine QA ?_; refine QG ?_
  change (YK _ _).fzt = some _ ∧ _
  refine Qd6 rfl ?_ rfl ?_ rfl
  ·exact Q2 (by rw [Qcf h64 h5 h8, ← hg, QjS rfl hx h14])
  show QH.var _ [i64 _] = QH.var _ [i64 _]
  rw [Qcf h64 h5 h8, ← hg, QjS rfl hx h14]
 have h14 := h42
 refine QJ ?_; refine Qb ?_
 exact ⟨⟨(k + 1, (Q7 f x m).2), hlt, Qfp _ _ _ hm, QuF hg hx h14⟩, Qa rfl (QR ⟨(QE (by dsimp only; omega)), rfl, trivial⟩) ⟨rfl, rfl, rfl, trivial⟩, by dsimp only; omega⟩
theorem Ql2 : ∀ (f : Nat) (l : Qs) (n d : Int), f ≤ 6 → d = 7 - (f : Int) → 0 ≤ n → GC Tryz.prog 68 [.ptr Ju 0, .agg (QF l), i64 d] [(Ju, .var 101 [i64 n])] (i64 (Q7 f l n).1) [(Ju, .var 101 [i64 (Q7 f l n).2])]
 | 0, l, n, d, _, hd, _ => Qs7 l n d (by simpa using hd)
 | f + 1, l, n, d, hf, hd, hn => Quu f hf (fun l n d h1 h2 => Ql2 f l n d (by omega) h1 h2) l n d hd hn
theorem Wx (l : Qs) : FC Tryz.prog 46 [.agg (QF l)] (i64 (Q0 l)) := by
 refine Qd [2] Tryz.func46 rfl rfl 7 Tryz.ntmps46 (Nat.le_of_ble_eq_true rfl) ?_
 intro E hN
 refine WG ?_
 refine QhB hN 1 (Ql2 6 l 0 1 (by decide) rfl (by decide)) (.fn _ _ _ _ rfl rfl) rfl rfl rfl rfl rfl rfl rfl rfl rfl rfl rfl ?_; refine zS ?_
 refine zQ ?_
 rfl
end Go.Proofs.YtaecccdkjmipeaaGreat
