/-
  Contracts: descriptions of lattices are checked: Check.
-/
import Derived.Test.YtnkkokmmeplbgaaGreatB2
namespace Go.Proofs.YtnkkokmmeplbgaaGreat
set_option maxRecDepth 100000
set_option maxHeartbeats 1000000
open Go.RowKit
theorem Qrb (l : List Nm) : l.zipIdx.length = l.length := by simp
theorem QiP {l : QD} (h : Xo l = 0) (hk : l.k = 7) : ∃ a r, l.ps = a :: r := by
 unfold Xo at h
 have hkn : Yz l.k = true := by rw [hk]; decide
 rw [if_pos hkn] at h
 have hb : Kj l = false := by
  cases hb : Kj l
  ·rfl
  rw [hb] at h; simp [J1] at h
 cases hp : l.ps with
 | cons a r => exact ⟨a, r, rfl⟩
 | nil =>
  simp [Kj, JL, hk, hp] at hb
section
variable {g : QD → Int → Int × Int} {l : List QD} {k : Nat} {x : QD} {m : Int} {v : Int × Int}
theorem QrR (hg : JE g (l.drop k) m = v) (h : l[k]? = some x) (h0 : ((g x m).1 != 0) = false) : JE g (l.drop (k + 1)) (g x m).2 = v := by
 rw [XA h] at hg
 unfold JE at hg
 rwa [if_pos (by simpa using h0)] at hg
theorem Qid (hg : JE g (l.drop k) m = v) (h : l[k]? = some x) (h0 : ((g x m).1 != 0) = true) : g x m = v := by
 rw [XA h] at hg
 unfold JE at hg
 rwa [if_neg (by simpa using h0)] at hg
theorem QlF (hg : JE g (l.drop k) m = v) (h : l.length ≤ k) : (0, m) = v := by
 rw [List.drop_of_length_le h] at hg; exact hg
end
theorem Qnk (l : QD) (hl : l.k = 7 → ∃ a r, l.ps = a :: r) : FC Tryz.prog 157 [.agg (Q2 l)] (i64 (Js l)) := by
 refine Qg [2] Tryz.func157 rfl rfl 15 Tryz.ntmps157 (Nat.le_of_ble_eq_true rfl) ?_
 intro E hN
 refine Jv ?_
 refine zc 6 ?_ ?_ <;> intro h5
 ·
  obtain ⟨a, r, hp⟩ := hl (by simpa using h5)
  have ha : l.ps[0]? = some a := by rw [hp]; rfl
  refine Qu ?_; refine uP (XG h5) (Qf rfl rfl rfl 0 rfl _ (XK ha) rfl) ?_; refine Jk ?_
  refine uP (XG h5) (Qc (QoA a) rfl rfl rfl) ?_; refine Qu ?_; refine zP (Qc (Wg _ _) rfl rfl rfl) ?_; refine zS ?_; refine zQ ?_
  exact QS (by first | (simp only [Js, hp, *]; simp; done) | (simp only [Js, *]; simp))
 refine Q4 ?_; refine zP (Qc (Wg _ _) rfl rfl rfl) ?_; refine zS ?_; refine zQ ?_
 exact QS (by first | (simp only [Js, hp, *]; simp; done) | (simp only [Js, *]; simp))
theorem Qkl (l : QD) : FC Tryz.prog 155 [.agg (Q2 l)] (i64 (Jr l)) := by
 refine Qg [2] Tryz.func155 rfl rfl 75 Tryz.ntmps155 (Nat.le_of_ble_eq_true rfl) ?_
 intro E hN
 refine Ki ?_
 refine Ql (fun x : {k : Nat // k ≤ (l.nm).length ∧ (l.nm.zipIdx.drop k).all (W0 l) = l.nm.zipIdx.all (W0 l)} => ⟨[(1, .ptr 0 0), (8, X1 l.nm), (9, i64 l.nm.length), (10, i64 (x.1 : Nat))], [(0, .var 26 (Q2 l))], 1⟩) (fun x => (l.nm).length - x.1) (⟨0, Nat.zero_le _, by simp⟩) ?_ ?_
 ·
  exact Qa rfl (JI ⟨(Q0 (by simp)), rfl, (Xv trivial)⟩) ⟨rfl, rfl, rfl, trivial⟩
 rintro ⟨k, hk, hg⟩
 dsimp only
 refine Jj 8 rfl (fun hl8 => ?_)
 refine QF ?_
 refine zq ?_ ?_ <;> intro h9
 ·
  have hlt : k < (l.nm).length := by simpa using h9
  obtain ⟨x, hx⟩ := Qn hlt
  refine Q8 ?_; refine zP (Qf rfl rfl rfl k rfl _ (Qk hx) rfl) ?_; refine Q4 ?_; refine zP (Qc (Qd6 _) rfl rfl rfl) ?_
  refine Qu ?_
  refine zc 18 ?_ ?_ <;> intro h12
  ·
   refine QeT ?_; refine zQ ?_
   exact QS (by rw [Jr, Q3 hg (QfR hx) (by simp_all [W0])]; simp)
  refine Qv ?_
  refine zc 22 ?_ ?_ <;> intro h15
  rotate_left
  ·
   refine Q8 ?_; refine uP (Xj (m1 (n0 h12))) (Xw rfl rfl h15 rfl) ?_; refine Q4 ?_; refine Qb ?_
   exact ⟨⟨k + 1, hlt, Xx hg (QfR hx) (by simp_all [W0])⟩, Qa rfl (JO ⟨(Q0 (by dsimp only; omega)), rfl, trivial⟩) ⟨rfl, rfl, rfl, trivial⟩, by dsimp only; omega⟩
  refine Qs ?_; refine uP (XG h15) (Qrm rfl rfl rfl k rfl (by omega) (by exact fun _ => rfl)) ?_; refine Jk ?_
  refine uP (XG h15) (Qc (Qfb _ _) rfl rfl rfl) ?_; refine uP (Xj (m1 (n0 h12))) (Xu rfl rfl h15 rfl) ?_; refine Qu ?_
  refine zq ?_ ?_ <;> intro h19
  ·
   refine Qs ?_; refine zQ ?_
   exact QS (by rw [Jr, Q3 hg (QfR hx) (by simp_all [W0])]; simp)
  refine Qv ?_; refine Qb ?_
  exact ⟨⟨k + 1, hlt, Xx hg (QfR hx) (by simp_all [W0])⟩, Qa rfl (JO ⟨(Q0 (by dsimp only; omega)), rfl, trivial⟩) ⟨rfl, rfl, rfl, trivial⟩, by dsimp only; omega⟩
 have hge : (l.nm).length ≤ k := by simpa using h9
 have hA := XU hg (by rw [Qrb]; exact hge)
 refine Qu ?_; refine Wm (⟨[(1, .ptr 0 0), (40, bl (l.k != 6 && !Qq l.nm))], [(0, .var 26 (Q2 l))], 1⟩) ?_ ?_
 ·
  refine QF ?_
  refine zc 35 ?_ ?_ <;> intro h24
  ·
   refine Qu ?_; refine uP (XG h24) (Qc (Qal _) rfl rfl rfl) ?_; refine Qu ?_; refine Qb ?_
   exact Qa rfl (Xv ⟨(YT (by simp_all)), rfl, trivial⟩) ⟨rfl, rfl, rfl, trivial⟩
  refine QF ?_; refine Qb ?_
  exact Qa rfl (Xv ⟨(YT (by simp_all)), rfl, trivial⟩) ⟨rfl, rfl, rfl, trivial⟩
 refine zq ?_ ?_ <;> intro h28
 ·
  refine Qs ?_; refine zQ ?_
  exact QS (by rw [Jr, hA]; simp_all)
 refine XB ?_
 refine Ql (fun x : {k : Nat // k ≤ (l.rs).length ∧ (l.rs.drop k).all (K5 l.nm) = l.rs.all (K5 l.nm)} => ⟨[(1, .ptr 0 0), (42, rus l.rs), (43, i64 l.rs.length), (44, i64 (x.1 : Nat))], [(0, .var 26 (Q2 l))], 1⟩) (fun x => (l.rs).length - x.1) (⟨0, Nat.zero_le _, by simp⟩) ?_ ?_
 ·
  exact Qa rfl (JI ⟨(Q0 (by simp)), rfl, (Xv trivial)⟩) ⟨rfl, rfl, rfl, trivial⟩
 rintro ⟨k, hk, hg⟩
 dsimp only
 refine Jj 42 rfl (fun hl8 => ?_)
 refine QF ?_
 refine zq ?_ ?_ <;> intro h35
 rotate_left
 ·
  have hge : (l.rs).length ≤ k := by simpa using h35
  refine Qv ?_; refine zQ ?_
  exact QS (by rw [Jr, hA, XU hg hge]; simp_all <;> (intros; simp_all))
 have hlt : k < (l.rs).length := by simpa using h35
 obtain ⟨x, hx⟩ := Qn hlt
 refine QF ?_; refine zP (Qf rfl rfl rfl k rfl _ (Qk hx) rfl) ?_; refine Jv ?_
 refine zc 52 ?_ ?_ <;> intro h43
 ·
  refine QaA ?_; refine Qu ?_; refine zQ ?_
  exact QS (by rw [Jr, Q3 hg hx (by simp_all [K5])]; simp)
 refine Qu ?_; refine uP (Xj h43) (Qc (Qal _) rfl rfl rfl) ?_; refine Qs ?_
 refine zc 58 ?_ ?_ <;> intro h46
 ·
  refine Qlr ?_; refine zQ ?_
  exact QS (by rw [Jr, Q3 hg hx (by simp_all [K5])]; simp)
 refine Qv ?_; refine uP (Xj (m1 (n0 h46))) (Qc (Qc5 _ _) rfl rfl rfl) ?_; refine Qs ?_
 refine zc 66 ?_ ?_ <;> intro h51
 ·
  refine X6 ?_; refine zQ ?_
  exact QS (by rw [Jr, Q3 hg hx (by simp_all [K5])]; simp)
 refine Qv ?_; refine uP (Xj (m1 (n0 h51))) (Qc (Qi6 _ _) rfl rfl rfl) ?_; refine Qs ?_
 refine zq ?_ ?_ <;> intro h56
 ·
  refine Qs ?_; refine zQ ?_
  exact QS (by rw [Jr, Q3 hg hx (by simp_all [K5])]; simp)
 refine Qv ?_; refine Qb ?_
 exact ⟨⟨k + 1, hlt, Xx hg hx (by simp_all [K5])⟩, Qa rfl (JO ⟨(Q0 (by dsimp only; omega)), rfl, trivial⟩) ⟨rfl, rfl, rfl, trivial⟩, by dsimp only; omega⟩
theorem Qsy (l : List Int) : FC Tryz.prog 153 [ivs l] (i64 (orE l)) := by
 refine Qg [2] Tryz.func153 rfl rfl 18 Tryz.ntmps153 (Nat.le_of_ble_eq_true rfl) ?_
 intro E hN
 refine Jj 0 rfl (fun hl0 => ?_)
 refine Qcb ?_
 refine Ql (fun x : {k : Nat // k ≤ (l).length ∧ orE (l.drop k) = orE l} => ⟨[(3, i64 0), (6, ivs l), (7, i64 l.length), (8, i64 (x.1 : Nat))], [], 0⟩) (fun x => (l).length - x.1) (⟨0, Nat.zero_le _, by simp⟩) ?_ ?_
 ·
  exact Qa rfl (JI ⟨(Q0 (by simp)), rfl, (Xv trivial)⟩) trivial
 rintro ⟨k, hk, hg⟩
 dsimp only
 refine QF ?_
 refine zq ?_ ?_ <;> intro h6
 rotate_left
 ·
  have hge : (l).length ≤ k := by simpa using h6
  refine QF ?_; refine zQ ?_
  exact QS (by rw [← hg, List.drop_of_length_le hge]; rfl)
 have hlt : k < (l).length := by simpa using h6
 obtain ⟨x, hx⟩ := Qn hlt
 have hs : orE l = if x == 0 then orE (l.drop (k + 1)) else x := by rw [← hg, XA hx]; rfl
 refine QF ?_; refine zP (Qf rfl rfl rfl k rfl _ (Qk hx) rfl) ?_; refine JA ?_
 refine zq ?_ ?_ <;> intro h9
 ·
  refine Qv ?_; refine zQ ?_
  exact QS (by rw [hs, if_neg (by simp_all)])
 have hn : orE (l.drop (k + 1)) = orE l := by rw [hs, if_pos (by simpa using h9)]
 refine Qv ?_; refine Qb ?_
 exact ⟨⟨k + 1, hlt, hn⟩, Qa rfl (JO ⟨(Q0 (by dsimp only; omega)), rfl, trivial⟩) trivial, by dsimp only; omega⟩
theorem QrA (l : QD) (n d : Int) (hd : d = 7) : GC Tryz.prog 126 [.ptr QB 0, .agg (Q2 l), i64 d] [(QB, .var 164 [i64 n])] (i64 (Xc 0 l n).1) [(QB, .var 164 [i64 (Xc 0 l n).2])] := by
 subst hd
 refine XL [6] Tryz.func126 rfl rfl 62 Tryz.ntmps126 (Nat.le_of_ble_eq_true rfl) ?_
 intro E hN
 refine Jv ?_
 refine zc 14 ?_ ?_ <;> intro h5
 ·
  refine X6 ?_; refine Qh ?_
  change (Xa _ _).fzt = some _ ∧ _
  refine Jl rfl ?_ rfl ?_ rfl
  all_goals rfl
 exact absurd h5 (by decide)
section
variable {f : Nat} {l : QD} {n : Int}
theorem Qjl (h : n ≥ 64) : Xc (f + 1) l n = (6, n) := by unfold Xc; rw [if_pos h]
theorem Qei (h : n < 64) (h1 : (Xo l != 0) = true) : Xc (f + 1) l n = (Xo l, n + 1) := by
 unfold Xc; rw [if_neg (by omega), if_pos h1]
theorem QpN (h : n < 64) (h1 : (Xo l != 0) = false) (h2 : (orE [JC l, Jr l, X7 l, Js l] != 0) = true) : Xc (f + 1) l n = (orE [JC l, Jr l, X7 l, Js l], n + 1) := by
 unfold Xc; rw [if_neg (by omega), if_neg (by rw [h1]; decide), if_pos h2]
theorem QbA (h : n < 64) (h1 : (Xo l != 0) = false) (h2 : (orE [JC l, Jr l, X7 l, Js l] != 0) = false) : Xc (f + 1) l n = JE (Xc f) l.ps (n + 1) := by
 unfold Xc; rw [if_neg (by omega), if_neg (by rw [h1]; decide), if_neg (by rw [h2]; decide)]
end
theorem QqJ (f : Nat) (hf : f + 1 ≤ 6) (ih : ∀ (l : QD) (n d : Int), d = 7 - (f : Int) → 0 ≤ n → GC Tryz.prog 126 [.ptr QB 0, .agg (Q2 l), i64 d] [(QB, .var 164 [i64 n])] (i64 (Xc f l n).1) [(QB, .var 164 [i64 (Xc f l n).2])]) (l : QD) (n d : Int) (hd : d = 7 - ((f + 1 : Nat) : Int)) (hn : 0 ≤ n) : GC Tryz.prog 126 [.ptr QB 0, .agg (Q2 l), i64 d] [(QB, .var 164 [i64 n])] (i64 (Xc (f + 1) l n).1) [(QB, .var 164 [i64 (Xc (f + 1) l n).2])] := by
 refine XL [6] Tryz.func126 rfl rfl 62 Tryz.ntmps126 (Nat.le_of_ble_eq_true rfl) ?_
 intro E hN
 refine Jv ?_
 refine zc 14 ?_ ?_ <;> intro h5
 ·
  exact absurd h5 (by simp; omega)
 refine Jk ?_; refine uP (Xj h5) (Qe rfl rfl rfl) ?_; refine QF ?_
 refine zq ?_ ?_ <;> intro h8
 ·
  have h64 : n ≥ 64 := by simpa using h8
  refine Qv ?_; refine Qh ?_
  change (Xa _ _).fzt = some _ ∧ _
  refine Jl rfl ?_ rfl ?_ rfl
  ·exact QS (by rw [Qjl h64])
  show Qx.var _ [i64 _] = Qx.var _ [i64 _]
  rw [Qjl h64]
 have h64 : n < 64 := by simpa using h8
 refine Qv ?_; refine zP (Qe rfl rfl rfl) ?_; refine Qs ?_; refine zP (Qe rfl rfl rfl) ?_; refine Q4 ?_
 refine zP (Qc (QoR _) rfl rfl rfl) ?_; refine Q4 ?_
 refine zq ?_ ?_ <;> intro h16
 ·
  have h5 := h16
  refine QF ?_; refine Qh ?_
  change (Xa _ _).fzt = some _ ∧ _
  refine Jl rfl ?_ rfl ?_ rfl
  ·exact QS (by rw [Qei h64 h5])
  show Qx.var _ [i64 _] = Qx.var _ [i64 _]
  rw [Qei h64 h5]
 have h5 := h16
 refine Qs ?_; refine Qd 10 (by kernel_rfl) (by kernel_rfl) ?_; refine zl ?_; refine zp (Qc (Qnl _) rfl rfl rfl) ?_; refine zl ?_
 refine zp (Qc (Qkl _) rfl rfl rfl) ?_; refine zl ?_; refine zp (Qc (Qn1 _) rfl rfl rfl) ?_; refine zl ?_
 refine zp (Qc (Qnk _ (fun h => QiP (by simpa using h5) h)) rfl rfl rfl) ?_
 refine zp (QE rfl rfl rfl rfl (by exact rfl) (by decide) (by decide)) ?_
 refine zp (Qc (Qsy [JC l, Jr l, X7 l, Js l]) rfl rfl rfl) ?_; change Qj _ _ _ _ _ _; refine Q4 ?_
 refine zq ?_ ?_ <;> intro h27
 ·
  have h8 := h27
  refine QF ?_; refine Qh ?_
  change (Xa _ _).fzt = some _ ∧ _
  refine Jl rfl ?_ rfl ?_ rfl
  ·exact QS (by rw [QpN h64 h5 h8])
  show Qx.var _ [i64 _] = Qx.var _ [i64 _]
  rw [QpN h64 h5 h8]
 have h8 := h27
 refine XB ?_
 refine Ql (fun x : {q : Nat × Int // q.1 ≤ l.ps.length ∧ 0 ≤ q.2 ∧ JE (Xc f) (l.ps.drop q.1) q.2 = JE (Xc f) l.ps (n + 1)} => ⟨[(0, .ptr QB 0), (2, i64 d), (47, Qgi l.ps), (48, i64 l.ps.length), (49, i64 (x.1.1 : Nat))], [(QB, .var 164 [i64 x.1.2])], 1⟩) (fun x => l.ps.length - x.1.1) (⟨(0, n + 1), Nat.zero_le _, by show 0 ≤ n + 1; omega, by simp⟩) ?_ ?_
 ·
  exact Qa rfl (JO ⟨(Q0 (by simp)), rfl, (Xv trivial)⟩) ⟨rfl, rfl, rfl, trivial⟩
 rintro ⟨⟨k, m⟩, hk, hm, hg⟩
 dsimp only at hk hm hg ⊢
 refine Jj 47 rfl (fun hl8 => ?_)
 refine QF ?_
 refine zq ?_ ?_ <;> intro h34
 rotate_left
 ·
  have hge : (l.ps).length ≤ k := by simpa using h34
  refine QF ?_; refine Qh ?_
  change (Xa _ _).fzt = some _ ∧ _
  refine Jl rfl ?_ rfl ?_ rfl
  ·exact QS (by rw [QbA h64 h5 h8, ← QlF hg hge])
  show Qx.var _ [i64 _] = Qx.var _ [i64 _]
  rw [QbA h64 h5 h8, ← QlF hg hge]
 have hlt : k < (l.ps).length := by simpa using h34
 obtain ⟨x, hx⟩ := Qn hlt
 refine QF ?_; refine zP (Qf rfl rfl rfl k rfl _ (XK hx) rfl) ?_; refine XB ?_
 refine XO hN QB (ih x m _ (by omega) hm) (.fn _ _ _ _ rfl rfl) rfl rfl rfl rfl rfl rfl rfl rfl rfl rfl rfl ?_; refine Q4 ?_
 refine zq ?_ ?_ <;> intro h42
 ·
  have h14 := h42
  refine QF ?_; refine Qh ?_
  change (Xa _ _).fzt = some _ ∧ _
  refine Jl rfl ?_ rfl ?_ rfl
  ·exact QS (by rw [QbA h64 h5 h8, ← hg, Qid rfl hx h14])
  show Qx.var _ [i64 _] = Qx.var _ [i64 _]
  rw [QbA h64 h5 h8, ← hg, Qid rfl hx h14]
 have h14 := h42
 refine Qv ?_; refine Qb ?_
 exact ⟨⟨(k + 1, (Xc f x m).2), hlt, QeE _ _ _ hm, QrR hg hx h14⟩, Qa rfl (JH ⟨(Q0 (by dsimp only; omega)), rfl, trivial⟩) ⟨rfl, rfl, rfl, trivial⟩, by dsimp only; omega⟩
theorem Qj2 : ∀ (f : Nat) (l : QD) (n d : Int), f ≤ 6 → d = 7 - (f : Int) → 0 ≤ n → GC Tryz.prog 126 [.ptr QB 0, .agg (Q2 l), i64 d] [(QB, .var 164 [i64 n])] (i64 (Xc f l n).1) [(QB, .var 164 [i64 (Xc f l n).2])]
 | 0, l, n, d, _, hd, _ => QrA l n d (by simpa using hd)
 | f + 1, l, n, d, hf, hd, hn => QqJ f hf (fun l n d h1 h2 => Qj2 f l n d (by omega) h1 h2) l n d hd hn
theorem Qd5 (l : QD) : FC Tryz.prog 77 [.agg (Q2 l)] (i64 (Xp l)) := by
 refine Qg [2] Tryz.func77 rfl rfl 7 Tryz.ntmps77 (Nat.le_of_ble_eq_true rfl) ?_
 intro E hN
 refine Ki ?_
 refine XO hN 1 (Qj2 6 l 0 1 (by decide) rfl (by decide)) (.fn _ _ _ _ rfl rfl) rfl rfl rfl rfl rfl rfl rfl rfl rfl rfl rfl ?_; refine zS ?_
 refine zQ ?_
 rfl
end Go.Proofs.YtnkkokmmeplbgaaGreat
