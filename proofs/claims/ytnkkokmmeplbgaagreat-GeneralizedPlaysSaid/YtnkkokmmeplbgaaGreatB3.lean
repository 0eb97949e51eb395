/-
  Contracts: descriptions of lattices are checked: Check.
-/
import Derived.Test.YtnkkokmmeplbgaaGreatB2
namespace Go.Proofs.YtnkkokmmeplbgaaGreat
set_option maxRecDepth 100000
set_option maxHeartbeats 1000000
open Go.RowKit
theorem Qsh (l : List Nm) : l.zipIdx.length = l.length := by simp
theorem Qj0 {l : Qv} (h : Xr l = 0) (hk : l.k = 7) : ∃ a r, l.ps = a :: r := by
 unfold Xr at h
 have hkn : YU l.k = true := by rw [hk]; decide
 rw [if_pos hkn] at h
 have hb : KN l = false := by
  cases hb : KN l
  ·rfl
  rw [hb] at h; simp [Yb] at h
 cases hp : l.ps with
 | cons a r => exact ⟨a, r, rfl⟩
 | nil =>
  simp [KN, J3, hk, hp] at hb
section
variable {g : Qv → Int → Int × Int} {l : List Qv} {k : Nat} {x : Qv} {m : Int} {v : Int × Int}
theorem Qun (hg : JM g (l.drop k) m = v) (h : l[k]? = some x) (h0 : ((g x m).1 != 0) = false) : JM g (l.drop (k + 1)) (g x m).2 = v := by
 rw [XC h] at hg
 unfold JM at hg
 rwa [if_pos (by simpa using h0)] at hg
theorem Qi1 (hg : JM g (l.drop k) m = v) (h : l[k]? = some x) (h0 : ((g x m).1 != 0) = true) : g x m = v := by
 rw [XC h] at hg
 unfold JM at hg
 rwa [if_neg (by simpa using h0)] at hg
theorem QmO (hg : JM g (l.drop k) m = v) (h : l.length ≤ k) : (0, m) = v := by
 rw [List.drop_of_length_le h] at hg; exact hg
end
theorem Qo3 (l : Qv) (hl : l.k = 7 → ∃ a r, l.ps = a :: r) : FC Tryz.prog 157 [.agg (Q2 l)] (i64 (Jz l)) := by
 refine Qh [2] Tryz.func157 rfl rfl 15 Tryz.ntmps157 (Nat.le_of_ble_eq_true rfl) ?_
 intro E hN;refine Xn ?_
 refine zc 6 ?_ ?_ <;> intro h5
 ·obtain ⟨a, r, hp⟩ := hl (by simpa using h5)
  have ha : l.ps[0]? = some a := by rw [hp]; rfl
  refine QH ?_;refine uP (XO h5) (Qf rfl rfl rfl 0 rfl _ (XK ha) rfl) ?_;refine JB ?_;refine uP (XO h5) (Qd (QqA a) rfl rfl rfl) ?_;refine QH ?_;refine zP (Qd (WT _ _) rfl rfl rfl) ?_;refine zS ?_;refine zQ ?_;exact QZ (by first | (simp only [Jz, hp, *]; simp; done) | (simp only [Jz, *]; simp))
 refine Xg ?_;refine zP (Qd (WT _ _) rfl rfl rfl) ?_;refine zS ?_;refine zQ ?_;exact QZ (by first | (simp only [Jz, hp, *]; simp; done) | (simp only [Jz, *]; simp))
theorem QkT (l : Qv) : FC Tryz.prog 155 [.agg (Q2 l)] (i64 (Jy l)) := by
 refine Qh [2] Tryz.func155 rfl rfl 75 Tryz.ntmps155 (Nat.le_of_ble_eq_true rfl) ?_
 intro E hN;refine YI ?_;refine Qm (fun x : {k : Nat // k ≤ (l.nm).length ∧ (l.nm.zipIdx.drop k).all (QaJ l) = l.nm.zipIdx.all (QaJ l)} => ⟨[(1, .ptr 0 0), (8, XS l.nm), (9, i64 l.nm.length), (10, i64 (x.1 : Nat))], [(0, .var 26 (Q2 l))], 1⟩) (fun x => (l.nm).length - x.1) (⟨0, Nat.zero_le _, by simp⟩) ?_ ?_
 ·exact Qa rfl (Yf ⟨(Y6 (by simp)), rfl, (XE trivial)⟩) ⟨rfl, rfl, rfl, trivial⟩
 rintro ⟨k, hk, hg⟩;dsimp only;refine Jq 8 rfl (fun hl8 => ?_);refine Qy ?_
 refine zq ?_ ?_ <;> intro h9
 ·have hlt : k < (l.nm).length := by simpa using h9
  obtain ⟨x, hx⟩ := Qq hlt;refine Xk ?_;refine zP (Qf rfl rfl rfl k rfl _ (Qi hx) rfl) ?_;refine Xg ?_;refine zP (Qd (QeK _) rfl rfl rfl) ?_;refine QH ?_
  refine zc 18 ?_ ?_ <;> intro h12
  ·refine Qd8 ?_;refine zQ ?_;exact QZ (by rw [Jy, Q6 hg (Qgj hx) (by simp_all [QaJ])]; simp)
  refine QC ?_
  refine zc 22 ?_ ?_ <;> intro h15
  rotate_left
  ·refine Xk ?_;refine uP (X0 (m1 (n0 h12))) (Xx rfl rfl h15 rfl) ?_;refine Xg ?_;refine Qb ?_;exact ⟨⟨k + 1, hlt, XG hg (Qgj hx) (by simp_all [QaJ])⟩, Qa rfl (JZ ⟨X5, rfl, trivial⟩) ⟨rfl, rfl, rfl, trivial⟩, by dsimp only; omega⟩
  refine QD ?_;refine uP (XO h15) (QtT rfl rfl rfl k rfl (by omega) (by exact fun _ => rfl)) ?_;refine JB ?_;refine uP (XO h15) (Qd (QfN _ _) rfl rfl rfl) ?_;refine uP (X0 (m1 (n0 h12))) (XF rfl rfl h15 rfl) ?_;refine QH ?_
  refine zq ?_ ?_ <;> intro h19
  ·refine QD ?_;refine zQ ?_;exact QZ (by rw [Jy, Q6 hg (Qgj hx) (by simp_all [QaJ])]; simp)
  refine QC ?_;refine Qb ?_;exact ⟨⟨k + 1, hlt, XG hg (Qgj hx) (by simp_all [QaJ])⟩, Qa rfl (JZ ⟨X5, rfl, trivial⟩) ⟨rfl, rfl, rfl, trivial⟩, by dsimp only; omega⟩
 have hge : (l.nm).length ≤ k := by simpa using h9
 have hA := X4 hg (by rw [Qsh]; exact hge)
 refine QH ?_;refine JT (⟨[(1, .ptr 0 0), (40, bl (l.k != 6 && !Qt l.nm))], [(0, .var 26 (Q2 l))], 1⟩) ?_ ?_
 ·refine Qy ?_
  refine zc 35 ?_ ?_ <;> intro h24
  ·refine QH ?_;refine uP (XO h24) (Qd (Qa2 _) rfl rfl rfl) ?_;refine QH ?_;refine Qb ?_;exact Qa rfl (XE ⟨(Kk (by simp_all)), rfl, trivial⟩) ⟨rfl, rfl, rfl, trivial⟩
  refine Qy ?_;refine Qb ?_;exact Qa rfl (XE ⟨(Kk (by simp_all)), rfl, trivial⟩) ⟨rfl, rfl, rfl, trivial⟩
 refine zq ?_ ?_ <;> intro h28
 ·refine QD ?_;refine zQ ?_;exact QZ (by rw [Jy, hA]; simp_all)
 refine Xs ?_;refine Qm (fun x : {k : Nat // k ≤ (l.rs).length ∧ (l.rs.drop k).all (WN l.nm) = l.rs.all (WN l.nm)} => ⟨[(1, .ptr 0 0), (42, rus l.rs), (43, i64 l.rs.length), (44, i64 (x.1 : Nat))], [(0, .var 26 (Q2 l))], 1⟩) (fun x => (l.rs).length - x.1) (⟨0, Nat.zero_le _, by simp⟩) ?_ ?_
 ·exact Qa rfl (Yf ⟨(Y6 (by simp)), rfl, (XE trivial)⟩) ⟨rfl, rfl, rfl, trivial⟩
 rintro ⟨k, hk, hg⟩;dsimp only;refine Jq 42 rfl (fun hl8 => ?_);refine Qy ?_
 refine zq ?_ ?_ <;> intro h35
 rotate_left
 ·have hge : (l.rs).length ≤ k := by simpa using h35
  refine QC ?_;refine zQ ?_;exact QZ (by rw [Jy, hA, X4 hg hge]; simp_all <;> (intros; simp_all))
 have hlt : k < (l.rs).length := by simpa using h35
 obtain ⟨x, hx⟩ := Qq hlt;refine Qy ?_;refine zP (Qf rfl rfl rfl k rfl _ (Qi hx) rfl) ?_;refine Xn ?_
 refine zc 52 ?_ ?_ <;> intro h43
 ·refine QaZ ?_;refine QH ?_;refine zQ ?_;exact QZ (by rw [Jy, Q6 hg hx (by simp_all [WN])]; simp)
 refine QH ?_;refine uP (X0 h43) (Qd (Qa2 _) rfl rfl rfl) ?_;refine QD ?_
 refine zc 58 ?_ ?_ <;> intro h46
 ·refine Qdb ?_;refine zQ ?_;exact QZ (by rw [Jy, Q6 hg hx (by simp_all [WN])]; simp)
 refine QC ?_;refine uP (X0 (m1 (n0 h46))) (Qd (Qdm _ _) rfl rfl rfl) ?_;refine QD ?_
 refine zc 66 ?_ ?_ <;> intro h51
 ·refine Jx ?_;refine zQ ?_;exact QZ (by rw [Jy, Q6 hg hx (by simp_all [WN])]; simp)
 refine QC ?_;refine uP (X0 (m1 (n0 h51))) (Qd (Qjb _ _) rfl rfl rfl) ?_;refine QD ?_
 refine zq ?_ ?_ <;> intro h56
 ·refine QD ?_;refine zQ ?_;exact QZ (by rw [Jy, Q6 hg hx (by simp_all [WN])]; simp)
 refine QC ?_;refine Qb ?_;exact ⟨⟨k + 1, hlt, XG hg hx (by simp_all [WN])⟩, Qa rfl (JZ ⟨X5, rfl, trivial⟩) ⟨rfl, rfl, rfl, trivial⟩, by dsimp only; omega⟩
theorem Qvn (l : List Int) : FC Tryz.prog 153 [ivs l] (i64 (orE l)) := by
 refine Qh [2] Tryz.func153 rfl rfl 18 Tryz.ntmps153 (Nat.le_of_ble_eq_true rfl) ?_
 intro E hN;refine Jq 0 rfl (fun hl0 => ?_);refine QaL ?_;refine Qm (fun x : {k : Nat // k ≤ (l).length ∧ orE (l.drop k) = orE l} => ⟨[(3, i64 0), (6, ivs l), (7, i64 l.length), (8, i64 (x.1 : Nat))], [], 0⟩) (fun x => (l).length - x.1) (⟨0, Nat.zero_le _, by simp⟩) ?_ ?_
 ·exact Qa rfl (Yf ⟨(Y6 (by simp)), rfl, (XE trivial)⟩) trivial
 rintro ⟨k, hk, hg⟩;dsimp only;refine Qy ?_
 refine zq ?_ ?_ <;> intro h6
 rotate_left
 ·have hge : (l).length ≤ k := by simpa using h6
  refine Qy ?_;refine zQ ?_;exact QZ (by rw [← hg, List.drop_of_length_le hge]; rfl)
 have hlt : k < (l).length := by simpa using h6
 obtain ⟨x, hx⟩ := Qq hlt
 have hs : orE l = if x == 0 then orE (l.drop (k + 1)) else x := by rw [← hg, XC hx]; rfl
 refine Qy ?_;refine zP (Qf rfl rfl rfl k rfl _ (Qi hx) rfl) ?_;refine X3 ?_
 refine zq ?_ ?_ <;> intro h9
 ·refine QC ?_;refine zQ ?_;exact QZ (by rw [hs, if_neg (by simp_all)])
 have hn : orE (l.drop (k + 1)) = orE l := by rw [hs, if_pos (by simpa using h9)]
 refine QC ?_;refine Qb ?_;exact ⟨⟨k + 1, hlt, hn⟩, Qa rfl (JZ ⟨X5, rfl, trivial⟩) trivial, by dsimp only; omega⟩
theorem Qtg (l : Qv) (n d : Int) (hd : d = 7) : GC Tryz.prog 126 [.ptr Qe 0, .agg (Q2 l), i64 d] [(Qe, .var 164 [i64 n])] (i64 (Xd 0 l n).1) [(Qe, .var 164 [i64 (Xd 0 l n).2])] := by
 subst hd
 refine XA [6] Tryz.func126 rfl rfl 62 Tryz.ntmps126 (Nat.le_of_ble_eq_true rfl) ?_
 intro E hN;refine Xn ?_
 refine zc 14 ?_ ?_ <;> intro h5
 ·refine Jx ?_;refine Qg ?_;change (Q7 _ _).fzt = some _ ∧ _;refine Qcd rfl ?_ rfl ?_ rfl
  all_goals rfl
 exact absurd h5 (by decide)
section
variable {f : Nat} {l : Qv} {n : Int}
theorem QkG (h : n ≥ 64) : Xd (f + 1) l n = (6, n) := by unfold Xd; rw [if_pos h]
theorem QeA (h : n < 64) (h1 : (Xr l != 0) = true) : Xd (f + 1) l n = (Xr l, n + 1) := by
 unfold Xd; rw [if_neg (by omega), if_pos h1]
theorem Qqp (h : n < 64) (h1 : (Xr l != 0) = false) (h2 : (orE [JK l, Jy l, Jb l, Jz l] != 0) = true) : Xd (f + 1) l n = (orE [JK l, Jy l, Jb l, Jz l], n + 1) := by
 unfold Xd; rw [if_neg (by omega), if_neg (by rw [h1]; decide), if_pos h2]
theorem Qb7 (h : n < 64) (h1 : (Xr l != 0) = false) (h2 : (orE [JK l, Jy l, Jb l, Jz l] != 0) = false) : Xd (f + 1) l n = JM (Xd f) l.ps (n + 1) := by
 unfold Xd; rw [if_neg (by omega), if_neg (by rw [h1]; decide), if_neg (by rw [h2]; decide)]
end
theorem Qt4 (f : Nat) (hf : f + 1 ≤ 6) (ih : ∀ (l : Qv) (n d : Int), d = 7 - (f : Int) → 0 ≤ n → GC Tryz.prog 126 [.ptr Qe 0, .agg (Q2 l), i64 d] [(Qe, .var 164 [i64 n])] (i64 (Xd f l n).1) [(Qe, .var 164 [i64 (Xd f l n).2])]) (l : Qv) (n d : Int) (hd : d = 7 - ((f + 1 : Nat) : Int)) (hn : 0 ≤ n) : GC Tryz.prog 126 [.ptr Qe 0, .agg (Q2 l), i64 d] [(Qe, .var 164 [i64 n])] (i64 (Xd (f + 1) l n).1) [(Qe, .var 164 [i64 (Xd (f + 1) l n).2])] := by
 refine XA [6] Tryz.func126 rfl rfl 62 Tryz.ntmps126 (Nat.le_of_ble_eq_true rfl) ?_
 intro E hN;refine Xn ?_
 refine zc 14 ?_ ?_ <;> intro h5
 ·exact absurd h5 (by simp; omega)
 refine Xg ?_
 refine zq ?_ ?_ <;> intro h8
 ·have h64 : n ≥ 64 := by simpa using h8
  refine QC ?_;refine Qg ?_;change (Q7 _ _).fzt = some _ ∧ _;refine Qcd rfl ?_ rfl ?_ rfl
  ·exact QZ (by rw [QkG h64])
  show Qs.var _ [i64 _] = Qs.var _ [i64 _]
  rw [QkG h64]
 have h64 : n < 64 := by simpa using h8
 refine QaL ?_;refine zP (Qd (QrF _) rfl rfl rfl) ?_;refine Xg ?_
 refine zq ?_ ?_ <;> intro h16
 ·have h5 := h16
  refine Qy ?_;refine Qg ?_;change (Q7 _ _).fzt = some _ ∧ _;refine Qcd rfl ?_ rfl ?_ rfl
  ·exact QZ (by rw [QeA h64 h5])
  show Qs.var _ [i64 _] = Qs.var _ [i64 _]
  rw [QeA h64 h5]
 have h5 := h16
 refine QD ?_;refine zD 10 ?_;refine zl ?_;refine zp (Qd (Qog _) rfl rfl rfl) ?_;refine zl ?_;refine zp (Qd (QkT _) rfl rfl rfl) ?_;refine zl ?_;refine zp (Qd (Qok _) rfl rfl rfl) ?_;refine zl ?_;refine zp (Qd (Qo3 _ (fun h => Qj0 (by simpa using h5) h)) rfl rfl rfl) ?_;refine zp (QG rfl rfl rfl rfl (by exact rfl) (by decide) (by decide)) ?_;refine zp (Qd (Qvn [JK l, Jy l, Jb l, Jz l]) rfl rfl rfl) ?_;refine Xg ?_
 refine zq ?_ ?_ <;> intro h27
 ·have h8 := h27
  refine Qy ?_;refine Qg ?_;change (Q7 _ _).fzt = some _ ∧ _;refine Qcd rfl ?_ rfl ?_ rfl
  ·exact QZ (by rw [Qqp h64 h5 h8])
  show Qs.var _ [i64 _] = Qs.var _ [i64 _]
  rw [Qqp h64 h5 h8]
 have h8 := h27
 refine Xs ?_;refine Qm (fun x : {q : Nat × Int // q.1 ≤ l.ps.length ∧ 0 ≤ q.2 ∧ JM (Xd f) (l.ps.drop q.1) q.2 = JM (Xd f) l.ps (n + 1)} => ⟨[(0, .ptr Qe 0), (2, i64 d), (47, Qkk l.ps), (48, i64 l.ps.length), (49, i64 (x.1.1 : Nat))], [(Qe, .var 164 [i64 x.1.2])], 1⟩) (fun x => l.ps.length - x.1.1) (⟨(0, n + 1), Nat.zero_le _, by show 0 ≤ n + 1; omega, by simp⟩) ?_ ?_
 ·exact Qa rfl (JZ ⟨(Y6 (by simp)), rfl, (XE trivial)⟩) ⟨rfl, rfl, rfl, trivial⟩
 rintro ⟨⟨k, m⟩, hk, hm, hg⟩;dsimp only at hk hm hg ⊢;refine Jq 47 rfl (fun hl8 => ?_);refine Qy ?_
 refine zq ?_ ?_ <;> intro h34
 rotate_left
 ·have hge : (l.ps).length ≤ k := by simpa using h34
  refine Qy ?_;refine Qg ?_;change (Q7 _ _).fzt = some _ ∧ _;refine Qcd rfl ?_ rfl ?_ rfl
  ·exact QZ (by rw [Qb7 h64 h5 h8, ← QmO hg hge])
  show Qs.var _ [i64 _] = Qs.var _ [i64 _]
  rw [Qb7 h64 h5 h8, ← QmO hg hge]
 have hlt : k < (l.ps).length := by simpa using h34
 obtain ⟨x, hx⟩ := Qq hlt;refine Qy ?_;refine zP (Qf rfl rfl rfl k rfl _ (XK hx) rfl) ?_;refine Xs ?_;refine QgE hN Qe (ih x m _ (by omega) hm) (.fn _ _ _ _ rfl rfl) rfl rfl rfl rfl rfl rfl rfl rfl rfl rfl rfl ?_;refine Xg ?_
 refine zq ?_ ?_ <;> intro h42
 ·have h14 := h42
  refine Qy ?_;refine Qg ?_;change (Q7 _ _).fzt = some _ ∧ _;refine Qcd rfl ?_ rfl ?_ rfl
  ·exact QZ (by rw [Qb7 h64 h5 h8, ← hg, Qi1 rfl hx h14])
  show Qs.var _ [i64 _] = Qs.var _ [i64 _]
  rw [Qb7 h64 h5 h8, ← hg, Qi1 rfl hx h14]
 have h14 := h42
 refine QC ?_;refine Qb ?_;exact ⟨⟨(k + 1, (Xd f x m).2), hlt, QfF _ _ _ hm, Qun hg hx h14⟩, Qa rfl (YO ⟨X5, rfl, trivial⟩) ⟨rfl, rfl, rfl, trivial⟩, by dsimp only; omega⟩
theorem Qj7 : ∀ (f : Nat) (l : Qv) (n d : Int), f ≤ 6 → d = 7 - (f : Int) → 0 ≤ n → GC Tryz.prog 126 [.ptr Qe 0, .agg (Q2 l), i64 d] [(Qe, .var 164 [i64 n])] (i64 (Xd f l n).1) [(Qe, .var 164 [i64 (Xd f l n).2])]
 | 0, l, n, d, _, hd, _ => Qtg l n d (by simpa using hd)
 | f + 1, l, n, d, hf, hd, hn => Qt4 f hf (fun l n d h1 h2 => Qj7 f l n d (by omega) h1 h2) l n d hd hn
theorem QbG (l : Qv) : FC Tryz.prog 77 [.agg (Q2 l)] (i64 (QB l)) := by
 refine Qh [2] Tryz.func77 rfl rfl 7 Tryz.ntmps77 (Nat.le_of_ble_eq_true rfl) ?_
 intro E hN;refine YI ?_;refine QgE hN 1 (Qj7 6 l 0 1 (by decide) rfl (by decide)) (.fn _ _ _ _ rfl rfl) rfl rfl rfl rfl rfl rfl rfl rfl rfl rfl rfl ?_;refine zS ?_;refine zQ ?_
 rfl
end Go.Proofs.YtnkkokmmeplbgaaGreat
