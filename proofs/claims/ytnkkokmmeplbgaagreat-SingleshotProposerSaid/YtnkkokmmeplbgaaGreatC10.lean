/-
  Contracts of the reference: bounds of maps.
-/
import Derived.Test.YtnkkokmmeplbgaaGreatC9
import Derived.Test.YtnkkokmmeplbgaaGreatB23
namespace Go.Proofs.YtnkkokmmeplbgaaGreat
set_option maxRecDepth 100000
set_option maxHeartbeats 1000000
open Go.RowKit
theorem Qgs (a b : List Nm) (ha : Qq a = true) (hb : Qq b = true) (hl : a.length + b.length ≤ 1000000) : FC Tryz.prog 123 [X1 a, X1 b] (X1 (Ku a b)) := Qsp ha hb ▸ Qng a b hl
theorem QlD (a b : List Nm) (ha : Qq a = true) (hb : Qq b = true) (hl : a.length ≤ 1000000) : FC Tryz.prog 122 [X1 a, X1 b] (X1 (itr a b)) := Qsl ha hb ▸ QnC a b hl
theorem Qrq (a : List Nm) (ha : Qq a = true) (hl : a.length ≤ 1000000) : FC Tryz.prog 125 [X1 a] (X1 a) := by
 have h := Qi4 a hl
 rwa [← QfT (XP ha) (fun _ => Iff.rfl)] at h
theorem Qd8 {v : Qw} {s : Nm} (hl : v.nm.length = v.ps.length) (h : decide (Xs s v.nm 0 ≥ 0) = true) : ∃ (j : Nat) (y : Qw), Xs s v.nm 0 = (j : Int) ∧ v.ps[j]? = some y ∧ Xy v s = some y := by
 rcases Qbs s v.nm 0 with h1 | ⟨j, -, h2, h3⟩
 ·rw [h1] at h; simp at h
 obtain ⟨y, hy⟩ := Qn (show j < v.ps.length by omega)
 exact ⟨j, y, h3, hy, QaK h3 hy⟩
theorem Qi7 {v : Qw} {s : Nm} (h : decide (Xs s v.nm 0 ≥ 0) = false) : Xy v s = none := WM (by have := of_decide_eq_false h; omega)
theorem QhP {a b : Qw} {s : Nm} (la : a.nm.length = a.ps.length) (sa : Qq a.nm = true) (lb : b.nm.length = b.ps.length) (sb : Qq b.nm = true) (h : s ∈ Ku a.nm b.nm) (hn : Xy a s = none) : ∃ (j : Nat) (y : Qw), Xs s b.nm 0 = (j : Int) ∧ b.ps[j]? = some y ∧ Xy b s = some y := by
 rcases (K9 sa sb).1 h with h | h
 ·obtain ⟨x, hx, -⟩ := Qaj la sa h
  rw [hn] at hx; cases hx
 obtain ⟨k, hk⟩ := List.mem_iff_getElem?.1 h
 have hi := QeD b.nm 0 k (Qbb sb) hk
 refine Qd8 lb ?_
 rw [hi]
 exact decide_eq_true (by omega)
section
variable {up : Bool} {q : QD} {a b : Qw} {s : Nm} {x y : Qw}
theorem Qsd (h1 : Xy a s = some x) (h2 : Xy b s = some y) (h : eqV (bdV up q x y) (QU q) = true) : bdF up q a b s = none := by unfold bdF; rw [h1, h2]; simp only; rw [if_pos h]
theorem Qsu (h1 : Xy a s = some x) (h2 : Xy b s = some y) (h : eqV (bdV up q x y) (QU q) = false) : bdF up q a b s = some (bdV up q x y) := by unfold bdF; rw [h1, h2]; simp only; rw [if_neg (by rw [h]; decide)]
theorem Qmq (h : Xy a s = none ∨ Xy b s = none) : bdF false q a b s = none := by
 unfold bdF
 rcases h with h | h
 ·rw [h]; cases Xy b s <;> rfl
 rw [h]; cases Xy a s <;> rfl
theorem Qtt (h1 : Xy a s = some x) (h2 : Xy b s = none) : bdF true q a b s = some x := by unfold bdF; rw [h1, h2]; rfl
theorem Qtx (h1 : Xy a s = none) (h2 : Xy b s = some y) : bdF true q a b s = some y := by unfold bdF; rw [h1, h2]; rfl
end
section
variable {f : Nm → Option Qw} {u : List Nm} {k : Nat} {s : Nm} {v : Qw}
theorem Yv (hx : u[k]? = some s) (h : f s = some v) : (u.take (k + 1)).filter (fun s => (f s).isSome) = (u.take k).filter (fun s => (f s).isSome) ++ [s] := Wy hx (by rw [h]; rfl)
theorem Yt (hx : u[k]? = some s) (h : f s = none) : (u.take (k + 1)).filter (fun s => (f s).isSome) = (u.take k).filter (fun s => (f s).isSome) := Qbc hx (by rw [h]; rfl)
theorem Ys (hx : u[k]? = some s) (h : f s = some v) : (u.take (k + 1)).filterMap f = (u.take k).filterMap f ++ [v] := by rw [QmR hx, h]; rfl
theorem Yu (hx : u[k]? = some s) (h : f s = none) : (u.take (k + 1)).filterMap f = (u.take k).filterMap f := by rw [QmR hx, h]; simp
end
def QtU (up : Bool) (q : QD) (a b : Qw) : Qw := .mk 0 ((Ku a.nm b.nm).filter fun s => (bdF up q a b s).isSome) ((Ku a.nm b.nm).filterMap (bdF up q a b)) []
theorem Qjd (l : QD) (v : Qw) (hc : Xp l = 0) : FC Tryz.prog 57 [.agg (Q2 l), .agg (Qz v)] (bl (eqV v (QU l))) := by
 refine Qg [4] Tryz.func57 rfl rfl 14 Tryz.ntmps57 (Nat.le_of_ble_eq_true rfl) ?_
 intro E hN
 refine Q4 ?_; refine Qd 9 (by kernel_rfl) (by kernel_rfl) ?_; refine zl ?_; refine zp (Qc (Qaw l) rfl rfl rfl) ?_; refine Qu ?_
 refine zd 8 ?_ ?_ <;> intro h7
 ·
  refine Qu ?_; refine vP (XG h7) (Qc (QeJ l (X0 hc)) rfl rfl rfl) ?_; refine vP (XG h7) (Qc (Je _ _) rfl rfl rfl) ?_
  refine Jk ?_; change Qj _ _ _ _ _ _; refine zS ?_; refine zQ ?_
  exact Qm (by simp_all)
 refine QF ?_; change Qj _ _ _ _ _ _; refine zS ?_; refine zQ ?_
 exact Qm (by simp_all)
theorem Qp2 (up : Bool) (q : QD) (hq : Xp q = 0) (a b : Qw) (la : a.nm.length = a.ps.length) (sa : Qq a.nm = true) (lb : b.nm.length = b.ps.length) (sb : Qq b.nm = true) (hl : a.nm.length + b.nm.length ≤ 1000000) (hB : ∀ x ∈ a.ps, ∀ y ∈ b.ps, FC Tryz.prog 74 [.agg (Q2 q), .agg (Qz x), .agg (Qz y), bl up] (.agg (Qz (bdV up q x y)))) : FC Tryz.prog 119 [.agg (Q2 q), .agg (Qz a), .agg (Qz b), bl up] (.agg (Qz (QtU up q a b))) := by
 have hul := QdN sa sb
 refine Jf [.c 8 30 4 true] ⟨⟨inferInstance, rfl⟩, trivial⟩ Tryz.func119 rfl rfl 92 Tryz.ntmps119 (Nat.le_of_ble_eq_true rfl) ?_
 intro E hN
 refine YR ?_; refine zP (Qc (Qgs _ _ sa sb hl) rfl rfl rfl) ?_; refine Ki ?_
 refine QI (J7 rfl 4 1 9 1 rfl rfl rfl) ?_; refine QI (J7 rfl 4 2 30 4 rfl rfl rfl) ?_
 refine Ql (fun x : {k : Nat // k ≤ ((Ku a.nm b.nm)).length ∧ True} => ⟨[(3, bl up), (4, .ptr 0 0), (5, .ptr 1 0), (6, .ptr 2 0), (8, .ptr 3 0), (9, X1 (Ku a.nm b.nm)), (10, .ptr 4 0), (11, i64 (x.1 : Nat))], [(0, .var 26 (Q2 q)), (1, .var 30 (Qz a)), (2, .var 30 (Qz b)), (3, .var 30 [i64 0, .p (.slice none 0 0), .p (.slice none 0 0), .p (.slice none 0 0)]), (4, .var 30 [i64 0, .sl ((((Ku a.nm b.nm).take x.1).filter fun s => (bdF up q a b s).isSome).map K2) (some 5), .sl ((((Ku a.nm b.nm).take x.1).filterMap (bdF up q a b)).map JV) (some 6), .p (.slice none 0 0)]), (5, .tok 9 1 (((Ku a.nm b.nm).take x.1).filter fun s => (bdF up q a b s).isSome).length), (6, .tok 30 4 (((Ku a.nm b.nm).take x.1).filterMap (bdF up q a b)).length)], 7⟩) (fun x => ((Ku a.nm b.nm)).length - x.1) (⟨0, Nat.zero_le _, by simp⟩) ?_ ?_
 ·
  exact Qa rfl (JH (JH trivial)) ⟨rfl, rfl, rfl, rfl, rfl, rfl, rfl, rfl, rfl, rfl, rfl, rfl, rfl, rfl, rfl, rfl, rfl, rfl, rfl, rfl, rfl, trivial⟩
 rintro ⟨k, hk, hg⟩
 dsimp only
 refine XN ?_
 refine zq ?_ ?_ <;> intro h25
 rotate_left
 ·
  have hge : (Ku a.nm b.nm).length ≤ k := by simpa using h25
  rw [List.take_of_length_le hge]
  refine Q8 ?_; refine Qh ?_
  change (resY _ _).bind AV.fzt = some _
  refine XD rfl ?_
  rfl
 have hlt : k < (Ku a.nm b.nm).length := by simpa using h25
 obtain ⟨s, hx⟩ := Qn hlt
 have hsm := List.mem_of_getElem? hx
 have hfl1 : (((Ku a.nm b.nm).take k).filter fun s => (bdF up q a b s).isSome).length ≤ k := QiV
 have hfl2 : (((Ku a.nm b.nm).take k).filterMap (bdF up q a b)).length ≤ k := Nat.le_trans (List.length_filterMap_le _ _) (by simp; omega)
 refine Qv ?_; refine Qd 13 (by kernel_rfl) (by kernel_rfl) ?_; refine Qs ?_; refine zp (Qf rfl rfl rfl k rfl _ (Qk hx) rfl) ?_
 refine zl ?_; refine zp (Qc (Qik a s) rfl rfl rfl) ?_; refine Qs ?_; refine zp (Qf rfl rfl rfl k rfl _ (Qk hx) rfl) ?_; refine zl ?_
 refine zp (Qc (Qik b s) rfl rfl rfl) ?_; refine zp (Xb rfl rfl) ?_; change Qj _ _ _ _ _ _; refine Ki ?_
 refine zc 42 ?_ ?_ <;> intro h37
 rotate_left
 ·
  have hpa0 := Qi7 h37
  refine XB ?_
  refine zq ?_ ?_ <;> intro h4
  ·
   have hup : up = false := by simpa using h4
   have hF : bdF up q a b s = none := by
    rw [hup]
    first | exact Qmq (.inr hpb) | exact Qmq (.inl hpa0)
   refine QF ?_; refine Qb ?_
   exact ⟨⟨k + 1, hlt, trivial⟩, Qa rfl (JH (JO ⟨(Q0 (by dsimp only; omega)), rfl, trivial⟩)) ⟨rfl, rfl, rfl, rfl, rfl, rfl, rfl, rfl, rfl, rfl, rfl, rfl, (cgM (by first | (rw [Yv hx hF]; simp [QA, K2]; done) | rw [Yt hx hF]) (by first | (rw [Ys hx hF]; simp [KP]; done) | rw [Yu hx hF])), rfl, rfl, (cgT (by first | (rw [Yv hx hF]; simp [QA]; done) | rw [Yt hx hF])), rfl, rfl, (cgT (by first | (rw [Ys hx hF]; simp [XH]; done) | rw [Yu hx hF])), rfl, rfl, trivial⟩, by dsimp only; omega⟩
  have hup : up = true := by simpa using h4
  refine QF ?_
  refine zq ?_ ?_ <;> intro h115
  ·
   obtain ⟨i, x1, hi, hx1, hpa⟩ := Qd8 la h115
   have hF : bdF up q a b s = some x1 := by
    rw [hup]
    first | exact Qtt hpa hpb | (rw [hpa] at hpa0; cases hpa0)
   refine Qv ?_; refine zP (Qf rfl rfl rfl i hi _ (QM hx1) rfl) ?_; refine Qv ?_; refine Qd 7 (by kernel_rfl) (by kernel_rfl) ?_
   refine Qv ?_; refine zp (Qf rfl rfl rfl _ rfl _ (by first | assumption | exact Qk (by assumption)) (by rfl)) ?_; refine zl ?_
   refine zp (QE rfl rfl rfl rfl (by exact rfl) (by decide) (by decide)) ?_; change Qj _ _ _ _ _ _
   refine QG hN rfl rfl rfl (by simp) rfl rfl (QN JN _) rfl (by simp [QA]; omega) rfl rfl rfl rfl ?_
   refine Q4 ?_; refine zP (QE rfl rfl rfl rfl (by exact rfl) (by decide) (by decide)) ?_
   refine QG hN rfl rfl rfl (by simp) rfl rfl (QN YF _) rfl (by simp [XH]; omega) rfl rfl rfl rfl ?_
   refine Q4 ?_; refine Qb ?_
   exact ⟨⟨k + 1, hlt, trivial⟩, Qa rfl (JH (JO ⟨(Q0 (by dsimp only; omega)), rfl, trivial⟩)) ⟨rfl, rfl, rfl, rfl, rfl, rfl, rfl, rfl, rfl, rfl, rfl, rfl, (cgM (by first | (rw [Yv hx hF]; simp [QA, K2]; done) | rw [Yt hx hF]) (by first | (rw [Ys hx hF]; simp [KP]; done) | rw [Yu hx hF])), rfl, rfl, (cgT (by first | (rw [Yv hx hF]; simp [QA]; done) | rw [Yt hx hF])), rfl, rfl, (cgT (by first | (rw [Ys hx hF]; simp [XH]; done) | rw [Yu hx hF])), rfl, rfl, trivial⟩, by dsimp only; omega⟩
  have hpa1 := Qi7 h115
  obtain ⟨j, y, hj, hy, hpb⟩ := QhP la sa lb sb hsm hpa1
  have hF : bdF up q a b s = some y := by rw [hup]; exact Qtx hpa1 hpb
  refine Qv ?_; refine zP (Qf rfl rfl rfl j hj _ (QM hy) rfl) ?_; refine Qv ?_; refine Qd 7 (by kernel_rfl) (by kernel_rfl) ?_
  refine Qv ?_; refine zp (Qf rfl rfl rfl _ rfl _ (by first | assumption | exact Qk (by assumption)) (by rfl)) ?_; refine zl ?_
  refine zp (QE rfl rfl rfl rfl (by exact rfl) (by decide) (by decide)) ?_; change Qj _ _ _ _ _ _
  refine QG hN rfl rfl rfl (by simp) rfl rfl (QN JN _) rfl (by simp [QA]; omega) rfl rfl rfl rfl ?_
  refine Q4 ?_; refine zP (QE rfl rfl rfl rfl (by exact rfl) (by decide) (by decide)) ?_
  refine QG hN rfl rfl rfl (by simp) rfl rfl (QN YF _) rfl (by simp [XH]; omega) rfl rfl rfl rfl ?_
  refine Q4 ?_; refine Qb ?_
  exact ⟨⟨k + 1, hlt, trivial⟩, Qa rfl (JH (JO ⟨(Q0 (by dsimp only; omega)), rfl, trivial⟩)) ⟨rfl, rfl, rfl, rfl, rfl, rfl, rfl, rfl, rfl, rfl, rfl, rfl, (cgM (by first | (rw [Yv hx hF]; simp [QA, K2]; done) | rw [Yt hx hF]) (by first | (rw [Ys hx hF]; simp [KP]; done) | rw [Yu hx hF])), rfl, rfl, (cgT (by first | (rw [Yv hx hF]; simp [QA]; done) | rw [Yt hx hF])), rfl, rfl, (cgT (by first | (rw [Ys hx hF]; simp [XH]; done) | rw [Yu hx hF])), rfl, rfl, trivial⟩, by dsimp only; omega⟩
 obtain ⟨i, x1, hi, hx1, hpa⟩ := Qd8 la h37
 refine Qv ?_
 refine zq ?_ ?_ <;> intro h38
 ·
  obtain ⟨j, y, hj, hy, hpb⟩ := Qd8 lb h38
  refine Jk ?_; refine Qd 13 (by kernel_rfl) (by kernel_rfl) ?_; refine Qv ?_; refine zp (Qf rfl rfl rfl i hi _ (QM hx1) rfl) ?_
  refine Qv ?_; refine zp (Qf rfl rfl rfl j hj _ (QM hy) rfl) ?_; refine Qu ?_
  refine zp (Qc (hB x1 (List.mem_of_getElem? hx1) y (List.mem_of_getElem? hy)) rfl rfl rfl) ?_; change Qj _ _ _ _ _ _; refine Q8 ?_
  refine zP (Qc (Qjd q _ hq) rfl rfl rfl) ?_; refine zN ?_
  refine zq ?_ ?_ <;> intro h52
  ·
   have hF := Qsd hpa hpb h52
   refine QF ?_; refine Qb ?_
   exact ⟨⟨k + 1, hlt, trivial⟩, Qa rfl (JH (JO ⟨(Q0 (by dsimp only; omega)), rfl, trivial⟩)) ⟨rfl, rfl, rfl, rfl, rfl, rfl, rfl, rfl, rfl, rfl, rfl, rfl, (cgM (by first | (rw [Yv hx hF]; simp [QA, K2]; done) | rw [Yt hx hF]) (by first | (rw [Ys hx hF]; simp [KP]; done) | rw [Yu hx hF])), rfl, rfl, (cgT (by first | (rw [Yv hx hF]; simp [QA]; done) | rw [Yt hx hF])), rfl, rfl, (cgT (by first | (rw [Ys hx hF]; simp [XH]; done) | rw [Yu hx hF])), rfl, rfl, trivial⟩, by dsimp only; omega⟩
  have hF := Qsu hpa hpb h52
  refine Qu ?_; refine Qd 7 (by kernel_rfl) (by kernel_rfl) ?_; refine Qv ?_
  refine zp (Qf rfl rfl rfl _ rfl _ (by first | assumption | exact Qk (by assumption)) (by rfl)) ?_; refine zl ?_
  refine zp (QE rfl rfl rfl rfl (by exact rfl) (by decide) (by decide)) ?_; change Qj _ _ _ _ _ _
  refine QG hN rfl rfl rfl (by simp) rfl rfl (QN JN _) rfl (by simp [QA]; omega) rfl rfl rfl rfl ?_
  refine Q4 ?_; refine zP (QE rfl rfl rfl rfl (by exact rfl) (by decide) (by decide)) ?_
  refine QG hN rfl rfl rfl (by simp) rfl rfl (QN YF _) rfl (by simp [XH]; omega) rfl rfl rfl rfl ?_
  refine Q4 ?_; refine Qb ?_
  exact ⟨⟨k + 1, hlt, trivial⟩, Qa rfl (JH (JO ⟨(Q0 (by dsimp only; omega)), rfl, trivial⟩)) ⟨rfl, rfl, rfl, rfl, rfl, rfl, rfl, rfl, rfl, rfl, rfl, rfl, (cgM (by first | (rw [Yv hx hF]; simp [QA, K2]; done) | rw [Yt hx hF]) (by first | (rw [Ys hx hF]; simp [KP]; done) | rw [Yu hx hF])), rfl, rfl, (cgT (by first | (rw [Yv hx hF]; simp [QA]; done) | rw [Yt hx hF])), rfl, rfl, (cgT (by first | (rw [Ys hx hF]; simp [XH]; done) | rw [Yu hx hF])), rfl, rfl, trivial⟩, by dsimp only; omega⟩
 have hpb := Qi7 h38
 refine QF ?_
 refine zq ?_ ?_ <;> intro h4
 ·
  have hup : up = false := by simpa using h4
  have hF : bdF up q a b s = none := by
   rw [hup]
   first | exact Qmq (.inr hpb) | exact Qmq (.inl hpa0)
  refine QF ?_; refine Qb ?_
  exact ⟨⟨k + 1, hlt, trivial⟩, Qa rfl (JH (JO ⟨(Q0 (by dsimp only; omega)), rfl, trivial⟩)) ⟨rfl, rfl, rfl, rfl, rfl, rfl, rfl, rfl, rfl, rfl, rfl, rfl, (cgM (by first | (rw [Yv hx hF]; simp [QA, K2]; done) | rw [Yt hx hF]) (by first | (rw [Ys hx hF]; simp [KP]; done) | rw [Yu hx hF])), rfl, rfl, (cgT (by first | (rw [Yv hx hF]; simp [QA]; done) | rw [Yt hx hF])), rfl, rfl, (cgT (by first | (rw [Ys hx hF]; simp [XH]; done) | rw [Yu hx hF])), rfl, rfl, trivial⟩, by dsimp only; omega⟩
 have hup : up = true := by simpa using h4
 refine QF ?_
 refine zq ?_ ?_ <;> intro h71
 ·
  obtain ⟨i, x1, hi, hx1, hpa⟩ := Qd8 la h71
  have hF : bdF up q a b s = some x1 := by
   rw [hup]
   first | exact Qtt hpa hpb | (rw [hpa] at hpa0; cases hpa0)
  refine Qv ?_; refine zP (Qf rfl rfl rfl i hi _ (QM hx1) rfl) ?_; refine Qv ?_; refine Qd 7 (by kernel_rfl) (by kernel_rfl) ?_
  refine Qv ?_; refine zp (Qf rfl rfl rfl _ rfl _ (by first | assumption | exact Qk (by assumption)) (by rfl)) ?_; refine zl ?_
  refine zp (QE rfl rfl rfl rfl (by exact rfl) (by decide) (by decide)) ?_; change Qj _ _ _ _ _ _
  refine QG hN rfl rfl rfl (by simp) rfl rfl (QN JN _) rfl (by simp [QA]; omega) rfl rfl rfl rfl ?_
  refine Q4 ?_; refine zP (QE rfl rfl rfl rfl (by exact rfl) (by decide) (by decide)) ?_
  refine QG hN rfl rfl rfl (by simp) rfl rfl (QN YF _) rfl (by simp [XH]; omega) rfl rfl rfl rfl ?_
  refine Q4 ?_; refine Qb ?_
  exact ⟨⟨k + 1, hlt, trivial⟩, Qa rfl (JH (JO ⟨(Q0 (by dsimp only; omega)), rfl, trivial⟩)) ⟨rfl, rfl, rfl, rfl, rfl, rfl, rfl, rfl, rfl, rfl, rfl, rfl, (cgM (by first | (rw [Yv hx hF]; simp [QA, K2]; done) | rw [Yt hx hF]) (by first | (rw [Ys hx hF]; simp [KP]; done) | rw [Yu hx hF])), rfl, rfl, (cgT (by first | (rw [Yv hx hF]; simp [QA]; done) | rw [Yt hx hF])), rfl, rfl, (cgT (by first | (rw [Ys hx hF]; simp [XH]; done) | rw [Yu hx hF])), rfl, rfl, trivial⟩, by dsimp only; omega⟩
 have hpa1 := Qi7 h71
 obtain ⟨j, y, hj, hy, hpb⟩ := QhP la sa lb sb hsm hpa1
 have hF : bdF up q a b s = some y := by rw [hup]; exact Qtx hpa1 hpb
 refine Qv ?_; refine zP (Qf rfl rfl rfl j hj _ (QM hy) rfl) ?_; refine Qv ?_; refine Qd 7 (by kernel_rfl) (by kernel_rfl) ?_
 refine Qv ?_; refine zp (Qf rfl rfl rfl _ rfl _ (by first | assumption | exact Qk (by assumption)) (by rfl)) ?_; refine zl ?_
 refine zp (QE rfl rfl rfl rfl (by exact rfl) (by decide) (by decide)) ?_; change Qj _ _ _ _ _ _
 refine QG hN rfl rfl rfl (by simp) rfl rfl (QN JN _) rfl (by simp [QA]; omega) rfl rfl rfl rfl ?_
 refine Q4 ?_; refine zP (QE rfl rfl rfl rfl (by exact rfl) (by decide) (by decide)) ?_
 refine QG hN rfl rfl rfl (by simp) rfl rfl (QN YF _) rfl (by simp [XH]; omega) rfl rfl rfl rfl ?_
 refine Q4 ?_; refine Qb ?_
 exact ⟨⟨k + 1, hlt, trivial⟩, Qa rfl (JH (JO ⟨(Q0 (by dsimp only; omega)), rfl, trivial⟩)) ⟨rfl, rfl, rfl, rfl, rfl, rfl, rfl, rfl, rfl, rfl, rfl, rfl, (cgM (by first | (rw [Yv hx hF]; simp [QA, K2]; done) | rw [Yt hx hF]) (by first | (rw [Ys hx hF]; simp [KP]; done) | rw [Yu hx hF])), rfl, rfl, (cgT (by first | (rw [Yv hx hF]; simp [QA]; done) | rw [Yt hx hF])), rfl, rfl, (cgT (by first | (rw [Ys hx hF]; simp [XH]; done) | rw [Yu hx hF])), rfl, rfl, trivial⟩, by dsimp only; omega⟩
theorem Qno {up : Bool} {l q : QD} (h : up = false → Qb3 l = false) (hq : q ∈ l.ps) : up = false → Qb3 q = false := fun e => by
 have h1 := h e
 rw [Qkv, Bool.or_eq_false_iff, List.any_eq_false] at h1
 simpa using h1.2 q hq
theorem Qqe {up : Bool} {l : QD} (h : up = false → Qb3 l = false) (hk : l.k = 9) : up = true := by
 cases up
 ·have h1 := h rfl
  rw [Qkv, hk] at h1
  cases h1
 rfl
theorem Qna {l : QD} {a b : Qw} (hk : l.k = 4 ∨ l.k = 10) : bdV false l a b = .mk 0 (itr a.nm b.nm) [] [] := by
 rcases hk with hk | hk
 ·exact QoG false hk
 exact Qh3 false hk
def QhU (l : QD) (a b : Qw) : Qw × Int := if JZ l [a, b] = 0 then (QR l a b, 0) else (Qw.zero, JZ l [a, b])
theorem Qra (up : Bool) {n m : Nat} (hnm : n + m ≤ 1000000) (l : QD) (hO : YK l) (hC : ChL l) (hR : up = false → Qb3 l = false) (ih : ∀ q ∈ l.ps, ∀ x y, Qt x q = true → Qt y q = true → J6 n x → J6 m y → FC Tryz.prog 74 [.agg (Q2 q), .agg (Qz x), .agg (Qz y), bl up] (.agg (Qz (bdV up q x y)))) (a b : Qw) (ha : Qt a l = true) (hb : Qt b l = true) (sa : J6 n a) (sb : J6 m b) : FC Tryz.prog 74 [.agg (Q2 l), .agg (Qz a), .agg (Qz b), bl up] (.agg (Qz (bdV up l a b))) := by
 have na := sa.nm
 have nb := sb.nm
 have ea := sa.es
 have eb := sb.es
 have npl := hO.small
 refine Jf [.c 8 30 4 true] ⟨⟨inferInstance, rfl⟩, trivial⟩ Tryz.func74 rfl rfl 158 Tryz.ntmps74 (Nat.le_of_ble_eq_true rfl) ?_
 intro E hN
 refine Qlr ?_
 refine zq ?_ ?_ <;> intro h11
 ·
  refine Q4 ?_; refine zP (Qc (QdB a b up) rfl rfl rfl) ?_; refine Qu ?_; refine Qh ?_
  change (resY _ _).bind AV.fzt = some _
  refine XD rfl ?_
  rw [Qpt up (by simp_all)]
 refine Qv ?_
 refine zq ?_ ?_ <;> intro h16
 ·
  refine QF ?_; refine zP (Qc (QdB a b up) rfl rfl rfl) ?_; refine Qu ?_; refine Qh ?_
  change (resY _ _).bind AV.fzt = some _
  refine XD rfl ?_
  rw [Qpt up (by simp_all)]
 refine QF ?_
 refine zq ?_ ?_ <;> intro h21
 ·
  refine Q8 ?_; refine zP (Qc (QdB a b (!up)) rfl rfl rfl) ?_; refine Qu ?_; refine Qh ?_
  change (resY _ _).bind AV.fzt = some _
  refine XD rfl ?_
  rw [Qs2 up (by simp_all) ha hb]
 refine QF ?_
 refine zq ?_ ?_ <;> intro h26
 ·
  refine Jk ?_
  have hk5 : l.k = 5 := by simp_all
  obtain ⟨q, r, hps⟩ := Qd7 hO.shape hk5
  have hq0 : l.ps[0]? = some q := by rw [hps]; rfl
  have hqm : q ∈ l.ps := by rw [hps]; exact List.mem_cons_self
  obtain ⟨-, -, hla, hsa, -, hea⟩ := YO ha hk5 hps
  obtain ⟨-, -, hlb, hsb, -, heb⟩ := YO hb hk5 hps
  refine Qd 8 (by kernel_rfl) (by kernel_rfl) ?_; refine Qu ?_; refine zp (Qf rfl rfl rfl 0 rfl _ (XK hq0) rfl) ?_; refine Qv ?_
  refine zp (Qc (Qp2 up q (hC.part q hqm).ok a b hla hsa hlb hsb (by omega) (fun x hx y hy => ih q hqm x y (hea x hx).1 (heb y hy).1 (sa.part x hx) (sb.part y hy))) rfl rfl rfl) ?_
  change Qj _ _ _ _ _ _; refine Qu ?_; refine Qh ?_
  change (resY _ _).bind AV.fzt = some _
  refine XD rfl ?_
  rw [Qsm up hO hC hk5 hps ha hb]; rfl
 refine QF ?_
 refine zq ?_ ?_ <;> intro h35
 ·
  refine QF ?_; refine zP (Qc (Qol a b up) rfl rfl rfl) ?_; refine Qu ?_; refine Qh ?_
  change (resY _ _).bind AV.fzt = some _
  refine XD rfl ?_
  rw [QqH up (by simp_all) ha hb]
 refine QF ?_
 refine zq ?_ ?_ <;> intro h40
 ·
  refine Jk ?_
  have hk9 : l.k = 9 := by simp_all
  have hup := Qqe hR hk9
  have rga := (Kc ha hk9).2.2.2
  have rgb := (Kc hb hk9).2.2.2
  refine QF ?_; refine zP (Qc (Qkm a.es b.es rga rgb (by omega)) rfl rfl rfl) ?_; refine Qs ?_; refine Qh ?_
  change (resY _ _).bind AV.fzt = some _
  refine XD rfl ?_
  rw [hup, Qta hk9]; rfl
 refine QF ?_
 refine zq ?_ ?_ <;> intro h48
 ·
  refine Qu ?_
  have hk7 : l.k = 7 := by simp_all
  obtain ⟨q1, q2, hps⟩ := Kd hO.shape hk7
  obtain ⟨x1, x2, hpa, hx1, hx2⟩ := Ye ha hk7 hps
  obtain ⟨y1, y2, hpb, hy1, hy2⟩ := Ye hb hk7 hps
  have hq1' : l.ps[0]? = some q1 := by rw [hps]; rfl
  have hq2' : l.ps[1]? = some q2 := by rw [hps]; rfl
  have hx1' : a.ps[0]? = some x1 := by rw [hpa]; rfl
  have hx2' : a.ps[1]? = some x2 := by rw [hpa]; rfl
  have hy1' : b.ps[0]? = some y1 := by rw [hpb]; rfl
  have hy2' : b.ps[1]? = some y2 := by rw [hpb]; rfl
  refine Qd 8 (by kernel_rfl) (by kernel_rfl) ?_; refine Qu ?_; refine zp (Qf rfl rfl rfl 0 rfl _ (QM hx1') rfl) ?_; refine Qs ?_
  refine zp (Qf rfl rfl rfl 0 rfl _ (QM hy1') rfl) ?_; refine zl ?_; change Qj _ _ _ _ _ _
  refine zP (Qc (Je _ _) rfl rfl rfl) ?_; refine zN ?_
  refine zq ?_ ?_ <;> intro h57
  ·
   have h14 := h57
   refine Jk ?_; refine Qd 20 (by kernel_rfl) (by kernel_rfl) ?_; refine Qu ?_; refine zp (Qf rfl rfl rfl 0 rfl _ (QM hx1') rfl) ?_
   refine Qs ?_; refine zp (Qf rfl rfl rfl 1 rfl _ (XK hq2') rfl) ?_; refine Qs ?_
   refine zp (Qf rfl rfl rfl 1 rfl _ (QM hx2') rfl) ?_; refine Qs ?_; refine zp (Qf rfl rfl rfl 1 rfl _ (QM hy2') rfl) ?_
   refine Qu ?_
   refine zp (Qc (ih q2 (by rw [hps]; simp) x2 y2 hx2 hy2 (sa.part x2 (by rw [hpa]; simp)) (sb.part y2 (by rw [hpb]; simp))) rfl rfl rfl) ?_
   refine zp (Qbf rfl rfl rfl rfl (by exact rfl) (by decide) (by decide) (QgP _ _)) ?_; refine zp (JS rfl rfl rfl) ?_
   change Qj _ _ _ _ _ _; refine Qu ?_; refine Qh ?_
   change (resY _ _).bind AV.fzt = some _
   refine XD rfl ?_
   rw [QlE up hO hk7 hps hpa hpb hx1 hy1, if_pos h14]; rfl
  have h14 := h57
  refine Qs ?_; refine Qd 14 (by kernel_rfl) (by kernel_rfl) ?_; refine Qu ?_; refine zp (Qf rfl rfl rfl 0 rfl _ (XK hq1') rfl) ?_
  refine Qs ?_; refine zp (Qf rfl rfl rfl 0 rfl _ (QM hx1') rfl) ?_; refine Qs ?_
  refine zp (Qf rfl rfl rfl 0 rfl _ (QM hy1') rfl) ?_; refine zl ?_
  refine zp (Qc (Qmh q1 (hO.part q1 (by rw [hps]; simp)) x1 y1 hx1 hy1 ((sa.part x1 (by rw [hpa]; simp)).up (by omega))) rfl rfl rfl) ?_
  refine zm ?_; change Qj _ _ _ _ _ _; refine Qu ?_
  refine zq ?_ ?_ <;> intro h91
  ·
   have h16 := h91
   refine QF ?_; refine Qh ?_
   change (resY _ _).bind AV.fzt = some _
   refine XD rfl ?_
   rw [QlE up hO hk7 hps hpa hpb hx1 hy1, if_neg (by rw [h14]; decide), if_pos h16]
  have h16 := h91
  refine Q8 ?_; refine Qh ?_
  change (resY _ _).bind AV.fzt = some _
  refine XD rfl ?_
  rw [QlE up hO hk7 hps hpa hpb hx1 hy1, if_neg (by rw [h14]; decide), if_neg (by rw [h16]; decide)]
 refine QF ?_
 refine zq ?_ ?_ <;> intro h96
 ·
  refine Jk ?_
  have hk6 : l.k = 6 := by simp_all
  obtain ⟨-, -, -, hla, hza⟩ := J5 ha (.inl hk6)
  obtain ⟨-, -, -, hlb, hzb⟩ := J5 hb (.inl hk6)
  have hjl := QsC (up := up) hla hlb
  refine Jv ?_; refine QI (J7 rfl 4 2 30 4 rfl rfl rfl) ?_
  refine Ql (fun x : {k : Nat // k ≤ (a.ps).length ∧ True} => ⟨[(3, bl up), (4, .ptr 0 0), (5, .ptr 1 0), (6, .ptr 2 0), (8, .ptr 3 0), (9, .ptr 4 0), (10, i64 (x.1 : Nat))], [(0, .var 26 (Q2 l)), (1, .var 30 (Qz a)), (2, .var 30 (Qz b)), (3, .var 30 [i64 0, .p (.slice none 0 0), .p (.slice none 0 0), .p (.slice none 0 0)]), (4, .var 30 [i64 0, .p (.slice none 0 0), .sl (((bdZ up l.ps a.ps b.ps).take x.1).map JV) (some 5), .p (.slice none 0 0)]), (5, .tok 30 4 (((bdZ up l.ps a.ps b.ps).take x.1).map JV).length)], 6⟩) (fun x => (a.ps).length - x.1) (⟨0, Nat.zero_le _, by simp⟩) ?_ ?_
  ·
   exact Qa rfl (JH (JO trivial)) ⟨rfl, rfl, rfl, rfl, rfl, rfl, rfl, rfl, rfl, rfl, rfl, rfl, rfl, rfl, rfl, rfl, rfl, rfl, trivial⟩
  rintro ⟨k, hk, hg⟩
  dsimp only
  refine JA ?_
  refine zq ?_ ?_ <;> intro h109
  rotate_left
  ·
   have hge : (a.ps).length ≤ k := by simpa using h109
   rw [List.take_of_length_le (by rw [hjl]; omega)]
   refine Q8 ?_; refine Qh ?_
   change (resY _ _).bind AV.fzt = some _
   refine XD rfl ?_
   rw [Qqu up hk6]; rfl
  have hlt : k < a.ps.length := by simpa using h109
  obtain ⟨q, hq⟩ := Qn (show k < l.ps.length by omega)
  obtain ⟨x, hx⟩ := Qn hlt
  obtain ⟨y, hy⟩ := Qn (show k < b.ps.length by omega)
  refine Qs ?_; refine Qd 20 (by kernel_rfl) (by kernel_rfl) ?_; refine QF ?_; refine zp (Qf rfl rfl rfl k rfl _ (XK hq) rfl) ?_
  refine Qv ?_; refine zp (Qf rfl rfl rfl k rfl _ (QM hx) rfl) ?_; refine Qv ?_; refine zp (Qf rfl rfl rfl k rfl _ (QM hy) rfl) ?_
  refine Qu ?_
  refine zp (Qc (ih q (List.mem_of_getElem? hq) x y (Ja hza hx hq) (Ja hzb hy hq) (sa.part x (List.mem_of_getElem? hx)) (sb.part y (List.mem_of_getElem? hy))) rfl rfl rfl) ?_
  refine zp (QE rfl rfl rfl rfl (by exact rfl) (by decide) (by decide)) ?_; change Qj _ _ _ _ _ _
  refine QG hN rfl rfl rfl (by simp) rfl rfl (QN YF _) rfl (by simp [XH]; omega) rfl rfl rfl rfl ?_
  refine Q4 ?_; refine Qb ?_
  exact ⟨⟨k + 1, hlt, trivial⟩, Qa rfl (JH (JI ⟨(Q0 (by dsimp only; omega)), rfl, trivial⟩)) ⟨rfl, rfl, rfl, rfl, rfl, rfl, rfl, rfl, rfl, rfl, rfl, rfl, (cgV (Qiu (Qs0 hq hx hy))), rfl, rfl, (cgT (by simp [XH]; omega)), rfl, rfl, trivial⟩, by dsimp only; omega⟩
 refine Qs ?_
 have hk4 : l.k = 4 ∨ l.k = 10 := by
  have := kinds hO
  simp only [beq_eq_false_iff_ne] at *
  omega
 obtain ⟨-, -, -, hsa, -, -⟩ := Y2 ha hk4
 obtain ⟨-, -, -, hsb, -, -⟩ := Y2 hb hk4
 refine Qv ?_
 refine zq ?_ ?_ <;> intro h4
 ·
  have hup : up = false := by simpa using h4
  refine Q8 ?_; refine zP (Qc (QlD _ _ hsa hsb (by omega)) rfl rfl rfl) ?_; refine Qs ?_; refine Qh ?_
  change (resY _ _).bind AV.fzt = some _
  refine XD rfl ?_
  rw [hup, Qna hk4]; rfl
 have hup : up = true := by simpa using h4
 refine Q4 ?_; refine zP (Qc (Qgs _ _ hsa hsb (by omega)) rfl rfl rfl) ?_; refine JA ?_
 refine zq ?_ ?_ <;> intro h146
 ·
  have hk10 : l.k = 10 := by simpa using h146
  have hE : bdV up l a b = .mk 0 (Ka l.nm l.rs (Ku a.nm b.nm)) [] [] := by rw [hup]; exact Qh3 true hk10
  refine Qd 7 (by kernel_rfl) (by kernel_rfl) ?_; refine Qu ?_
  refine zp (Qc (Qrq l.nm ((Qgp hO).2.1 (by omega)) (by have := (Qiz hO).1; omega)) rfl rfl rfl) ?_
  refine Qs ?_
  refine zp (Qc (Ql1 l.nm l.rs (Ku a.nm b.nm) (by have := (Qiz hO).1; omega) (by have := (Qiz hO).2; omega) (by have := QdN hsa hsb; omega)) rfl rfl rfl) ?_
  change Qj _ _ _ _ _ _; refine XN ?_; refine Qh ?_
  change (resY _ _).bind AV.fzt = some _
  refine XD rfl ?_
  rw [hE]; rfl
 have hk4' : l.k = 4 := hk4.resolve_right (by simpa using h146)
 have hE : bdV up l a b = .mk 0 (Ku a.nm b.nm) [] [] := by rw [hup]; exact QoG true hk4'
 refine Q4 ?_; refine Qh ?_
 change (resY _ _).bind AV.fzt = some _
 refine XD rfl ?_
 rw [hE]; rfl
theorem QjT (up : Bool) {n m : Nat} (hnm : n + m ≤ 1000000) (l : QD) (hO : YK l) (hC : ChL l) (hR : up = false → Qb3 l = false) (a b : Qw) (ha : Qt a l = true) (hb : Qt b l = true) (sa : J6 n a) (sb : J6 m b) : FC Tryz.prog 74 [.agg (Q2 l), .agg (Qz a), .agg (Qz b), bl up] (.agg (Qz (bdV up l a b))) := Qra up hnm l hO hC hR (fun q hq x y hx hy sx sy => QjT up hnm q (hO.part q hq) (hC.part q hq) (Qno hR hq) x y hx hy sx sy) a b ha hb sa sb
termination_by l
decreasing_by exact QD.sizeOf_ps ‹_›
theorem Qnq (l : QD) (vs : List Qw) : FC Tryz.prog 72 [.agg (Q2 l), Qad vs] (i64 (JZ l vs)) := by
 refine Qg [4] Tryz.func72 rfl rfl 22 Tryz.ntmps72 (Nat.le_of_ble_eq_true rfl) ?_
 intro E hN
 refine Jj 1 rfl (fun hl1 => ?_)
 refine JA ?_; refine zP (Qc (Qaw l) rfl rfl rfl) ?_; refine Qu ?_
 refine zq ?_ ?_ <;> intro h6
 ·
  have h1 : ¬ Xp l = 0 := by simpa using h6
  refine Qs ?_; refine zQ ?_
  exact QS (by unfold JZ; simp [h1])
 have h1 : Xp l = 0 := by simpa using h6
 refine Q4 ?_
 refine Ql (fun x : {k : Nat // k ≤ (vs).length ∧ (vs.drop k).all (XZ l) = vs.all (XZ l)} => ⟨[(1, Qad vs), (2, .ptr 0 0), (5, i64 (x.1 : Nat))], [(0, .var 26 (Q2 l))], 1⟩) (fun x => (vs).length - x.1) (⟨0, Nat.zero_le _, by simp⟩) ?_ ?_
 ·
  exact Qa rfl (JO trivial) ⟨rfl, rfl, rfl, trivial⟩
 rintro ⟨k, hk, hg⟩
 dsimp only
 refine XN ?_
 refine zq ?_ ?_ <;> intro h10
 rotate_left
 ·
  have hge : (vs).length ≤ k := by simpa using h10
  refine Qv ?_; refine zQ ?_
  exact QS (by unfold JZ Qag; rw [XU hg hge]; simp [h1])
 have hlt : k < (vs).length := by simpa using h10
 obtain ⟨x, hx⟩ := Qn hlt
 refine Qv ?_; refine Qd 6 (by kernel_rfl) (by kernel_rfl) ?_; refine Qs ?_; refine zp (Qf rfl rfl rfl k rfl _ (QM hx) rfl) ?_
 refine zl ?_; refine zp (Qc (Y8 l x) rfl rfl rfl) ?_; change Qj _ _ _ _ _ _; refine Qu ?_
 refine zq ?_ ?_ <;> intro h14
 ·
  refine Qs ?_; refine zQ ?_
  exact QS (by unfold JZ Qag; rw [Q3 hg hx (by simp_all)]; simp [h1])
 refine QF ?_; refine Qb ?_
 exact ⟨⟨k + 1, hlt, Xx hg hx (by simp_all)⟩, Qa rfl (JI ⟨(Q0 (by dsimp only; omega)), rfl, trivial⟩) ⟨rfl, rfl, rfl, trivial⟩, by dsimp only; omega⟩
theorem QoO (l : QD) {n m : Nat} (hnm : n + m ≤ 1000000) (a b : Qw) (sa : J6 n a) (sb : J6 m b) : FC Tryz.prog 117 [.agg (Q2 l), .agg (Qz a), .agg (Qz b)] (.tup [.agg (Qz (QhU l a b).1), i64 (QhU l a b).2]) := by
 refine Jf [.c 6 30 4 true, .t 7] ⟨⟨inferInstance, rfl⟩, trivial⟩ Tryz.func117 rfl rfl 22 Tryz.ntmps117 (Nat.le_of_ble_eq_true rfl) ?_
 intro E hN
 refine Ki ?_; refine zP (Qbf rfl rfl rfl rfl (by exact rfl) (by decide) (by decide) (QgP a b)) ?_
 refine zP (Qc (Qnq l [a, b]) rfl rfl rfl) ?_; refine Q4 ?_
 refine zq ?_ ?_ <;> intro h13
 ·
  have h1 : ¬ JZ l [a, b] = 0 := by simpa using h13
  refine Q4 ?_; refine Qh ?_
  change (resY _ _).bind AV.fzt = some _
  refine XD rfl ?_
  rw [QhU, if_neg h1]; rfl
 have h1 : JZ l [a, b] = 0 := by simpa using h13
 have hc := Qe6 h1
 refine Q8 ?_
 refine zP (Qc (QjT true hnm l (X0 hc.1) (ChL.of l hc.1) (fun e => by cases e) a b (hc.2 a (by simp)) (hc.2 b (by simp)) sa sb) rfl rfl rfl) ?_
 refine Qs ?_; refine Qh ?_
 change (resY _ _).bind AV.fzt = some _
 refine XD rfl ?_
 rw [QhU, if_pos h1]; rfl
end Go.Proofs.YtnkkokmmeplbgaaGreat
