/-
  Contracts: the acceptor.
-/
import Derived.Test.YtnkkokmmeplbgaaGreatC9
import Derived.Test.YtnkkokmmeplbgaaGreatB23
import Derived.Test.YtnkkokmmeplbgaaGreatA8
namespace Go.Proofs.YtnkkokmmeplbgaaGreat
set_option maxRecDepth 100000
set_option maxHeartbeats 1000000
open Go.RowKit
theorem Qhv (a b : List Nm) (ha : Qt a = true) (hb : Qt b = true) (hl : a.length + b.length ≤ 1000000) : FC Tryz.prog 123 [XS a, XS b] (XS (K6 a b)) := Qvv ha hb ▸ Qpq a b hl
theorem Qma (a b : List Nm) (ha : Qt a = true) (hb : Qt b = true) (hl : a.length ≤ 1000000) : FC Tryz.prog 122 [XS a, XS b] (XS (itr a b)) := Qva ha hb ▸ Qo0 a b hl
theorem Qsj (a : List Nm) (ha : Qt a = true) (hl : a.length ≤ 1000000) : FC Tryz.prog 125 [XS a] (XS a) := by
 have h := QjJ a hl
 rwa [← Qgf (XU ha) (fun _ => Iff.rfl)] at h
theorem Qe9 {v : Qp} {s : Nm} (hl : v.nm.length = v.ps.length) (h : decide (Xu s v.nm 0 ≥ 0) = true) : ∃ (j : Nat) (y : Qp), Xu s v.nm 0 = (j : Int) ∧ v.ps[j]? = some y ∧ XB v s = some y := by
 rcases QbO s v.nm 0 with h1 | ⟨j, -, h2, h3⟩
 ·rw [h1] at h; simp at h
 obtain ⟨y, hy⟩ := Qq (show j < v.ps.length by omega);exact ⟨j, y, h3, hy, Qbs h3 hy⟩
theorem Qjy {v : Qp} {s : Nm} (h : decide (Xu s v.nm 0 ≥ 0) = false) : XB v s = none := QaB (by have := of_decide_eq_false h; omega)
theorem QiI {a b : Qp} {s : Nm} (la : a.nm.length = a.ps.length) (sa : Qt a.nm = true) (lb : b.nm.length = b.ps.length) (sb : Qt b.nm = true) (h : s ∈ K6 a.nm b.nm) (hn : XB a s = none) : ∃ (j : Nat) (y : Qp), Xu s b.nm 0 = (j : Int) ∧ b.ps[j]? = some y ∧ XB b s = some y := by
 rcases (WZ sa sb).1 h with h | h
 ·obtain ⟨x, hx, -⟩ := Qa3 la sa h
  rw [hn] at hx; cases hx
 obtain ⟨k, hk⟩ := List.mem_iff_getElem?.1 h
 have hi := QfH b.nm 0 k (Qb2 sb) hk
 refine Qe9 lb ?_;rw [hi];exact decide_eq_true (by omega)
section
variable {up : Bool} {q : Qv} {a b : Qp} {s : Nm} {x y : Qp}
theorem Qu1 (h1 : XB a s = some x) (h2 : XB b s = some y) (h : WH (bdV up q x y) (Qn q) = true) : bdF up q a b s = none := by unfold bdF; rw [h1, h2]; simp only; rw [if_pos h]
theorem Qvt (h1 : XB a s = some x) (h2 : XB b s = some y) (h : WH (bdV up q x y) (Qn q) = false) : bdF up q a b s = some (bdV up q x y) := by unfold bdF; rw [h1, h2]; simp only; rw [if_neg (by rw [h]; decide)]
theorem Qod (h : XB a s = none ∨ XB b s = none) : bdF false q a b s = none := by
 unfold bdF
 rcases h with h | h
 ·rw [h]; cases XB b s <;> rfl
 rw [h]; cases XB a s <;> rfl
theorem Qwh (h1 : XB a s = some x) (h2 : XB b s = none) : bdF true q a b s = some x := by unfold bdF; rw [h1, h2]; rfl
theorem QvL (h1 : XB a s = none) (h2 : XB b s = some y) : bdF true q a b s = some y := by unfold bdF; rw [h1, h2]; rfl
end
section
variable {f : Nm → Option Qp} {u : List Nm} {k : Nat} {s : Nm} {v : Qp}
theorem YP (hx : u[k]? = some s) (h : f s = some v) : (u.take (k + 1)).filter (fun s => (f s).isSome) = (u.take k).filter (fun s => (f s).isSome) ++ [s] := Qal hx (by rw [h]; rfl)
theorem YR (hx : u[k]? = some s) (h : f s = none) : (u.take (k + 1)).filter (fun s => (f s).isSome) = (u.take k).filter (fun s => (f s).isSome) := QbU hx (by rw [h]; rfl)
theorem YT (hx : u[k]? = some s) (h : f s = some v) : (u.take (k + 1)).filterMap f = (u.take k).filterMap f ++ [v] := by rw [Qnp hx, h]; rfl
theorem YN (hx : u[k]? = some s) (h : f s = none) : (u.take (k + 1)).filterMap f = (u.take k).filterMap f := by rw [Qnp hx, h]; simp
end
def Qv7 (up : Bool) (q : Qv) (a b : Qp) : Qp := .mk 0 ((K6 a.nm b.nm).filter fun s => (bdF up q a b s).isSome) ((K6 a.nm b.nm).filterMap (bdF up q a b)) []
theorem WL (l : Qv) (v : Qp) (hc : QB l = 0) : FC Tryz.prog 57 [.agg (Q2 l), .agg (QF v)] (bl (WH v (Qn l))) := by
 refine Qh [4] Tryz.func57 rfl rfl 14 Tryz.ntmps57 (Nat.le_of_ble_eq_true rfl) ?_
 intro E hN;refine Xg ?_;refine zD 9 ?_;refine zl ?_;refine zp (Qd (Qah l) rfl rfl rfl) ?_;refine QH ?_
 refine zd 8 ?_ ?_ <;> intro h7
 ·refine QH ?_;refine vP (XO h7) (Qd (Qdr l (Xb hc)) rfl rfl rfl) ?_;refine vP (XO h7) (Qd (Jr _ _) rfl rfl rfl) ?_;refine QH ?_;refine zQ ?_;exact Qo (by simp_all)
 refine Xk ?_;refine zQ ?_;exact Qo (by simp_all)
theorem QpN (up : Bool) (q : Qv) (hq : QB q = 0) (a b : Qp) (la : a.nm.length = a.ps.length) (sa : Qt a.nm = true) (lb : b.nm.length = b.ps.length) (sb : Qt b.nm = true) (hl : a.nm.length + b.nm.length ≤ 1000000) (hB : ∀ x ∈ a.ps, ∀ y ∈ b.ps, FC Tryz.prog 74 [.agg (Q2 q), .agg (QF x), .agg (QF y), bl up] (.agg (QF (bdV up q x y)))) : FC Tryz.prog 119 [.agg (Q2 q), .agg (QF a), .agg (QF b), bl up] (.agg (QF (Qv7 up q a b))) := by
 have hul := Qey sa sb
 refine Ju [.c 8 30 4 true] ⟨⟨inferInstance, rfl⟩, trivial⟩ Tryz.func119 rfl rfl 92 Tryz.ntmps119 (Nat.le_of_ble_eq_true rfl) ?_
 intro E hN;refine WV ?_;refine zP (Qd (Qhv _ _ sa sb hl) rfl rfl rfl) ?_;refine YI ?_;refine Qx (Yh rfl 4 1 9 1 rfl rfl rfl) ?_;refine Qx (Yh rfl 4 2 30 4 rfl rfl rfl) ?_
 refine Qm (fun x : {k : Nat // k ≤ ((K6 a.nm b.nm)).length ∧ True} => ⟨[(3, bl up), (4, .ptr 0 0), (5, .ptr 1 0), (6, .ptr 2 0), (8, .ptr 3 0), (9, XS (K6 a.nm b.nm)), (10, .ptr 4 0), (11, i64 (x.1 : Nat))], [(0, .var 26 (Q2 q)), (1, .var 30 (QF a)), (2, .var 30 (QF b)), (3, .var 30 [i64 0, .p (.slice none 0 0), .p (.slice none 0 0), .p (.slice none 0 0)]), (4, .var 30 [i64 0, .sl ((((K6 a.nm b.nm).take x.1).filter fun s => (bdF up q a b s).isSome).map Wz) (some 5), .sl ((((K6 a.nm b.nm).take x.1).filterMap (bdF up q a b)).map KV) (some 6), .p (.slice none 0 0)]), (5, .tok 9 1 (((K6 a.nm b.nm).take x.1).filter fun s => (bdF up q a b s).isSome).length), (6, .tok 30 4 (((K6 a.nm b.nm).take x.1).filterMap (bdF up q a b)).length)], 7⟩) (fun x => ((K6 a.nm b.nm)).length - x.1) (⟨0, Nat.zero_le _, by simp⟩) ?_ ?_
 ·exact Qa rfl (YO (YO trivial)) ⟨rfl, rfl, rfl, rfl, rfl, rfl, rfl, rfl, rfl, rfl, rfl, rfl, rfl, rfl, rfl, rfl, rfl, rfl, rfl, rfl, rfl, trivial⟩
 rintro ⟨k, hk, hg⟩;dsimp only;refine Xo ?_
 refine zq ?_ ?_ <;> intro h25
 rotate_left
 ·have hge : (K6 a.nm b.nm).length ≤ k := by simpa using h25
  rw [List.take_of_length_le hge];refine Xk ?_;refine Qg ?_;change (resY _ _).bind AV.fzt = some _;refine Xm rfl ?_
  rfl
 have hlt : k < (K6 a.nm b.nm).length := by simpa using h25
 obtain ⟨s, hx⟩ := Qq hlt
 have hsm := List.mem_of_getElem? hx
 have hfl1 : (((K6 a.nm b.nm).take k).filter fun s => (bdF up q a b s).isSome).length ≤ k := Qje
 have hfl2 : (((K6 a.nm b.nm).take k).filterMap (bdF up q a b)).length ≤ k := Nat.le_trans (List.length_filterMap_le _ _) (by simp; omega)
 refine QC ?_;refine zD 13 ?_;refine QD ?_;refine zp (Qf rfl rfl rfl k rfl _ (Qi hx) rfl) ?_;refine zl ?_;refine zp (Qd (Qi2 a s) rfl rfl rfl) ?_;refine QD ?_;refine zp (Qf rfl rfl rfl k rfl _ (Qi hx) rfl) ?_;refine zl ?_;refine zp (Qd (Qi2 b s) rfl rfl rfl) ?_;refine zp (JC rfl rfl) ?_;refine YI ?_
 refine zc 42 ?_ ?_ <;> intro h37
 rotate_left
 ·have hpa0 := Qjy h37
  refine Xs ?_
  refine zq ?_ ?_ <;> intro h4
  ·have hup : up = false := by simpa using h4
   have hF : bdF up q a b s = none := by
    rw [hup]
    first | exact Qod (.inr hpb) | exact Qod (.inl hpa0)
   refine Qy ?_;refine Qb ?_;exact ⟨⟨k + 1, hlt, trivial⟩, Qa rfl (YO (JZ ⟨X5, rfl, trivial⟩)) ⟨rfl, rfl, rfl, rfl, rfl, rfl, rfl, rfl, rfl, rfl, rfl, rfl, (cgM (by first | (rw [YP hx hF]; simp [Qz, Wz]; done) | rw [YR hx hF]) (by first | (rw [YT hx hF]; simp [Wu]; done) | rw [YN hx hF])), rfl, rfl, (cgT (by first | (rw [YP hx hF]; simp [Qz]; done) | rw [YR hx hF])), rfl, rfl, (cgT (by first | (rw [YT hx hF]; simp [XM]; done) | rw [YN hx hF])), rfl, rfl, trivial⟩, by dsimp only; omega⟩
  have hup : up = true := by simpa using h4
  refine Qy ?_
  refine zq ?_ ?_ <;> intro h115
  ·obtain ⟨i, x1, hi, hx1, hpa⟩ := Qe9 la h115
   have hF : bdF up q a b s = some x1 := by
    rw [hup]
    first | exact Qwh hpa hpb | (rw [hpa] at hpa0; cases hpa0)
   refine QC ?_;refine zP (Qf rfl rfl rfl i hi _ (QR hx1) rfl) ?_;refine QC ?_;refine zD 7 ?_;refine QC ?_;refine zp (Qf rfl rfl rfl _ rfl _ (by first | assumption | exact Qi (by assumption)) (by rfl)) ?_;refine zl ?_;refine zp (QG rfl rfl rfl rfl (by exact rfl) (by decide) (by decide)) ?_;refine QM hN rfl rfl rfl (by simp) rfl rfl (QP J4 _) rfl (by simp [Qz]; omega) rfl rfl rfl rfl ?_;refine Xg ?_;refine zP (QG rfl rfl rfl rfl (by exact rfl) (by decide) (by decide)) ?_
   refine QM hN rfl rfl rfl (by simp) rfl rfl (QP Y7 _) rfl (by simp [XM]; omega) rfl rfl rfl rfl ?_;refine Xg ?_;refine Qb ?_
   exact ⟨⟨k + 1, hlt, trivial⟩, Qa rfl (YO (JZ ⟨X5, rfl, trivial⟩)) ⟨rfl, rfl, rfl, rfl, rfl, rfl, rfl, rfl, rfl, rfl, rfl, rfl, (cgM (by first | (rw [YP hx hF]; simp [Qz, Wz]; done) | rw [YR hx hF]) (by first | (rw [YT hx hF]; simp [Wu]; done) | rw [YN hx hF])), rfl, rfl, (cgT (by first | (rw [YP hx hF]; simp [Qz]; done) | rw [YR hx hF])), rfl, rfl, (cgT (by first | (rw [YT hx hF]; simp [XM]; done) | rw [YN hx hF])), rfl, rfl, trivial⟩, by dsimp only; omega⟩
  have hpa1 := Qjy h115
  obtain ⟨j, y, hj, hy, hpb⟩ := QiI la sa lb sb hsm hpa1
  have hF : bdF up q a b s = some y := by rw [hup]; exact QvL hpa1 hpb
  refine QC ?_;refine zP (Qf rfl rfl rfl j hj _ (QR hy) rfl) ?_;refine QC ?_;refine zD 7 ?_;refine QC ?_;refine zp (Qf rfl rfl rfl _ rfl _ (by first | assumption | exact Qi (by assumption)) (by rfl)) ?_;refine zl ?_;refine zp (QG rfl rfl rfl rfl (by exact rfl) (by decide) (by decide)) ?_;refine QM hN rfl rfl rfl (by simp) rfl rfl (QP J4 _) rfl (by simp [Qz]; omega) rfl rfl rfl rfl ?_;refine Xg ?_;refine zP (QG rfl rfl rfl rfl (by exact rfl) (by decide) (by decide)) ?_
  refine QM hN rfl rfl rfl (by simp) rfl rfl (QP Y7 _) rfl (by simp [XM]; omega) rfl rfl rfl rfl ?_;refine Xg ?_;refine Qb ?_
  exact ⟨⟨k + 1, hlt, trivial⟩, Qa rfl (YO (JZ ⟨X5, rfl, trivial⟩)) ⟨rfl, rfl, rfl, rfl, rfl, rfl, rfl, rfl, rfl, rfl, rfl, rfl, (cgM (by first | (rw [YP hx hF]; simp [Qz, Wz]; done) | rw [YR hx hF]) (by first | (rw [YT hx hF]; simp [Wu]; done) | rw [YN hx hF])), rfl, rfl, (cgT (by first | (rw [YP hx hF]; simp [Qz]; done) | rw [YR hx hF])), rfl, rfl, (cgT (by first | (rw [YT hx hF]; simp [XM]; done) | rw [YN hx hF])), rfl, rfl, trivial⟩, by dsimp only; omega⟩
 obtain ⟨i, x1, hi, hx1, hpa⟩ := Qe9 la h37;refine QC ?_
 refine zq ?_ ?_ <;> intro h38
 ·obtain ⟨j, y, hj, hy, hpb⟩ := Qe9 lb h38;refine JB ?_;refine zD 13 ?_;refine QC ?_;refine zp (Qf rfl rfl rfl i hi _ (QR hx1) rfl) ?_;refine QC ?_;refine zp (Qf rfl rfl rfl j hj _ (QR hy) rfl) ?_;refine QH ?_;refine zp (Qd (hB x1 (List.mem_of_getElem? hx1) y (List.mem_of_getElem? hy)) rfl rfl rfl) ?_;refine Xk ?_;refine zP (Qd (WL q _ hq) rfl rfl rfl) ?_;refine zN ?_
  refine zq ?_ ?_ <;> intro h52
  ·have hF := Qu1 hpa hpb h52
   refine Qy ?_;refine Qb ?_;exact ⟨⟨k + 1, hlt, trivial⟩, Qa rfl (YO (JZ ⟨X5, rfl, trivial⟩)) ⟨rfl, rfl, rfl, rfl, rfl, rfl, rfl, rfl, rfl, rfl, rfl, rfl, (cgM (by first | (rw [YP hx hF]; simp [Qz, Wz]; done) | rw [YR hx hF]) (by first | (rw [YT hx hF]; simp [Wu]; done) | rw [YN hx hF])), rfl, rfl, (cgT (by first | (rw [YP hx hF]; simp [Qz]; done) | rw [YR hx hF])), rfl, rfl, (cgT (by first | (rw [YT hx hF]; simp [XM]; done) | rw [YN hx hF])), rfl, rfl, trivial⟩, by dsimp only; omega⟩
  have hF := Qvt hpa hpb h52
  refine QH ?_;refine zD 7 ?_;refine QC ?_;refine zp (Qf rfl rfl rfl _ rfl _ (by first | assumption | exact Qi (by assumption)) (by rfl)) ?_;refine zl ?_;refine zp (QG rfl rfl rfl rfl (by exact rfl) (by decide) (by decide)) ?_;refine QM hN rfl rfl rfl (by simp) rfl rfl (QP J4 _) rfl (by simp [Qz]; omega) rfl rfl rfl rfl ?_;refine Xg ?_;refine zP (QG rfl rfl rfl rfl (by exact rfl) (by decide) (by decide)) ?_;refine QM hN rfl rfl rfl (by simp) rfl rfl (QP Y7 _) rfl (by simp [XM]; omega) rfl rfl rfl rfl ?_;refine Xg ?_
  refine Qb ?_;exact ⟨⟨k + 1, hlt, trivial⟩, Qa rfl (YO (JZ ⟨X5, rfl, trivial⟩)) ⟨rfl, rfl, rfl, rfl, rfl, rfl, rfl, rfl, rfl, rfl, rfl, rfl, (cgM (by first | (rw [YP hx hF]; simp [Qz, Wz]; done) | rw [YR hx hF]) (by first | (rw [YT hx hF]; simp [Wu]; done) | rw [YN hx hF])), rfl, rfl, (cgT (by first | (rw [YP hx hF]; simp [Qz]; done) | rw [YR hx hF])), rfl, rfl, (cgT (by first | (rw [YT hx hF]; simp [XM]; done) | rw [YN hx hF])), rfl, rfl, trivial⟩, by dsimp only; omega⟩
 have hpb := Qjy h38
 refine Qy ?_
 refine zq ?_ ?_ <;> intro h4
 ·have hup : up = false := by simpa using h4
  have hF : bdF up q a b s = none := by
   rw [hup]
   first | exact Qod (.inr hpb) | exact Qod (.inl hpa0)
  refine Qy ?_;refine Qb ?_;exact ⟨⟨k + 1, hlt, trivial⟩, Qa rfl (YO (JZ ⟨X5, rfl, trivial⟩)) ⟨rfl, rfl, rfl, rfl, rfl, rfl, rfl, rfl, rfl, rfl, rfl, rfl, (cgM (by first | (rw [YP hx hF]; simp [Qz, Wz]; done) | rw [YR hx hF]) (by first | (rw [YT hx hF]; simp [Wu]; done) | rw [YN hx hF])), rfl, rfl, (cgT (by first | (rw [YP hx hF]; simp [Qz]; done) | rw [YR hx hF])), rfl, rfl, (cgT (by first | (rw [YT hx hF]; simp [XM]; done) | rw [YN hx hF])), rfl, rfl, trivial⟩, by dsimp only; omega⟩
 have hup : up = true := by simpa using h4
 refine Qy ?_
 refine zq ?_ ?_ <;> intro h71
 ·obtain ⟨i, x1, hi, hx1, hpa⟩ := Qe9 la h71
  have hF : bdF up q a b s = some x1 := by
   rw [hup]
   first | exact Qwh hpa hpb | (rw [hpa] at hpa0; cases hpa0)
  refine QC ?_;refine zP (Qf rfl rfl rfl i hi _ (QR hx1) rfl) ?_;refine QC ?_;refine zD 7 ?_;refine QC ?_;refine zp (Qf rfl rfl rfl _ rfl _ (by first | assumption | exact Qi (by assumption)) (by rfl)) ?_;refine zl ?_;refine zp (QG rfl rfl rfl rfl (by exact rfl) (by decide) (by decide)) ?_;refine QM hN rfl rfl rfl (by simp) rfl rfl (QP J4 _) rfl (by simp [Qz]; omega) rfl rfl rfl rfl ?_;refine Xg ?_;refine zP (QG rfl rfl rfl rfl (by exact rfl) (by decide) (by decide)) ?_
  refine QM hN rfl rfl rfl (by simp) rfl rfl (QP Y7 _) rfl (by simp [XM]; omega) rfl rfl rfl rfl ?_;refine Xg ?_;refine Qb ?_
  exact ⟨⟨k + 1, hlt, trivial⟩, Qa rfl (YO (JZ ⟨X5, rfl, trivial⟩)) ⟨rfl, rfl, rfl, rfl, rfl, rfl, rfl, rfl, rfl, rfl, rfl, rfl, (cgM (by first | (rw [YP hx hF]; simp [Qz, Wz]; done) | rw [YR hx hF]) (by first | (rw [YT hx hF]; simp [Wu]; done) | rw [YN hx hF])), rfl, rfl, (cgT (by first | (rw [YP hx hF]; simp [Qz]; done) | rw [YR hx hF])), rfl, rfl, (cgT (by first | (rw [YT hx hF]; simp [XM]; done) | rw [YN hx hF])), rfl, rfl, trivial⟩, by dsimp only; omega⟩
 have hpa1 := Qjy h71
 obtain ⟨j, y, hj, hy, hpb⟩ := QiI la sa lb sb hsm hpa1
 have hF : bdF up q a b s = some y := by rw [hup]; exact QvL hpa1 hpb
 refine QC ?_;refine zP (Qf rfl rfl rfl j hj _ (QR hy) rfl) ?_;refine QC ?_;refine zD 7 ?_;refine QC ?_;refine zp (Qf rfl rfl rfl _ rfl _ (by first | assumption | exact Qi (by assumption)) (by rfl)) ?_;refine zl ?_;refine zp (QG rfl rfl rfl rfl (by exact rfl) (by decide) (by decide)) ?_;refine QM hN rfl rfl rfl (by simp) rfl rfl (QP J4 _) rfl (by simp [Qz]; omega) rfl rfl rfl rfl ?_;refine Xg ?_;refine zP (QG rfl rfl rfl rfl (by exact rfl) (by decide) (by decide)) ?_
 refine QM hN rfl rfl rfl (by simp) rfl rfl (QP Y7 _) rfl (by simp [XM]; omega) rfl rfl rfl rfl ?_;refine Xg ?_;refine Qb ?_
 exact ⟨⟨k + 1, hlt, trivial⟩, Qa rfl (YO (JZ ⟨X5, rfl, trivial⟩)) ⟨rfl, rfl, rfl, rfl, rfl, rfl, rfl, rfl, rfl, rfl, rfl, rfl, (cgM (by first | (rw [YP hx hF]; simp [Qz, Wz]; done) | rw [YR hx hF]) (by first | (rw [YT hx hF]; simp [Wu]; done) | rw [YN hx hF])), rfl, rfl, (cgT (by first | (rw [YP hx hF]; simp [Qz]; done) | rw [YR hx hF])), rfl, rfl, (cgT (by first | (rw [YT hx hF]; simp [XM]; done) | rw [YN hx hF])), rfl, rfl, trivial⟩, by dsimp only; omega⟩
theorem QoK {up : Bool} {l q : Qv} (h : up = false → Qcx l = false) (hq : q ∈ l.ps) : up = false → Qcx q = false := fun e => by
 have h1 := h e
 rw [Qlr, Bool.or_eq_false_iff, List.any_eq_false] at h1
 simpa using h1.2 q hq
theorem QsI {up : Bool} {l : Qv} (h : up = false → Qcx l = false) (hk : l.k = 9) : up = true := by
 cases up
 ·have h1 := h rfl
  rw [Qlr, hk] at h1
  cases h1
 rfl
theorem Qoq {l : Qv} {a b : Qp} (hk : l.k = 4 ∨ l.k = 10) : bdV false l a b = .mk 0 (itr a.nm b.nm) [] [] := by
 rcases hk with hk | hk
 ·exact QqB false hk
 exact Qh1 false hk
def Qip (l : Qv) (a b : Qp) : Qp × Int := if J2 l [a, b] = 0 then (Qk l a b, 0) else (Qp.zero, J2 l [a, b])
theorem Qs8 (up : Bool) {n m : Nat} (hnm : n + m ≤ 1000000) (l : Qv) (hO : YM l) (hC : ChL l) (hR : up = false → Qcx l = false) (ih : ∀ q ∈ l.ps, ∀ x y, Qw x q = true → Qw y q = true → SmV n x → SmV m y → FC Tryz.prog 74 [.agg (Q2 q), .agg (QF x), .agg (QF y), bl up] (.agg (QF (bdV up q x y)))) (a b : Qp) (ha : Qw a l = true) (hb : Qw b l = true) (sa : SmV n a) (sb : SmV m b) : FC Tryz.prog 74 [.agg (Q2 l), .agg (QF a), .agg (QF b), bl up] (.agg (QF (bdV up l a b))) := by
 have na := sa.nm
 have nb := sb.nm
 have ea := sa.es
 have eb := sb.es
 have npl := hO.small
 refine Ju [.c 8 30 4 true] ⟨⟨inferInstance, rfl⟩, trivial⟩ Tryz.func74 rfl rfl 158 Tryz.ntmps74 (Nat.le_of_ble_eq_true rfl) ?_
 intro E hN;refine Qdb ?_
 refine zq ?_ ?_ <;> intro h11
 ·refine Xg ?_;refine zP (Qd (Qd4 a b up) rfl rfl rfl) ?_;refine QH ?_;refine Qg ?_;change (resY _ _).bind AV.fzt = some _;refine Xm rfl ?_;rw [QpF up (by simp_all)]
 refine QC ?_
 refine zq ?_ ?_ <;> intro h16
 ·refine Qy ?_;refine zP (Qd (Qd4 a b up) rfl rfl rfl) ?_;refine QH ?_;refine Qg ?_;change (resY _ _).bind AV.fzt = some _;refine Xm rfl ?_;rw [QpF up (by simp_all)]
 refine Qy ?_
 refine zq ?_ ?_ <;> intro h21
 ·refine Xk ?_;refine zP (Qd (Qd4 a b (!up)) rfl rfl rfl) ?_;refine QH ?_;refine Qg ?_;change (resY _ _).bind AV.fzt = some _;refine Xm rfl ?_;rw [QuR up (by simp_all) ha hb]
 refine Qy ?_
 refine zq ?_ ?_ <;> intro h26
 ·refine JB ?_
  have hk5 : l.k = 5 := by simp_all
  obtain ⟨q, r, hps⟩ := QeZ hO.shape hk5
  have hq0 : l.ps[0]? = some q := by rw [hps]; rfl
  have hqm : q ∈ l.ps := by rw [hps]; exact List.mem_cons_self
  obtain ⟨-, -, hla, hsa, -, hea⟩ := Kc ha hk5 hps;obtain ⟨-, -, hlb, hsb, -, heb⟩ := Kc hb hk5 hps;refine zD 8 ?_;refine QH ?_;refine zp (Qf rfl rfl rfl 0 rfl _ (XK hq0) rfl) ?_;refine QC ?_;refine zp (Qd (QpN up q (hC.part q hqm).ok a b hla hsa hlb hsb (by omega) (fun x hx y hy => ih q hqm x y (hea x hx).1 (heb y hy).1 (sa.part x hx) (sb.part y hy))) rfl rfl rfl) ?_;refine QH ?_;refine Qg ?_;change (resY _ _).bind AV.fzt = some _;refine Xm rfl ?_
  rw [Qvk up hO hC hk5 hps ha hb]; rfl
 refine Qy ?_
 refine zq ?_ ?_ <;> intro h35
 ·refine Qy ?_;refine zP (Qd (QqO a b up) rfl rfl rfl) ?_;refine QH ?_;refine Qg ?_;change (resY _ _).bind AV.fzt = some _;refine Xm rfl ?_;rw [Qty up (by simp_all) ha hb]
 refine Qy ?_
 refine zq ?_ ?_ <;> intro h40
 ·refine JB ?_
  have hk9 : l.k = 9 := by simp_all
  have hup := QsI hR hk9
  have rga := (KK ha hk9).2.2.2
  have rgb := (KK hb hk9).2.2.2
  refine Qy ?_;refine zP (Qd (QkN a.es b.es rga rgb (by omega)) rfl rfl rfl) ?_;refine QD ?_;refine Qg ?_;change (resY _ _).bind AV.fzt = some _;refine Xm rfl ?_
  rw [hup, QuE hk9]; rfl
 refine Qy ?_
 refine zq ?_ ?_ <;> intro h48
 ·refine QH ?_
  have hk7 : l.k = 7 := by simp_all
  obtain ⟨q1, q2, hps⟩ := KI hO.shape hk7;obtain ⟨x1, x2, hpa, hx1, hx2⟩ := Yw ha hk7 hps;obtain ⟨y1, y2, hpb, hy1, hy2⟩ := Yw hb hk7 hps
  have hq1' : l.ps[0]? = some q1 := by rw [hps]; rfl
  have hq2' : l.ps[1]? = some q2 := by rw [hps]; rfl
  have hx1' : a.ps[0]? = some x1 := by rw [hpa]; rfl
  have hx2' : a.ps[1]? = some x2 := by rw [hpa]; rfl
  have hy1' : b.ps[0]? = some y1 := by rw [hpb]; rfl
  have hy2' : b.ps[1]? = some y2 := by rw [hpb]; rfl
  refine zD 8 ?_;refine QH ?_;refine zp (Qf rfl rfl rfl 0 rfl _ (QR hx1') rfl) ?_;refine QD ?_;refine zp (Qf rfl rfl rfl 0 rfl _ (QR hy1') rfl) ?_;refine zl ?_;refine zP (Qd (Jr _ _) rfl rfl rfl) ?_;refine zN ?_
  refine zq ?_ ?_ <;> intro h57
  ·have h14 := h57
   refine JB ?_;refine zD 20 ?_;refine QH ?_;refine zp (Qf rfl rfl rfl 0 rfl _ (QR hx1') rfl) ?_;refine QD ?_;refine zp (Qf rfl rfl rfl 1 rfl _ (XK hq2') rfl) ?_;refine QD ?_;refine zp (Qf rfl rfl rfl 1 rfl _ (QR hx2') rfl) ?_;refine QD ?_;refine zp (Qf rfl rfl rfl 1 rfl _ (QR hy2') rfl) ?_;refine QH ?_;refine zp (Qd (ih q2 (by rw [hps]; simp) x2 y2 hx2 hy2 (sa.part x2 (by rw [hpa]; simp)) (sb.part y2 (by rw [hpb]; simp))) rfl rfl rfl) ?_;refine zp (J7 rfl rfl rfl rfl (by exact rfl) (by decide) (by decide) (QaI _ _)) ?_
   refine zp (Kf rfl rfl rfl) ?_;refine QH ?_;refine Qg ?_;change (resY _ _).bind AV.fzt = some _;refine Xm rfl ?_
   rw [Qmk up hO hk7 hps hpa hpb hx1 hy1, if_pos h14]; rfl
  have h14 := h57
  refine QD ?_;refine zD 14 ?_;refine QH ?_;refine zp (Qf rfl rfl rfl 0 rfl _ (XK hq1') rfl) ?_;refine QD ?_;refine zp (Qf rfl rfl rfl 0 rfl _ (QR hx1') rfl) ?_;refine QD ?_;refine zp (Qf rfl rfl rfl 0 rfl _ (QR hy1') rfl) ?_;refine zl ?_;refine zp (Qd (Qjw q1 (hO.part q1 (by rw [hps]; simp)) x1 y1 hx1 hy1 ((sa.part x1 (by rw [hpa]; simp)).up (by omega))) rfl rfl rfl) ?_;refine QD ?_
  refine zq ?_ ?_ <;> intro h91
  ·have h16 := h91
   refine Qy ?_;refine Qg ?_;change (resY _ _).bind AV.fzt = some _;refine Xm rfl ?_;rw [Qmk up hO hk7 hps hpa hpb hx1 hy1, if_neg (by rw [h14]; decide), if_pos h16]
  have h16 := h91
  refine Xk ?_;refine Qg ?_;change (resY _ _).bind AV.fzt = some _;refine Xm rfl ?_;rw [Qmk up hO hk7 hps hpa hpb hx1 hy1, if_neg (by rw [h14]; decide), if_neg (by rw [h16]; decide)]
 refine Qy ?_
 refine zq ?_ ?_ <;> intro h96
 ·refine JB ?_
  have hk6 : l.k = 6 := by simp_all
  obtain ⟨-, -, -, hla, hza⟩ := Ye ha (.inl hk6);obtain ⟨-, -, -, hlb, hzb⟩ := Ye hb (.inl hk6)
  have hjl := Qvz (up := up) hla hlb
  refine Xn ?_;refine Qx (Yh rfl 4 2 30 4 rfl rfl rfl) ?_
  refine Qm (fun x : {k : Nat // k ≤ (a.ps).length ∧ True} => ⟨[(3, bl up), (4, .ptr 0 0), (5, .ptr 1 0), (6, .ptr 2 0), (8, .ptr 3 0), (9, .ptr 4 0), (10, i64 (x.1 : Nat))], [(0, .var 26 (Q2 l)), (1, .var 30 (QF a)), (2, .var 30 (QF b)), (3, .var 30 [i64 0, .p (.slice none 0 0), .p (.slice none 0 0), .p (.slice none 0 0)]), (4, .var 30 [i64 0, .p (.slice none 0 0), .sl (((bdZ up l.ps a.ps b.ps).take x.1).map KV) (some 5), .p (.slice none 0 0)]), (5, .tok 30 4 (((bdZ up l.ps a.ps b.ps).take x.1).map KV).length)], 6⟩) (fun x => (a.ps).length - x.1) (⟨0, Nat.zero_le _, by simp⟩) ?_ ?_
  ·exact Qa rfl (YO (JZ trivial)) ⟨rfl, rfl, rfl, rfl, rfl, rfl, rfl, rfl, rfl, rfl, rfl, rfl, rfl, rfl, rfl, rfl, rfl, rfl, trivial⟩
  rintro ⟨k, hk, hg⟩;dsimp only;refine X3 ?_
  refine zq ?_ ?_ <;> intro h109
  rotate_left
  ·have hge : (a.ps).length ≤ k := by simpa using h109
   rw [List.take_of_length_le (by rw [hjl]; omega)];refine Xk ?_;refine Qg ?_;change (resY _ _).bind AV.fzt = some _;refine Xm rfl ?_
   rw [QtC up hk6]; rfl
  have hlt : k < a.ps.length := by simpa using h109
  obtain ⟨q, hq⟩ := Qq (show k < l.ps.length by omega);obtain ⟨x, hx⟩ := Qq hlt;obtain ⟨y, hy⟩ := Qq (show k < b.ps.length by omega);refine QD ?_;refine zD 20 ?_;refine Qy ?_;refine zp (Qf rfl rfl rfl k rfl _ (XK hq) rfl) ?_;refine QC ?_;refine zp (Qf rfl rfl rfl k rfl _ (QR hx) rfl) ?_;refine QC ?_;refine zp (Qf rfl rfl rfl k rfl _ (QR hy) rfl) ?_;refine QH ?_;refine zp (Qd (ih q (List.mem_of_getElem? hq) x y (Jd hza hx hq) (Jd hzb hy hq) (sa.part x (List.mem_of_getElem? hx)) (sb.part y (List.mem_of_getElem? hy))) rfl rfl rfl) ?_
  refine zp (QG rfl rfl rfl rfl (by exact rfl) (by decide) (by decide)) ?_;refine QM hN rfl rfl rfl (by simp) rfl rfl (QP Y7 _) rfl (by simp [XM]; omega) rfl rfl rfl rfl ?_;refine Xg ?_;refine Qb ?_;exact ⟨⟨k + 1, hlt, trivial⟩, Qa rfl (YO (Yf ⟨X5, rfl, trivial⟩)) ⟨rfl, rfl, rfl, rfl, rfl, rfl, rfl, rfl, rfl, rfl, rfl, rfl, (cgV (Qjd (QvA hq hx hy))), rfl, rfl, (cgT (by simp [XM]; omega)), rfl, rfl, trivial⟩, by dsimp only; omega⟩
 refine QD ?_
 have hk4 : l.k = 4 ∨ l.k = 10 := by
  have := QdR hO
  simp only [beq_eq_false_iff_ne] at *
  omega
 obtain ⟨-, -, -, hsa, -, -⟩ := Ks ha hk4;obtain ⟨-, -, -, hsb, -, -⟩ := Ks hb hk4;refine QC ?_
 refine zq ?_ ?_ <;> intro h4
 ·have hup : up = false := by simpa using h4
  refine Xk ?_;refine zP (Qd (Qma _ _ hsa hsb (by omega)) rfl rfl rfl) ?_;refine QD ?_;refine Qg ?_;change (resY _ _).bind AV.fzt = some _;refine Xm rfl ?_
  rw [hup, Qoq hk4]; rfl
 have hup : up = true := by simpa using h4
 refine Xg ?_;refine zP (Qd (Qhv _ _ hsa hsb (by omega)) rfl rfl rfl) ?_;refine X3 ?_
 refine zq ?_ ?_ <;> intro h146
 ·have hk10 : l.k = 10 := by simpa using h146
  have hE : bdV up l a b = .mk 0 (KG l.nm l.rs (K6 a.nm b.nm)) [] [] := by rw [hup]; exact Qh1 true hk10
  refine zD 7 ?_;refine QH ?_;refine zp (Qd (Qsj l.nm ((Qgv hO).2.1 (by omega)) (by have := (QjA hO).1; omega)) rfl rfl rfl) ?_;refine QD ?_;refine zp (Qd (Qmb l.nm l.rs (K6 a.nm b.nm) (by have := (QjA hO).1; omega) (by have := (QjA hO).2; omega) (by have := Qey hsa hsb; omega)) rfl rfl rfl) ?_;refine Xo ?_;refine Qg ?_;change (resY _ _).bind AV.fzt = some _;refine Xm rfl ?_
  rw [hE]; rfl
 have hk4' : l.k = 4 := hk4.resolve_right (by simpa using h146)
 have hE : bdV up l a b = .mk 0 (K6 a.nm b.nm) [] [] := by rw [hup]; exact QqB true hk4'
 refine Xg ?_;refine Qg ?_;change (resY _ _).bind AV.fzt = some _;refine Xm rfl ?_
 rw [hE]; rfl
theorem Qly (up : Bool) {n m : Nat} (hnm : n + m ≤ 1000000) (l : Qv) (hO : YM l) (hC : ChL l) (hR : up = false → Qcx l = false) (a b : Qp) (ha : Qw a l = true) (hb : Qw b l = true) (sa : SmV n a) (sb : SmV m b) : FC Tryz.prog 74 [.agg (Q2 l), .agg (QF a), .agg (QF b), bl up] (.agg (QF (bdV up l a b))) := Qs8 up hnm l hO hC hR (fun q hq x y hx hy sx sy => Qly up hnm q (hO.part q hq) (hC.part q hq) (QoK hR hq) x y hx hy sx sy) a b ha hb sa sb
termination_by l
decreasing_by exact Qv.sizeOf_ps ‹_›
theorem Qpb (l : Qv) (vs : List Qp) : FC Tryz.prog 72 [.agg (Q2 l), Y8 vs] (i64 (J2 l vs)) := by
 refine Qh [4] Tryz.func72 rfl rfl 22 Tryz.ntmps72 (Nat.le_of_ble_eq_true rfl) ?_
 intro E hN;refine Jq 1 rfl (fun hl1 => ?_);refine X3 ?_;refine zP (Qd (Qah l) rfl rfl rfl) ?_;refine QH ?_
 refine zq ?_ ?_ <;> intro h6
 ·have h1 : ¬ QB l = 0 := by simpa using h6
  refine QD ?_;refine zQ ?_;exact QZ (by unfold J2; simp [h1])
 have h1 : QB l = 0 := by simpa using h6
 refine Xg ?_;refine Qm (fun x : {k : Nat // k ≤ (vs).length ∧ (vs.drop k).all (XR l) = vs.all (XR l)} => ⟨[(1, Y8 vs), (2, .ptr 0 0), (5, i64 (x.1 : Nat))], [(0, .var 26 (Q2 l))], 1⟩) (fun x => (vs).length - x.1) (⟨0, Nat.zero_le _, by simp⟩) ?_ ?_
 ·exact Qa rfl (JZ trivial) ⟨rfl, rfl, rfl, trivial⟩
 rintro ⟨k, hk, hg⟩;dsimp only;refine Xo ?_
 refine zq ?_ ?_ <;> intro h10
 rotate_left
 ·have hge : (vs).length ≤ k := by simpa using h10
  refine QC ?_;refine zQ ?_;exact QZ (by unfold J2 Qaj; rw [X4 hg hge]; simp [h1])
 have hlt : k < (vs).length := by simpa using h10
 obtain ⟨x, hx⟩ := Qq hlt;refine QC ?_;refine zD 6 ?_;refine QD ?_;refine zp (Qf rfl rfl rfl k rfl _ (QR hx) rfl) ?_;refine zl ?_;refine zp (Qd (KD l x) rfl rfl rfl) ?_;refine QH ?_
 refine zq ?_ ?_ <;> intro h14
 ·refine QD ?_;refine zQ ?_;exact QZ (by unfold J2 Qaj; rw [Q6 hg hx (by simp_all)]; simp [h1])
 refine Qy ?_;refine Qb ?_;exact ⟨⟨k + 1, hlt, XG hg hx (by simp_all)⟩, Qa rfl (Yf ⟨X5, rfl, trivial⟩) ⟨rfl, rfl, rfl, trivial⟩, by dsimp only; omega⟩
theorem QrG (l : Qv) {n m : Nat} (hnm : n + m ≤ 1000000) (a b : Qp) (sa : SmV n a) (sb : SmV m b) : FC Tryz.prog 117 [.agg (Q2 l), .agg (QF a), .agg (QF b)] (.tup [.agg (QF (Qip l a b).1), i64 (Qip l a b).2]) := by
 refine Ju [.c 6 30 4 true, .t 7] ⟨⟨inferInstance, rfl⟩, trivial⟩ Tryz.func117 rfl rfl 22 Tryz.ntmps117 (Nat.le_of_ble_eq_true rfl) ?_
 intro E hN;refine YI ?_;refine zP (J7 rfl rfl rfl rfl (by exact rfl) (by decide) (by decide) (QaI a b)) ?_;refine zP (Qd (Qpb l [a, b]) rfl rfl rfl) ?_;refine Xg ?_
 refine zq ?_ ?_ <;> intro h13
 ·have h1 : ¬ J2 l [a, b] = 0 := by simpa using h13
  refine Xg ?_;refine Qg ?_;change (resY _ _).bind AV.fzt = some _;refine Xm rfl ?_
  rw [Qip, if_neg h1]; rfl
 have h1 : J2 l [a, b] = 0 := by simpa using h13
 have hc := Qfn h1
 refine Xk ?_;refine zP (Qd (Qly true hnm l (Xb hc.1) (ChL.of l hc.1) (fun e => by cases e) a b (hc.2 a (by simp)) (hc.2 b (by simp)) sa sb) rfl rfl rfl) ?_;refine QD ?_;refine Qg ?_;change (resY _ _).bind AV.fzt = some _;refine Xm rfl ?_
 rw [Qip, if_pos h1]; rfl
end Go.Proofs.YtnkkokmmeplbgaaGreat
namespace Go.Proofs.YtnkkokmmeplbgaaGreat
open Go.RowKit
structure YB where
 k : Int
 f : Int
 t : Int
 n : Int
 v : Qp
abbrev Jw (b : YB) : List AV := [i64 b.k, i64 b.f, i64 b.t, i64 b.n, i64 b.v.N, XS b.v.nm, Y8 b.v.ps, WA b.v.es]
abbrev Y4 (l : List YB) : AV := .sl (l.map fun b => Jw b) none
def YB.zero : YB := ⟨0, 0, 0, 0, Qp.zero⟩
end Go.Proofs.YtnkkokmmeplbgaaGreat
