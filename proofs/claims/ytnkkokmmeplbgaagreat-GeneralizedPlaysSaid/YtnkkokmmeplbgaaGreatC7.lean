/-
  Contracts of the reference: the order of a lattice's element
-/
import Derived.Test.YtnkkokmmeplbgaaGreatC5
import Derived.Test.YtnkkokmmeplbgaaGreatB14
import Derived.Test.YtnkkokmmeplbgaaGreatB16
namespace Go.Proofs.YtnkkokmmeplbgaaGreat
set_option maxRecDepth 100000
set_option maxHeartbeats 1000000
open Go.RowKit
theorem QsZ (v : Qp) (l : Qv) (hO : YM l) (ih : ∀ x ∈ v.ps, ∀ a, YM a → FC Tryz.prog 112 [.agg (Q2 a), .agg (QF x)] (bl (Qw x a))) : FC Tryz.prog 112 [.agg (Q2 l), .agg (QF v)] (bl (Qw v l)) := by
 refine Qh [4] Tryz.func112 rfl rfl 261 Tryz.ntmps112 (Nat.le_of_ble_eq_true rfl) ?_
 intro E hN;refine Xk ?_;refine QcV (⟨[(2, .ptr 0 0), (3, .ptr 1 0)], [(0, .var 26 (Q2 l)), (1, .var 30 (QF v))], 2⟩) (l.k = 9 ∨ v.es = []) ?_ ?_
 ·refine Xk ?_
  refine zc 11 ?_ ?_ <;> intro h7
  ·refine Xk ?_
   refine zq ?_ ?_ <;> intro h11
   ·refine QD ?_;refine zQ ?_;exact Qo (by rw [Qu]; simp_all [Q9] <;> (intros; omega))
   refine QO ?_;exact ⟨(by first | (simp_all; done) | (simp_all; omega)), Qa rfl (Yf trivial) ⟨rfl, rfl, rfl, rfl, rfl, rfl, trivial⟩⟩
  refine Xg ?_;refine QO ?_;exact ⟨(by first | (simp_all; done) | (simp_all; omega)), Qa rfl (Yf trivial) ⟨rfl, rfl, rfl, rfl, rfl, rfl, trivial⟩⟩
 intro hes;refine JT (⟨[(2, .ptr 0 0), (3, .ptr 1 0), (5, bl (l.k == 1 || l.k == 2 || l.k == 3 || l.k == 8))], [(0, .var 26 (Q2 l)), (1, .var 30 (QF v))], 2⟩) ?_ ?_
 ·refine Qy ?_
  refine zc 20 ?_ ?_ <;> intro h14
  ·refine QdK ?_;refine Qb ?_;exact Qa rfl (Yf ⟨(Kk (by simp_all)), rfl, trivial⟩) ⟨rfl, rfl, rfl, rfl, rfl, rfl, trivial⟩
  refine Qy ?_
  refine zc 25 ?_ ?_ <;> intro h17
  ·refine Xs ?_;refine Qb ?_;exact Qa rfl (Yf ⟨(Kk (by simp_all)), rfl, trivial⟩) ⟨rfl, rfl, rfl, rfl, rfl, rfl, trivial⟩
  refine Qy ?_
  refine zc 30 ?_ ?_ <;> intro h20
  ·refine Qy ?_;refine Qb ?_;exact Qa rfl (Yf ⟨(Kk (by simp_all)), rfl, trivial⟩) ⟨rfl, rfl, rfl, rfl, rfl, rfl, trivial⟩
  refine Qy ?_;refine Qb ?_;exact Qa rfl (Yf ⟨(Kk (by simp_all)), rfl, trivial⟩) ⟨rfl, rfl, rfl, rfl, rfl, rfl, trivial⟩
 refine QcV (⟨[(2, .ptr 0 0), (3, .ptr 1 0)], [(0, .var 26 (Q2 l)), (1, .var 30 (QF v))], 2⟩) ((l.k = 1 ∨ l.k = 2 ∨ l.k = 3 ∨ l.k = 8) ∨ v.N = 0) ?_ ?_
 ·refine Qy ?_
  refine zc 37 ?_ ?_ <;> intro h24
  ·refine Qy ?_
   refine zq ?_ ?_ <;> intro h27
   ·refine QD ?_;refine zQ ?_;exact Qo (by rw [Qu]; simp_all [Q9] <;> (intros; omega))
   refine QO ?_;exact ⟨(by first | (simp_all; done) | (simp_all; omega)), Qa rfl (Yf trivial) ⟨rfl, rfl, rfl, rfl, rfl, rfl, trivial⟩⟩
  refine Xk ?_;refine QO ?_;exact ⟨(by first | (simp_all; done) | (simp_all; omega)), Qa rfl (Yf trivial) ⟨rfl, rfl, rfl, rfl, rfl, rfl, trivial⟩⟩
 intro hN0;refine Jx ?_
 refine zq ?_ ?_ <;> intro h30
 ·refine Xk ?_
  refine zc 49 ?_ ?_ <;> intro h33
  ·refine Xn ?_
   refine zc 60 ?_ ?_ <;> intro h37
   ·refine Xk ?_;refine zQ ?_;exact Qo (by rw [Qu]; simp_all [Q9] <;> (intros; omega))
   refine Xk ?_;refine zQ ?_;exact Qo (by rw [Qu]; simp_all [Q9] <;> (intros; omega))
  refine Qy ?_
  refine zc 54 ?_ ?_ <;> intro h44
  rotate_left
  ·refine Jx ?_;refine zQ ?_;exact Qo (by rw [Qu]; simp_all [Q9] <;> (intros; omega))
  refine Xk ?_
  refine zc 60 ?_ ?_ <;> intro h48
  ·refine Xk ?_;refine zQ ?_;exact Qo (by rw [Qu]; simp_all [Q9] <;> (intros; omega))
  refine Xk ?_;refine zQ ?_;exact Qo (by rw [Qu]; simp_all [Q9] <;> (intros; omega))
 refine JT (⟨[(2, .ptr 0 0), (3, .ptr 1 0), (43, i64 l.k), (66, bl (l.k == 2 || l.k == 3))], [(0, .var 26 (Q2 l)), (1, .var 30 (QF v))], 2⟩) ?_ ?_
 ·refine Qy ?_
  refine zq ?_ ?_ <;> intro h53
  ·refine QO ?_;exact Qa rfl (JZ ⟨(Kk (by simp_all)), rfl, trivial⟩) ⟨rfl, rfl, rfl, rfl, rfl, rfl, trivial⟩
  refine QD ?_;refine Qb ?_;exact Qa rfl (JZ ⟨(Kk (by simp_all)), rfl, trivial⟩) ⟨rfl, rfl, rfl, rfl, rfl, rfl, trivial⟩
 refine zq ?_ ?_ <;> intro h55
 ·refine Xo ?_
  refine zc 74 ?_ ?_ <;> intro h60
  rotate_left
  ·refine Qes ?_;refine zQ ?_
   exact Qo (by
    have hk : l.k = 2 ∨ l.k = 3 := by simp_all
    have hk9 : v.es = [] := hes.resolve_left (by omega)
    rw [Qu]
    rcases hk with hk | hk <;> rw [hk] <;> simp_all [Q9] <;> (intros; omega))
  refine Xg ?_
  refine zc 81 ?_ ?_ <;> intro h65
  rotate_left
  ·refine Jx ?_;refine zQ ?_
   exact Qo (by
    have hk : l.k = 2 ∨ l.k = 3 := by simp_all
    have hk9 : v.es = [] := hes.resolve_left (by omega)
    rw [Qu]
    rcases hk with hk | hk <;> rw [hk] <;> simp_all [Q9] <;> (intros; omega))
  refine Xk ?_
  refine zc 87 ?_ ?_ <;> intro h69
  ·refine Xk ?_;refine zQ ?_
   exact Qo (by
    have hk : l.k = 2 ∨ l.k = 3 := by simp_all
    have hk9 : v.es = [] := hes.resolve_left (by omega)
    rw [Qu]
    rcases hk with hk | hk <;> rw [hk] <;> simp_all [Q9] <;> (intros; omega))
  refine Xk ?_;refine zQ ?_
  exact Qo (by
   have hk : l.k = 2 ∨ l.k = 3 := by simp_all
   have hk9 : v.es = [] := hes.resolve_left (by omega)
   rw [Qu]
   rcases hk with hk | hk <;> rw [hk] <;> simp_all [Q9] <;> (intros; omega))
 refine Qy ?_
 refine zq ?_ ?_ <;> intro h74
 ·refine Xg ?_
  refine zc 99 ?_ ?_ <;> intro h78
  ·refine QC ?_;refine uP (XO h78) (Qd (Wp _ _) rfl rfl rfl) ?_;refine QH ?_;refine zQ ?_;exact Qo (by rw [Qu]; simp_all [Q9] <;> (intros; omega))
  refine Xg ?_;refine zQ ?_;exact Qo (by rw [Qu]; simp_all [Q9] <;> (intros; omega))
 refine Qy ?_
 refine zq ?_ ?_ <;> intro h84
 ·refine Xo ?_
  refine zq ?_ ?_ <;> intro h88
  ·refine QD ?_;refine zQ ?_;exact Qo (by rw [Qu]; simp_all [Q9] <;> (intros; omega))
  refine Xg ?_
  refine zc 115 ?_ ?_ <;> intro h91
  ·refine Xn ?_
   refine zc 126 ?_ ?_ <;> intro h95
   ·refine Wn ?_;refine zQ ?_;exact Qo (by rw [Qu]; simp_all [Q9] <;> (intros; omega))
   refine QC ?_
   refine zc 130 ?_ ?_ <;> intro h98
   rotate_left
   ·refine QC ?_;refine uP (X0 h95) (Xx rfl rfl h98 rfl) ?_;refine Xk ?_;refine uP (X0 h95) (Xx rfl rfl rfl rfl) ?_;refine QH ?_;refine zQ ?_;exact Qo (by rw [Qu]; simp_all [Q9] <;> (intros; omega))
   refine QC ?_;refine uP (X0 h95) (XF rfl rfl h98 rfl) ?_;refine JB ?_
   refine zc 136 ?_ ?_ <;> intro h102
   ·refine QC ?_;refine uP (XO h102) (Qd (Wp _ _) rfl rfl rfl) ?_;refine uP (X0 h95) (XF rfl rfl h102 rfl) ?_;refine QH ?_;refine zQ ?_;exact Qo (by rw [Qu]; simp_all [Q9] <;> (intros; omega))
   refine Qy ?_;refine uP (X0 h95) (Xx rfl rfl h102 rfl) ?_;refine QH ?_;refine zQ ?_;exact Qo (by rw [Qu]; simp_all [Q9] <;> (intros; omega))
  refine Qy ?_
  refine zc 120 ?_ ?_ <;> intro h110
  rotate_left
  ·refine Xs ?_
   refine zc 130 ?_ ?_ <;> intro h129
   rotate_left
   ·refine YI ?_;refine zQ ?_;exact Qo (by rw [Qu]; simp_all [Q9] <;> (intros; omega))
   refine Xk ?_
   refine zc 136 ?_ ?_ <;> intro h133
   ·refine QC ?_;refine uP (XO h133) (Qd (Wp _ _) rfl rfl rfl) ?_;refine QD ?_;refine zQ ?_;exact Qo (by rw [Qu]; simp_all [Q9] <;> (intros; omega))
   refine Xo ?_;refine zQ ?_;exact Qo (by rw [Qu]; simp_all [Q9] <;> (intros; omega))
  refine Xk ?_
  refine zc 126 ?_ ?_ <;> intro h114
  ·refine Wn ?_;refine zQ ?_;exact Qo (by rw [Qu]; simp_all [Q9] <;> (intros; omega))
  refine QC ?_
  refine zc 130 ?_ ?_ <;> intro h117
  rotate_left
  ·refine QC ?_;refine uP (X0 h114) (Xx rfl rfl h117 rfl) ?_;refine Xk ?_;refine uP (X0 h114) (Xx rfl rfl rfl rfl) ?_;refine QH ?_;refine zQ ?_;exact Qo (by rw [Qu]; simp_all [Q9] <;> (intros; omega))
  refine QC ?_;refine uP (X0 h114) (XF rfl rfl h117 rfl) ?_;refine JB ?_
  refine zc 136 ?_ ?_ <;> intro h121
  ·refine QC ?_;refine uP (XO h121) (Qd (Wp _ _) rfl rfl rfl) ?_;refine uP (X0 h114) (XF rfl rfl h121 rfl) ?_;refine QH ?_;refine zQ ?_;exact Qo (by rw [Qu]; simp_all [Q9] <;> (intros; omega))
  refine Qy ?_;refine uP (X0 h114) (Xx rfl rfl h121 rfl) ?_;refine QH ?_;refine zQ ?_;exact Qo (by rw [Qu]; simp_all [Q9] <;> (intros; omega))
 refine Qy ?_
 refine zq ?_ ?_ <;> intro h139
 ·refine Xg ?_
  refine zc 150 ?_ ?_ <;> intro h143
  rotate_left
  ·refine Xn ?_;refine zQ ?_;exact Qo (by rw [Qu]; simp_all [Q9] <;> (intros; omega))
  refine Xk ?_
  refine zc 156 ?_ ?_ <;> intro h147
  ·refine QH ?_;refine uP (XO h147) (Qd (QkZ _) rfl rfl rfl) ?_;refine QH ?_;refine zQ ?_;exact Qo (by rw [Qu]; simp_all [Q9] <;> (intros; omega))
  refine Qy ?_;refine zQ ?_;exact Qo (by rw [Qu]; simp_all [Q9] <;> (intros; omega))
 refine Qy ?_
 refine zq ?_ ?_ <;> intro h151
 ·refine Xg ?_
  refine zc 167 ?_ ?_ <;> intro h155
  rotate_left
  ·refine YI ?_;refine zQ ?_;exact Qo (by rw [Qu]; simp_all [Q9] <;> (intros; omega))
  refine QC ?_;refine uP (XO h155) (Qd (Wp _ _) rfl rfl rfl) ?_;refine QH ?_
  refine zc 174 ?_ ?_ <;> intro h160
  ·refine QC ?_;refine uP (XO h160) (Qd (Qmm _ _ (Qvl hO)) rfl rfl rfl) ?_;refine QH ?_;refine zQ ?_;exact Qo (by rw [Qu]; simp_all [Q9] <;> (intros; omega))
  refine Xg ?_;refine zQ ?_;exact Qo (by rw [Qu]; simp_all [Q9] <;> (intros; omega))
 refine Qy ?_
 refine zq ?_ ?_ <;> intro h166
 rotate_left
 ·refine X3 ?_
  refine zc 233 ?_ ?_ <;> intro h209
  ·refine WV ?_;refine zQ ?_;exact Qo (by rw [Qu]; simp_all [Q9] <;> (intros; omega))
  refine X3 ?_
  refine zq ?_ ?_ <;> intro h216
  ·refine QD ?_;refine zQ ?_;exact Qo (by rw [Qu]; simp_all [Q9] <;> (intros; omega))
  refine Xg ?_
  have hle : v.ps.length = l.ps.length := by simp_all <;> omega
  have hE : Qw v l = Kj v.ps l.ps := by rw [Qu]; simp_all [Q9]
  refine Qm (fun x : {k : Nat // k ≤ (v.ps).length ∧ Kj (v.ps.drop k) (l.ps.drop k) = Kj v.ps l.ps} => ⟨[(2, .ptr 0 0), (3, .ptr 1 0), (7, i64 (x.1 : Nat))], [(0, .var 26 (Q2 l)), (1, .var 30 (QF v))], 2⟩) (fun x => (v.ps).length - x.1) (⟨0, Nat.zero_le _, by simp⟩) ?_ ?_
  ·exact Qa rfl (JZ trivial) ⟨rfl, rfl, rfl, rfl, rfl, rfl, trivial⟩
  rintro ⟨k, hk, hg⟩;dsimp only;refine X3 ?_
  refine zq ?_ ?_ <;> intro h223
  rotate_left
  ·have hge : (v.ps).length ≤ k := by simpa using h223
   refine QC ?_;refine zQ ?_;exact Qo (by rw [hE, Qqy hg hge])
  refine Jq 244 rfl (fun hl8 => ?_)
  have hlt : k < (v.ps).length := by simpa using h223
  obtain ⟨x, hx⟩ := Qq hlt;obtain ⟨q, hq⟩ := Qq (show k < l.ps.length by omega)
  have hOq : YM q := hO.part q (List.mem_of_getElem? hq)
  have hs := Quf hg hx hq
  refine QC ?_;refine zD 11 ?_;refine QD ?_;refine zp (Qf rfl rfl rfl k rfl _ (XK hq) rfl) ?_;refine QC ?_;refine zp (Qf rfl rfl rfl k rfl _ (QR hx) rfl) ?_;refine zl ?_;refine zp (Qd (ih x (List.mem_of_getElem? hx) q hOq) rfl rfl rfl) ?_;refine QH ?_
  refine zq ?_ ?_ <;> intro h232
  ·refine QD ?_;refine zQ ?_;exact Qo (by rw [hE, hs]; simp_all)
  refine Qy ?_;refine Qb ?_;exact ⟨⟨k + 1, hlt, by simp_all⟩, Qa rfl (Yf ⟨X5, rfl, trivial⟩) ⟨rfl, rfl, rfl, rfl, rfl, rfl, trivial⟩, by dsimp only; omega⟩
 refine Xn ?_
 refine zc 190 ?_ ?_ <;> intro h173
 ·refine Jx ?_;refine zQ ?_;exact Qo (by rw [Qu]; simp_all [Q9] <;> (intros; omega))
 refine QC ?_;refine uP (X0 h173) (Qd (Wp _ _) rfl rfl rfl) ?_;refine QD ?_
 refine zq ?_ ?_ <;> intro h178
 ·refine QD ?_;refine zQ ?_;exact Qo (by rw [Qu]; simp_all [Q9] <;> (intros; omega))
 refine Xg ?_
 have hk5 : l.k = 5 := by simp_all
 obtain ⟨a, r, hps⟩ := QeZ hO.shape hk5
 have hOa : YM a := hO.part a (by rw [hps]; exact List.mem_cons_self)
 have ha : l.ps[0]? = some a := by rw [hps]; rfl
 have hE : Qw v l = v.ps.all (QaO a) := by rw [Qu, hk5, hps]; simp_all [Qa4, Q9]
 refine Qm (fun x : {k : Nat // k ≤ (v.ps).length ∧ (v.ps.drop k).all (QaO a) = v.ps.all (QaO a)} => ⟨[(2, .ptr 0 0), (3, .ptr 1 0), (6, i64 (x.1 : Nat))], [(0, .var 26 (Q2 l)), (1, .var 30 (QF v))], 2⟩) (fun x => (v.ps).length - x.1) (⟨0, Nat.zero_le _, by simp⟩) ?_ ?_
 ·exact Qa rfl (JZ trivial) ⟨rfl, rfl, rfl, rfl, rfl, rfl, trivial⟩
 rintro ⟨k, hk, hg⟩;dsimp only;refine X3 ?_
 refine zq ?_ ?_ <;> intro h185
 rotate_left
 ·have hge : (v.ps).length ≤ k := by simpa using h185
  refine QC ?_;refine zQ ?_;exact Qo (by rw [hE, X4 hg hge])
 refine Jq 200 rfl (fun hl8 => ?_)
 have hlt : k < (v.ps).length := by simpa using h185
 obtain ⟨x, hx⟩ := Qq hlt;refine QC ?_;refine zD 23 ?_;refine QH ?_;refine zp (Qf rfl rfl rfl 0 rfl _ (XK ha) rfl) ?_;refine QC ?_;refine zp (Qf rfl rfl rfl k rfl _ (QR hx) rfl) ?_;refine zl ?_;refine zp (Qd (ih x (List.mem_of_getElem? hx) a hOa) rfl rfl rfl) ?_;refine QH ?_
 refine zd 216 ?_ ?_ <;> intro h194
 ·refine Qd8 ?_;refine zQ ?_;exact Qo (by rw [hE, Q6 hg hx (by simp_all [QaO])])
 refine QD ?_;refine vP (X0 (m1 (n0 h194))) (Qf rfl rfl rfl k rfl _ (QR hx) rfl) ?_;refine QD ?_;refine vP (X0 (m1 (n0 h194))) (Qf rfl rfl rfl 0 rfl _ (XK ha) rfl) ?_;refine JB ?_;refine vP (X0 (m1 (n0 h194))) (Qd (Qdr a hOa) rfl rfl rfl) ?_;refine vP (X0 (m1 (n0 h194))) (Qd (Jr _ _) rfl rfl rfl) ?_;refine QH ?_
 refine zq ?_ ?_ <;> intro h204
 ·refine QD ?_;refine zQ ?_;exact Qo (by rw [hE, Q6 hg hx (by simp_all [QaO])])
 refine Qy ?_;refine Qb ?_;exact ⟨⟨k + 1, hlt, XG hg hx (by simp_all [QaO])⟩, Qa rfl (Yf ⟨X5, rfl, trivial⟩) ⟨rfl, rfl, rfl, rfl, rfl, rfl, trivial⟩, by dsimp only; omega⟩
theorem QlI (v : Qp) (l : Qv) (hO : YM l) : FC Tryz.prog 112 [.agg (Q2 l), .agg (QF v)] (bl (Qw v l)) := QsZ v l hO (fun x _ a ha => QlI x a ha)
termination_by v
decreasing_by exact Qp.sizeOf_ps ‹_›
theorem KD (l : Qv) (v : Qp) : FC Tryz.prog 65 [.agg (Q2 l), .agg (QF v)] (bl (XR l v)) := by
 refine Qh [4] Tryz.func65 rfl rfl 13 Tryz.ntmps65 (Nat.le_of_ble_eq_true rfl) ?_
 intro E hN;refine X3 ?_;refine zP (Qd (Qah l) rfl rfl rfl) ?_;refine QH ?_
 refine zc 8 ?_ ?_ <;> intro h7
 ·have h1 : QB l = 0 := by simpa using h7
  refine QH ?_;refine uP (XO h7) (Qd (QlI v l (Xb h1)) rfl rfl rfl) ?_;refine QH ?_;refine zQ ?_;exact Qo (by simp_all [XR])
 refine Qy ?_;refine zQ ?_;exact Qo (by simp_all [XR])
end Go.Proofs.YtnkkokmmeplbgaaGreat
namespace Go.Proofs.YtnkkokmmeplbgaaGreat
set_option maxRecDepth 100000
set_option maxHeartbeats 1000000
open Go.RowKit
theorem Qif (x y : En) : FC Tryz.prog 148 [.agg (K3 x), .agg (K3 y)] (bl (Qae x y)) := by
 refine Qh [4] Tryz.func148 rfl rfl 24 Tryz.ntmps148 (Nat.le_of_ble_eq_true rfl) ?_
 intro E hN;refine YI ?_
 refine zc 10 ?_ ?_ <;> intro h9
 rotate_left
 ·refine Xn ?_;refine zP (Qd (Qdq _ _) rfl rfl rfl) ?_;refine QH ?_;refine zQ ?_;exact Qo (by simp_all [Qae])
 refine QC ?_;refine uP (XO h9) (Qd (Qpp _ _) rfl rfl rfl) ?_;refine QH ?_
 refine zc 17 ?_ ?_ <;> intro h14
 ·refine Xg ?_;refine zQ ?_;exact Qo (by simp_all [Qae])
 refine QC ?_;refine uP (X0 h14) (Qd (Qdq _ _) rfl rfl rfl) ?_;refine QH ?_;refine zQ ?_;exact Qo (by simp_all [Qae])
theorem Qi2 (v : Qp) (s : Nm) : FC Tryz.prog 136 [.agg (QF v), sv s] (i64 (Xu s v.nm 0)) := by
 refine Qh [4] Tryz.func136 rfl rfl 21 Tryz.ntmps136 (Nat.le_of_ble_eq_true rfl) ?_
 intro E hN;refine Xn ?_;refine Qm (fun x : {k : Nat // k ≤ (v.nm).length ∧ Xu s (v.nm.drop k) k = Xu s v.nm 0} => ⟨[(1, sv s), (2, .ptr 0 0), (5, i64 (x.1 : Nat))], [(0, .var 30 (QF v))], 1⟩) (fun x => (v.nm).length - x.1) (⟨0, Nat.zero_le _, by simp⟩) ?_ ?_
 ·exact Qa rfl (JZ trivial) ⟨rfl, rfl, rfl, trivial⟩
 rintro ⟨k, hk, hg⟩;dsimp only;refine X3 ?_
 refine zq ?_ ?_ <;> intro h10
 rotate_left
 ·have hge : (v.nm).length ≤ k := by simpa using h10
  refine QC ?_;refine zQ ?_;exact QZ (by rw [← hg, List.drop_of_length_le hge]; rfl)
 refine Jq 8 rfl (fun hl8 => ?_)
 have hlt : k < (v.nm).length := by simpa using h10
 obtain ⟨x, hx⟩ := Qq hlt
 have hs : Xu s v.nm 0 = if s == x then (k : Int) else Xu s (v.nm.drop (k + 1)) (k + 1) := by rw [← hg, XC hx]; rfl
 refine Xo ?_;refine zP (Qf rfl rfl rfl k rfl _ (Qi hx) rfl) ?_;refine QC ?_
 refine zq ?_ ?_ <;> intro h15
 ·have hxs : x = s := by simpa using h15
  refine QC ?_;refine zQ ?_;exact QZ (by rw [hs, if_pos (by simp [hxs])])
 have hn : Xu s (v.nm.drop (k + 1)) (k + 1) = Xu s v.nm 0 := by
  have hxs : x ≠ s := by simpa using h15
  rw [hs, if_neg (by simp [Ne.symm hxs])]
 refine Qy ?_;refine Qb ?_;exact ⟨⟨k + 1, hlt, hn⟩, Qa rfl (Yf ⟨X5, rfl, trivial⟩) ⟨rfl, rfl, rfl, trivial⟩, by dsimp only; omega⟩
theorem Qos (e : En) (l : List En) (hx0 : QV (-1) e.1 = true) (hl0 : ∀ y ∈ l, QV (-1) y.1 = true) : FC Tryz.prog 137 [.agg (K3 e), WA l] (bl (J1 l e)) := by
 refine Qh [4] Tryz.func137 rfl rfl 18 Tryz.ntmps137 (Nat.le_of_ble_eq_true rfl) ?_
 intro E hN;refine Jq 1 rfl (fun hl1 => ?_);rw [← QoH hx0 hl0];refine Xn ?_;refine Qm (fun x : {k : Nat // k ≤ (l).length ∧ (l.drop k).any (Qae e) = l.any (Qae e)} => ⟨[(1, WA l), (2, .ptr 0 0), (5, i64 (x.1 : Nat))], [(0, .var 149 (K3 e))], 1⟩) (fun x => (l).length - x.1) (⟨0, Nat.zero_le _, by simp⟩) ?_ ?_
 ·exact Qa rfl (JZ trivial) ⟨rfl, rfl, rfl, trivial⟩
 rintro ⟨k, hk, hg⟩;dsimp only;refine Xo ?_
 refine zq ?_ ?_ <;> intro h8
 rotate_left
 ·have hge : (l).length ≤ k := by simpa using h8
  refine QC ?_;refine zQ ?_;exact Qo (Qgd hg hge).symm
 have hlt : k < l.length := by simpa using h8
 obtain ⟨y, hy⟩ := Qq hlt;refine QC ?_;refine zD 5 ?_;refine QD ?_;refine zp (Qf rfl rfl rfl k rfl _ (Qi hy) rfl) ?_;refine zl ?_;refine zP (Qd (Qif e y) rfl rfl rfl) ?_;refine zN ?_
 refine zq ?_ ?_ <;> intro h12
 ·have h4 := h12
  refine QD ?_;refine zQ ?_;exact Qo (Qgn hg hy h4).symm
 have h4 := h12
 refine Qy ?_;refine Qb ?_;exact ⟨⟨k + 1, hlt, QjB hg hy h4⟩, Qa rfl (Yf ⟨X5, rfl, trivial⟩) ⟨rfl, rfl, rfl, trivial⟩, by dsimp only; omega⟩
theorem Qvh (l : Qv) (hO : YM l) (ih : ∀ q ∈ l.ps, ∀ x y, Qw x q = true → Qw y q = true → SmV 1000000 x → FC Tryz.prog 105 [.agg (Q2 q), .agg (QF x), .agg (QF y)] (bl (QJ q x y))) (a b : Qp) (ha : Qw a l = true) (hb : Qw b l = true) (sa : SmV 1000000 a) : FC Tryz.prog 105 [.agg (Q2 l), .agg (QF a), .agg (QF b)] (bl (QJ l a b)) := by
 refine Qh [6] Tryz.func105 rfl rfl 166 Tryz.ntmps105 (Nat.le_of_ble_eq_true rfl) ?_
 intro E hN;refine Qdb ?_
 refine zq ?_ ?_ <;> intro h9
 ·refine Xs ?_;refine zQ ?_;exact Qo (by rw [XN]; simp_all)
 refine QC ?_
 refine zq ?_ ?_ <;> intro h15
 ·refine Xo ?_;refine zQ ?_;exact Qo (by rw [XN]; simp_all)
 refine Qy ?_
 refine zq ?_ ?_ <;> intro h21
 ·refine Xo ?_;refine zQ ?_;exact Qo (by rw [XN]; simp_all)
 refine Xk ?_
 refine zq ?_ ?_ <;> intro h27
 ·refine Xo ?_;refine zP (Qd (Qeg _ _ sa.nm) rfl rfl rfl) ?_;refine zS ?_;refine zQ ?_;exact Qo (by rw [XN]; simp_all)
 refine QC ?_
 refine zq ?_ ?_ <;> intro h33
 ·refine Xk ?_;refine zP (Qd (Qeg _ _ sa.nm) rfl rfl rfl) ?_;refine zS ?_;refine zQ ?_;exact Qo (by rw [XN]; simp_all)
 refine Qy ?_
 refine zq ?_ ?_ <;> intro h39
 ·refine Xk ?_
  refine zc 41 ?_ ?_ <;> intro h42
  ·refine Xs ?_;refine zQ ?_;exact Qo (by rw [XN]; simp_all)
  refine Qy ?_
  refine zc 46 ?_ ?_ <;> intro h45
  ·refine Qy ?_;refine zQ ?_;exact Qo (by rw [XN]; simp_all)
  refine QH ?_;refine uP (X0 h45) (Qd (Jr _ _) rfl rfl rfl) ?_;refine QH ?_;refine zQ ?_;exact Qo (by rw [XN]; simp_all)
 refine Qy ?_
 refine zq ?_ ?_ <;> intro h49
 ·refine QH ?_
  have hk7 : l.k = 7 := by simp_all
  obtain ⟨q1, q2, hps⟩ := KI hO.shape hk7;obtain ⟨x1, x2, hpa, hx1, hx2⟩ := Yw ha hk7 hps;obtain ⟨y1, y2, hpb, hy1, hy2⟩ := Yw hb hk7 hps
  have hE : QJ l a b = if WH x1 y1 then QJ q2 x2 y2 else QJ q1 x1 y1 := by rw [XN, hk7, hps, hpa, hpb]; simp [QpJ]
  have hq1' : l.ps[0]? = some q1 := by rw [hps]; rfl
  have hq2' : l.ps[1]? = some q2 := by rw [hps]; rfl
  have hx1' : a.ps[0]? = some x1 := by rw [hpa]; rfl
  have hx2' : a.ps[1]? = some x2 := by rw [hpa]; rfl
  have hy1' : b.ps[0]? = some y1 := by rw [hpb]; rfl
  have hy2' : b.ps[1]? = some y2 := by rw [hpb]; rfl
  refine zD 8 ?_;refine QH ?_;refine zp (Qf rfl rfl rfl 0 rfl _ (QR hx1') rfl) ?_;refine QD ?_;refine zp (Qf rfl rfl rfl 0 rfl _ (QR hy1') rfl) ?_;refine zl ?_;refine zP (Qd (Jr _ _) rfl rfl rfl) ?_;refine zN ?_
  refine zq ?_ ?_ <;> intro h58
  ·have h13 := h58
   refine JB ?_;refine zD 13 ?_;refine QH ?_;refine zp (Qf rfl rfl rfl 1 rfl _ (XK hq2') rfl) ?_;refine QD ?_;refine zp (Qf rfl rfl rfl 1 rfl _ (QR hx2') rfl) ?_;refine QD ?_;refine zp (Qf rfl rfl rfl 1 rfl _ (QR hy2') rfl) ?_;refine zl ?_;refine zp (Qd (ih q2 (by rw [hps]; simp) x2 y2 hx2 hy2 (sa.part x2 (by rw [hpa]; simp))) rfl rfl rfl) ?_;refine zS ?_;refine zQ ?_;exact Qo (by rw [hE, if_pos h13])
  have h13 := h58
  refine QH ?_;refine zD 13 ?_;refine QH ?_;refine zp (Qf rfl rfl rfl 0 rfl _ (XK hq1') rfl) ?_;refine QD ?_;refine zp (Qf rfl rfl rfl 0 rfl _ (QR hx1') rfl) ?_;refine QD ?_;refine zp (Qf rfl rfl rfl 0 rfl _ (QR hy1') rfl) ?_;refine zl ?_;refine zp (Qd (ih q1 (by rw [hps]; simp) x1 y1 hx1 hy1 (sa.part x1 (by rw [hpa]; simp))) rfl rfl rfl) ?_;refine zS ?_;refine zQ ?_;exact Qo (by rw [hE, if_neg (by simp [h13])])
 refine Qy ?_
 refine zq ?_ ?_ <;> intro h85
 ·refine Xk ?_
  have hk5 : l.k = 5 := by simp_all
  obtain ⟨q, r, hps⟩ := QeZ hO.shape hk5
  have hqm : q ∈ l.ps := by rw [hps]; exact List.mem_cons_self
  have hq0 : l.ps[0]? = some q := by rw [hps]; rfl
  obtain ⟨hla, hea⟩ := QtR ha hk5 hps;obtain ⟨hlb, heb⟩ := QtR hb hk5 hps
  have hE : QJ l a b = (a.nm.zip a.ps).all (Qd0 q b) := by rw [XN, hk5, hps]; simp [Qhi]
  refine Qm (fun x : {k : Nat // k ≤ (a.nm).length ∧ ((a.nm.zip a.ps).drop k).all (Qd0 q b) = (a.nm.zip a.ps).all (Qd0 q b)} => ⟨[(3, .ptr 0 0), (4, .ptr 1 0), (5, .ptr 2 0), (7, i64 (x.1 : Nat))], [(0, .var 26 (Q2 l)), (1, .var 30 (QF a)), (2, .var 30 (QF b))], 3⟩) (fun x => (a.nm).length - x.1) (⟨0, Nat.zero_le _, by simp⟩) ?_ ?_
  ·exact Qa rfl (YO trivial) ⟨rfl, rfl, rfl, rfl, rfl, rfl, rfl, rfl, rfl, trivial⟩
  rintro ⟨k, hk, hg⟩;dsimp only;refine X3 ?_
  refine zq ?_ ?_ <;> intro h93
  rotate_left
  ·have hge : (a.nm).length ≤ k := by simpa using h93
   refine QC ?_;refine zQ ?_;exact Qo (by rw [hE, X4 hg (by simp; omega)])
  refine Jq 92 rfl (fun hl8 => ?_)
  have hlt : k < (a.nm).length := by simpa using h93
  obtain ⟨x, hx⟩ := Qq hlt;obtain ⟨p, hp⟩ := Qq (show k < a.ps.length by omega);refine QC ?_;refine zD 7 ?_;refine QC ?_;refine zp (Qf rfl rfl rfl k rfl _ (Qi hx) rfl) ?_;refine zl ?_;refine zp (Qd (Qi2 b x) rfl rfl rfl) ?_;refine QD ?_;refine zD 19 ?_;refine QD ?_
  refine zd 106 ?_ ?_ <;> intro h100
  ·have hpo := QaB (s := x) (b := b) (by simpa using h100)
   refine Qof ?_;refine zQ ?_;exact Qo (by rw [hE, Q6 hg (Qat hx hp) (by simp only [Qd0, hpo]; first | done | simp_all)])
  obtain ⟨j, hj, hjl⟩ : ∃ j : Nat, Xu x b.nm 0 = (j : Int) ∧ j < b.ps.length := by
   rcases QbO x b.nm 0 with h1 | ⟨j, -, h2, h3⟩
   ·simp [h1] at h100
   exact ⟨j, h3, by omega⟩
  obtain ⟨y, hy⟩ := Qq hjl
  have hpo := Qbs hj hy
  refine QH ?_;refine vP (X0 h100) (Qf rfl rfl rfl 0 rfl _ (XK hq0) rfl) ?_;refine QC ?_;refine vP (X0 h100) (Qf rfl rfl rfl k rfl _ (QR hp) rfl) ?_;refine QC ?_;refine vP (X0 h100) (Qf rfl rfl rfl j hj _ (QR hy) rfl) ?_;refine JB ?_;refine vP (X0 h100) (Qd (ih q hqm p y (hea p (List.mem_of_getElem? hp)) (heb y (List.mem_of_getElem? hy)) (sa.part p (List.mem_of_getElem? hp))) rfl rfl rfl) ?_;refine QD ?_
  refine zq ?_ ?_ <;> intro h113
  ·refine QD ?_;refine zQ ?_;exact Qo (by rw [hE, Q6 hg (Qat hx hp) (by simp only [Qd0, hpo]; first | done | simp_all)])
  refine Qy ?_;refine Qb ?_;exact ⟨⟨k + 1, hlt, XG hg (Qat hx hp) (by simp only [Qd0, hpo]; simp_all)⟩, Qa rfl (JZ ⟨X5, rfl, trivial⟩) ⟨rfl, rfl, rfl, rfl, rfl, rfl, rfl, rfl, rfl, trivial⟩, by dsimp only; omega⟩
 refine Qy ?_
 refine zq ?_ ?_ <;> intro h115
 ·refine Xk ?_
  have hk6 : l.k = 6 := by simp_all
  obtain ⟨hla, hza⟩ := QoL ha (.inl hk6);obtain ⟨hlb, hzb⟩ := QoL hb (.inl hk6)
  have hE : QJ l a b = Qch l.ps a.ps b.ps := by rw [XN, hk6]; rfl
  refine Qm (fun x : {k : Nat // k ≤ (a.ps).length ∧ Qch (l.ps.drop k) (a.ps.drop k) (b.ps.drop k) = Qch l.ps a.ps b.ps} => ⟨[(3, .ptr 0 0), (4, .ptr 1 0), (5, .ptr 2 0), (9, i64 (x.1 : Nat))], [(0, .var 26 (Q2 l)), (1, .var 30 (QF a)), (2, .var 30 (QF b))], 3⟩) (fun x => (a.ps).length - x.1) (⟨0, Nat.zero_le _, by simp⟩) ?_ ?_
  ·exact Qa rfl (YO trivial) ⟨rfl, rfl, rfl, rfl, rfl, rfl, rfl, rfl, rfl, trivial⟩
  rintro ⟨k, hk, hg⟩;dsimp only;refine X3 ?_
  refine zq ?_ ?_ <;> intro h123
  rotate_left
  ·have hge : (a.ps).length ≤ k := by simpa using h123
   refine QC ?_;refine zQ ?_;exact Qo (by rw [hE, QpH hg (by omega)])
  refine Jq 128 rfl (fun hl8 => ?_)
  have hlt : k < a.ps.length := by simpa using h123
  obtain ⟨q, hq⟩ := Qq (show k < l.ps.length by omega);obtain ⟨x, hx⟩ := Qq (show k < a.ps.length by omega);obtain ⟨y, hy⟩ := Qq (show k < b.ps.length by omega)
  have hqm : q ∈ l.ps := List.mem_of_getElem? hq
  have hs := Qt9 hg hq hx hy
  refine QC ?_;refine zD 16 ?_;refine QD ?_;refine zp (Qf rfl rfl rfl k rfl _ (XK hq) rfl) ?_;refine QC ?_;refine zp (Qf rfl rfl rfl k rfl _ (QR hx) rfl) ?_;refine QC ?_;refine zp (Qf rfl rfl rfl k rfl _ (QR hy) rfl) ?_;refine zl ?_;refine zp (Qd (ih q hqm x y (Jd hza hx hq) (Jd hzb hy hq) (sa.part x (List.mem_of_getElem? hx))) rfl rfl rfl) ?_;refine QH ?_
  refine zq ?_ ?_ <;> intro h136
  ·refine QD ?_;refine zQ ?_;exact Qo (by rw [hE, hs]; simp_all)
  refine Qy ?_;refine Qb ?_;exact ⟨⟨k + 1, hlt, by simp_all⟩, Qa rfl (JZ ⟨X5, rfl, trivial⟩) ⟨rfl, rfl, rfl, rfl, rfl, rfl, rfl, rfl, rfl, trivial⟩, by dsimp only; omega⟩
 refine Xg ?_
 have hk9 : l.k = 9 := by
  have := QdR hO
  simp only [beq_eq_false_iff_ne] at *
  omega
 have rga := (KK ha hk9).2.2.2
 have rgb := (KK hb hk9).2.2.2
 have hE : QJ l a b = a.es.all (J1 b.es) := by rw [XN, hk9]; rfl
 refine Qm (fun x : {k : Nat // k ≤ (a.es).length ∧ (a.es.drop k).all (J1 b.es) = a.es.all (J1 b.es)} => ⟨[(3, .ptr 0 0), (4, .ptr 1 0), (5, .ptr 2 0), (10, i64 (x.1 : Nat))], [(0, .var 26 (Q2 l)), (1, .var 30 (QF a)), (2, .var 30 (QF b))], 3⟩) (fun x => (a.es).length - x.1) (⟨0, Nat.zero_le _, by simp⟩) ?_ ?_
 ·exact Qa rfl (YO trivial) ⟨rfl, rfl, rfl, rfl, rfl, rfl, rfl, rfl, rfl, trivial⟩
 rintro ⟨k, hk, hg⟩;dsimp only;refine X3 ?_
 refine zq ?_ ?_ <;> intro h145
 rotate_left
 ·have hge : (a.es).length ≤ k := by simpa using h145
  refine QC ?_;refine zQ ?_;exact Qo (by rw [hE, X4 hg hge])
 refine Jq 152 rfl (fun hl8 => ?_)
 have hlt : k < (a.es).length := by simpa using h145
 obtain ⟨x, hx⟩ := Qq hlt;refine QC ?_;refine zD 8 ?_;refine QD ?_;refine zp (Qf rfl rfl rfl k rfl _ (Qi hx) rfl) ?_;refine QD ?_;refine zp (Qd (Qos x b.es (rga.valid x (List.mem_of_getElem? hx)) rgb.valid) rfl rfl rfl) ?_;refine QH ?_
 refine zq ?_ ?_ <;> intro h152
 ·refine QD ?_;refine zQ ?_;exact Qo (by rw [hE, Q6 hg hx (by simp_all)])
 refine Qy ?_;refine Qb ?_;exact ⟨⟨k + 1, hlt, XG hg hx (by simp_all)⟩, Qa rfl (JZ ⟨X5, rfl, trivial⟩) ⟨rfl, rfl, rfl, rfl, rfl, rfl, rfl, rfl, rfl, trivial⟩, by dsimp only; omega⟩
theorem Qjw (l : Qv) (hO : YM l) (a b : Qp) (ha : Qw a l = true) (hb : Qw b l = true) (sa : SmV 1000000 a) : FC Tryz.prog 105 [.agg (Q2 l), .agg (QF a), .agg (QF b)] (bl (QJ l a b)) := Qvh l hO (fun q hq x y hx hy sx => Qjw q (hO.part q hq) x y hx hy sx) a b ha hb sa
termination_by l
decreasing_by exact Qv.sizeOf_ps ‹_›
theorem QrO (l : Qv) (a b : Qp) : (J2 l [a, b] == 0) = (XR l a && XR l b) := by
 unfold J2 Qaj XR
 cases h : QB l == 0
 ·simp_all
 have h0 : QB l = 0 := by simpa using h
 simp [h0]
 cases Qw a l <;> cases Qw b l <;> simp
theorem Qji (l : Qv) (a b : Qp) : QeC l a b = (XR l a && XR l b && QJ l a b) := by rw [QeC, QrO]
theorem QhL {l : Qv} {a : Qp} (h : XR l a = true) : YM l ∧ Qw a l = true := by
 unfold XR at h
 rw [Bool.and_eq_true] at h;exact ⟨Xb (by simpa using h.1), h.2⟩
theorem Qqs (l : Qv) (a b : Qp) (sa : SmV 1000000 a) : FC Tryz.prog 56 [.agg (Q2 l), .agg (QF a), .agg (QF b)] (bl (QeC l a b)) := by
 refine Qh [6] Tryz.func56 rfl rfl 21 Tryz.ntmps56 (Nat.le_of_ble_eq_true rfl) ?_
 intro E hN;refine Xn ?_;refine zP (Qd (KD _ _) rfl rfl rfl) ?_;refine zM ?_
 refine zc 10 ?_ ?_ <;> intro h9
 rotate_left
 ·refine Xn ?_;refine zQ ?_;exact Qo (by rw [Qji]; simp_all)
 refine QH ?_;refine uP (XO h9) (Qd (KD _ _) rfl rfl rfl) ?_;refine QH ?_
 refine zc 15 ?_ ?_ <;> intro h12
 ·have hok : YM l ∧ Qw a l = true ∧ Qw b l = true := by
   have h1 : XR l a = true ∧ XR l b = true := by simp_all
   exact ⟨(QhL h1.1).1, (QhL h1.1).2, (QhL h1.2).2⟩
  refine QD ?_;refine uP (XO h12) (Qd (Qjw l hok.1 a b hok.2.1 hok.2.2 sa) rfl rfl rfl) ?_;refine QH ?_;refine zQ ?_;exact Qo (by rw [Qji]; simp_all)
 refine Xk ?_;refine zQ ?_;exact Qo (by rw [Qji]; simp_all)
end Go.Proofs.YtnkkokmmeplbgaaGreat
