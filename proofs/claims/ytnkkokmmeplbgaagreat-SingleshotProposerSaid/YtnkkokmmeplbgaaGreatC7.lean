/-
  Contracts of the reference: the order of a lattice's element
-/
import Derived.Test.YtnkkokmmeplbgaaGreatC5
import Derived.Test.YtnkkokmmeplbgaaGreatB13
import Derived.Test.YtnkkokmmeplbgaaGreatB16
namespace Go.Proofs.YtnkkokmmeplbgaaGreat
set_option maxRecDepth 100000
set_option maxHeartbeats 1000000
open Go.RowKit
theorem Qro (v : Qw) (l : QD) (hO : YK l) (ih : ∀ x ∈ v.ps, ∀ a, YK a → FC Tryz.prog 112 [.agg (Q2 a), .agg (Qz x)] (bl (Qt x a))) : FC Tryz.prog 112 [.agg (Q2 l), .agg (Qz v)] (bl (Qt v l)) := by
 refine Qg [4] Tryz.func112 rfl rfl 261 Tryz.ntmps112 (Nat.le_of_ble_eq_true rfl) ?_
 intro E hN
 refine Q8 ?_
 refine Qch (⟨[(2, .ptr 0 0), (3, .ptr 1 0)], [(0, .var 26 (Q2 l)), (1, .var 30 (Qz v))], 2⟩) (l.k = 9 ∨ v.es = []) ?_ ?_
 ·
  refine Q8 ?_
  refine zc 11 ?_ ?_ <;> intro h7
  ·
   refine Q8 ?_
   refine zq ?_ ?_ <;> intro h11
   ·
    refine Qs ?_; refine zQ ?_
    exact Qm (by rw [Qr]; simp_all [Q5] <;> (intros; omega))
   refine Xn ?_
   exact ⟨(by first | (simp_all; done) | (simp_all; omega)), Qa rfl (JI trivial) ⟨rfl, rfl, rfl, rfl, rfl, rfl, trivial⟩⟩
  refine Q4 ?_; refine Xn ?_
  exact ⟨(by first | (simp_all; done) | (simp_all; omega)), Qa rfl (JI trivial) ⟨rfl, rfl, rfl, rfl, rfl, rfl, trivial⟩⟩
 intro hes
 refine Wm (⟨[(2, .ptr 0 0), (3, .ptr 1 0), (5, bl (l.k == 1 || l.k == 2 || l.k == 3 || l.k == 8))], [(0, .var 26 (Q2 l)), (1, .var 30 (Qz v))], 2⟩) ?_ ?_
 ·
  refine QF ?_
  refine zc 20 ?_ ?_ <;> intro h14
  ·
   refine QdD ?_; refine Qb ?_
   exact Qa rfl (JI ⟨(YT (by simp_all)), rfl, trivial⟩) ⟨rfl, rfl, rfl, rfl, rfl, rfl, trivial⟩
  refine QF ?_
  refine zc 25 ?_ ?_ <;> intro h17
  ·
   refine XB ?_; refine Qb ?_
   exact Qa rfl (JI ⟨(YT (by simp_all)), rfl, trivial⟩) ⟨rfl, rfl, rfl, rfl, rfl, rfl, trivial⟩
  refine QF ?_
  refine zc 30 ?_ ?_ <;> intro h20
  ·
   refine QF ?_; refine Qb ?_
   exact Qa rfl (JI ⟨(YT (by simp_all)), rfl, trivial⟩) ⟨rfl, rfl, rfl, rfl, rfl, rfl, trivial⟩
  refine QF ?_; refine Qb ?_
  exact Qa rfl (JI ⟨(YT (by simp_all)), rfl, trivial⟩) ⟨rfl, rfl, rfl, rfl, rfl, rfl, trivial⟩
 refine Qch (⟨[(2, .ptr 0 0), (3, .ptr 1 0)], [(0, .var 26 (Q2 l)), (1, .var 30 (Qz v))], 2⟩) ((l.k = 1 ∨ l.k = 2 ∨ l.k = 3 ∨ l.k = 8) ∨ v.N = 0) ?_ ?_
 ·
  refine QF ?_
  refine zc 37 ?_ ?_ <;> intro h24
  ·
   refine QF ?_
   refine zq ?_ ?_ <;> intro h27
   ·
    refine Qs ?_; refine zQ ?_
    exact Qm (by rw [Qr]; simp_all [Q5] <;> (intros; omega))
   refine Xn ?_
   exact ⟨(by first | (simp_all; done) | (simp_all; omega)), Qa rfl (JI trivial) ⟨rfl, rfl, rfl, rfl, rfl, rfl, trivial⟩⟩
  refine Q8 ?_; refine Xn ?_
  exact ⟨(by first | (simp_all; done) | (simp_all; omega)), Qa rfl (JI trivial) ⟨rfl, rfl, rfl, rfl, rfl, rfl, trivial⟩⟩
 intro hN0
 refine X6 ?_
 refine zq ?_ ?_ <;> intro h30
 ·
  refine Q8 ?_
  refine zc 49 ?_ ?_ <;> intro h33
  ·
   refine Jv ?_
   refine zc 60 ?_ ?_ <;> intro h37
   ·
    refine Q8 ?_; refine zQ ?_
    exact Qm (by rw [Qr]; simp_all [Q5] <;> (intros; omega))
   refine Q8 ?_; refine zQ ?_
   exact Qm (by rw [Qr]; simp_all [Q5] <;> (intros; omega))
  refine QF ?_
  refine zc 54 ?_ ?_ <;> intro h44
  rotate_left
  ·
   refine X6 ?_; refine zQ ?_
   exact Qm (by rw [Qr]; simp_all [Q5] <;> (intros; omega))
  refine Q8 ?_
  refine zc 60 ?_ ?_ <;> intro h48
  ·
   refine Q8 ?_; refine zQ ?_
   exact Qm (by rw [Qr]; simp_all [Q5] <;> (intros; omega))
  refine Q8 ?_; refine zQ ?_
  exact Qm (by rw [Qr]; simp_all [Q5] <;> (intros; omega))
 refine Wm (⟨[(2, .ptr 0 0), (3, .ptr 1 0), (43, i64 l.k), (66, bl (l.k == 2 || l.k == 3))], [(0, .var 26 (Q2 l)), (1, .var 30 (Qz v))], 2⟩) ?_ ?_
 ·
  refine QF ?_
  refine zq ?_ ?_ <;> intro h53
  ·
   refine Xn ?_
   exact Qa rfl (JO ⟨(YT (by simp_all)), rfl, trivial⟩) ⟨rfl, rfl, rfl, rfl, rfl, rfl, trivial⟩
  refine Qs ?_; refine Qb ?_
  exact Qa rfl (JO ⟨(YT (by simp_all)), rfl, trivial⟩) ⟨rfl, rfl, rfl, rfl, rfl, rfl, trivial⟩
 refine zq ?_ ?_ <;> intro h55
 ·
  refine XN ?_
  refine zc 74 ?_ ?_ <;> intro h60
  rotate_left
  ·
   refine QiL ?_; refine zQ ?_
   exact Qm (by
    have hk : l.k = 2 ∨ l.k = 3 := by simp_all
    have hk9 : v.es = [] := hes.resolve_left (by omega)
    rw [Qr]
    rcases hk with hk | hk <;> rw [hk] <;> simp_all [Q5] <;> (intros; omega))
  refine Q4 ?_
  refine zc 81 ?_ ?_ <;> intro h65
  rotate_left
  ·
   refine X6 ?_; refine zQ ?_
   exact Qm (by
    have hk : l.k = 2 ∨ l.k = 3 := by simp_all
    have hk9 : v.es = [] := hes.resolve_left (by omega)
    rw [Qr]
    rcases hk with hk | hk <;> rw [hk] <;> simp_all [Q5] <;> (intros; omega))
  refine Q8 ?_
  refine zc 87 ?_ ?_ <;> intro h69
  ·
   refine Q8 ?_; refine zQ ?_
   exact Qm (by
    have hk : l.k = 2 ∨ l.k = 3 := by simp_all
    have hk9 : v.es = [] := hes.resolve_left (by omega)
    rw [Qr]
    rcases hk with hk | hk <;> rw [hk] <;> simp_all [Q5] <;> (intros; omega))
  refine Q8 ?_; refine zQ ?_
  exact Qm (by
   have hk : l.k = 2 ∨ l.k = 3 := by simp_all
   have hk9 : v.es = [] := hes.resolve_left (by omega)
   rw [Qr]
   rcases hk with hk | hk <;> rw [hk] <;> simp_all [Q5] <;> (intros; omega))
 refine QF ?_
 refine zq ?_ ?_ <;> intro h74
 ·
  refine Q4 ?_
  refine zc 99 ?_ ?_ <;> intro h78
  ·
   refine Qv ?_; refine uP (XG h78) (Qc (KN _ _) rfl rfl rfl) ?_; refine Qu ?_; refine zQ ?_
   exact Qm (by rw [Qr]; simp_all [Q5] <;> (intros; omega))
  refine Q4 ?_; refine zQ ?_
  exact Qm (by rw [Qr]; simp_all [Q5] <;> (intros; omega))
 refine QF ?_
 refine zq ?_ ?_ <;> intro h84
 ·
  refine XN ?_
  refine zq ?_ ?_ <;> intro h88
  ·
   refine Qs ?_; refine zQ ?_
   exact Qm (by rw [Qr]; simp_all [Q5] <;> (intros; omega))
  refine Q4 ?_
  refine zc 115 ?_ ?_ <;> intro h91
  ·
   refine Jv ?_
   refine zc 126 ?_ ?_ <;> intro h95
   ·
    refine QeU ?_; refine zQ ?_
    exact Qm (by rw [Qr]; simp_all [Q5] <;> (intros; omega))
   refine Qv ?_
   refine zc 130 ?_ ?_ <;> intro h98
   rotate_left
   ·
    refine Qv ?_; refine uP (Xj h95) (Xw rfl rfl h98 rfl) ?_; refine Q8 ?_; refine uP (Xj h95) (Xw rfl rfl rfl rfl) ?_; refine Qu ?_
    refine zQ ?_
    exact Qm (by rw [Qr]; simp_all [Q5] <;> (intros; omega))
   refine Qv ?_; refine uP (Xj h95) (Xu rfl rfl h98 rfl) ?_; refine Jk ?_
   refine zc 136 ?_ ?_ <;> intro h102
   ·
    refine Qv ?_; refine uP (XG h102) (Qc (KN _ _) rfl rfl rfl) ?_; refine uP (Xj h95) (Xu rfl rfl h102 rfl) ?_; refine Qu ?_
    refine zQ ?_
    exact Qm (by rw [Qr]; simp_all [Q5] <;> (intros; omega))
   refine QF ?_; refine uP (Xj h95) (Xw rfl rfl h102 rfl) ?_; refine Qu ?_; refine zQ ?_
   exact Qm (by rw [Qr]; simp_all [Q5] <;> (intros; omega))
  refine QF ?_
  refine zc 120 ?_ ?_ <;> intro h110
  rotate_left
  ·
   refine XB ?_
   refine zc 130 ?_ ?_ <;> intro h129
   rotate_left
   ·
    refine Ki ?_; refine zQ ?_
    exact Qm (by rw [Qr]; simp_all [Q5] <;> (intros; omega))
   refine Q8 ?_
   refine zc 136 ?_ ?_ <;> intro h133
   ·
    refine Qv ?_; refine uP (XG h133) (Qc (KN _ _) rfl rfl rfl) ?_; refine Qs ?_; refine zQ ?_
    exact Qm (by rw [Qr]; simp_all [Q5] <;> (intros; omega))
   refine XN ?_; refine zQ ?_
   exact Qm (by rw [Qr]; simp_all [Q5] <;> (intros; omega))
  refine Q8 ?_
  refine zc 126 ?_ ?_ <;> intro h114
  ·
   refine QeU ?_; refine zQ ?_
   exact Qm (by rw [Qr]; simp_all [Q5] <;> (intros; omega))
  refine Qv ?_
  refine zc 130 ?_ ?_ <;> intro h117
  rotate_left
  ·
   refine Qv ?_; refine uP (Xj h114) (Xw rfl rfl h117 rfl) ?_; refine Q8 ?_; refine uP (Xj h114) (Xw rfl rfl rfl rfl) ?_; refine Qu ?_
   refine zQ ?_
   exact Qm (by rw [Qr]; simp_all [Q5] <;> (intros; omega))
  refine Qv ?_; refine uP (Xj h114) (Xu rfl rfl h117 rfl) ?_; refine Jk ?_
  refine zc 136 ?_ ?_ <;> intro h121
  ·
   refine Qv ?_; refine uP (XG h121) (Qc (KN _ _) rfl rfl rfl) ?_; refine uP (Xj h114) (Xu rfl rfl h121 rfl) ?_; refine Qu ?_
   refine zQ ?_
   exact Qm (by rw [Qr]; simp_all [Q5] <;> (intros; omega))
  refine QF ?_; refine uP (Xj h114) (Xw rfl rfl h121 rfl) ?_; refine Qu ?_; refine zQ ?_
  exact Qm (by rw [Qr]; simp_all [Q5] <;> (intros; omega))
 refine QF ?_
 refine zq ?_ ?_ <;> intro h139
 ·
  refine Q4 ?_
  refine zc 150 ?_ ?_ <;> intro h143
  rotate_left
  ·
   refine Jv ?_; refine zQ ?_
   exact Qm (by rw [Qr]; simp_all [Q5] <;> (intros; omega))
  refine Q8 ?_
  refine zc 156 ?_ ?_ <;> intro h147
  ·
   refine Qu ?_; refine uP (XG h147) (Qc (Qkf _) rfl rfl rfl) ?_; refine Qu ?_; refine zQ ?_
   exact Qm (by rw [Qr]; simp_all [Q5] <;> (intros; omega))
  refine QF ?_; refine zQ ?_
  exact Qm (by rw [Qr]; simp_all [Q5] <;> (intros; omega))
 refine QF ?_
 refine zq ?_ ?_ <;> intro h151
 ·
  refine Q4 ?_
  refine zc 167 ?_ ?_ <;> intro h155
  rotate_left
  ·
   refine Ki ?_; refine zQ ?_
   exact Qm (by rw [Qr]; simp_all [Q5] <;> (intros; omega))
  refine Qv ?_; refine uP (XG h155) (Qc (KN _ _) rfl rfl rfl) ?_; refine Qu ?_
  refine zc 174 ?_ ?_ <;> intro h160
  ·
   refine Qv ?_; refine uP (XG h160) (Qc (Qlw _ _ (QsB hO)) rfl rfl rfl) ?_; refine Qu ?_; refine zQ ?_
   exact Qm (by rw [Qr]; simp_all [Q5] <;> (intros; omega))
  refine Q4 ?_; refine zQ ?_
  exact Qm (by rw [Qr]; simp_all [Q5] <;> (intros; omega))
 refine QF ?_
 refine zq ?_ ?_ <;> intro h166
 rotate_left
 ·
  refine JA ?_
  refine zc 233 ?_ ?_ <;> intro h209
  ·
   refine YR ?_; refine zQ ?_
   exact Qm (by rw [Qr]; simp_all [Q5] <;> (intros; omega))
  refine JA ?_
  refine zq ?_ ?_ <;> intro h216
  ·
   refine Qs ?_; refine zQ ?_
   exact Qm (by rw [Qr]; simp_all [Q5] <;> (intros; omega))
  refine Q4 ?_
  have hle : v.ps.length = l.ps.length := by simp_all <;> omega
  have hE : Qt v l = YU v.ps l.ps := by rw [Qr]; simp_all [Q5]
  refine Ql (fun x : {k : Nat // k ≤ (v.ps).length ∧ YU (v.ps.drop k) (l.ps.drop k) = YU v.ps l.ps} => ⟨[(2, .ptr 0 0), (3, .ptr 1 0), (7, i64 (x.1 : Nat))], [(0, .var 26 (Q2 l)), (1, .var 30 (Qz v))], 2⟩) (fun x => (v.ps).length - x.1) (⟨0, Nat.zero_le _, by simp⟩) ?_ ?_
  ·
   exact Qa rfl (JO trivial) ⟨rfl, rfl, rfl, rfl, rfl, rfl, trivial⟩
  rintro ⟨k, hk, hg⟩
  dsimp only
  refine JA ?_
  refine zq ?_ ?_ <;> intro h223
  rotate_left
  ·
   have hge : (v.ps).length ≤ k := by simpa using h223
   refine Qv ?_; refine zQ ?_
   exact Qm (by rw [hE, QpP hg hge])
  refine Jj 244 rfl (fun hl8 => ?_)
  have hlt : k < (v.ps).length := by simpa using h223
  obtain ⟨x, hx⟩ := Qn hlt
  obtain ⟨q, hq⟩ := Qn (show k < l.ps.length by omega)
  have hOq : YK q := hO.part q (List.mem_of_getElem? hq)
  have hs := QrV hg hx hq
  refine Qv ?_; refine Qd 11 (by kernel_rfl) (by kernel_rfl) ?_; refine Qs ?_; refine zp (Qf rfl rfl rfl k rfl _ (XK hq) rfl) ?_
  refine Qv ?_; refine zp (Qf rfl rfl rfl k rfl _ (QM hx) rfl) ?_; refine zl ?_
  refine zp (Qc (ih x (List.mem_of_getElem? hx) q hOq) rfl rfl rfl) ?_; change Qj _ _ _ _ _ _; refine Qu ?_
  refine zq ?_ ?_ <;> intro h232
  ·
   refine Qs ?_; refine zQ ?_
   exact Qm (by rw [hE, hs]; simp_all)
  refine QF ?_; refine Qb ?_
  exact ⟨⟨k + 1, hlt, by simp_all⟩, Qa rfl (JI ⟨(Q0 (by dsimp only; omega)), rfl, trivial⟩) ⟨rfl, rfl, rfl, rfl, rfl, rfl, trivial⟩, by dsimp only; omega⟩
 refine Jv ?_
 refine zc 190 ?_ ?_ <;> intro h173
 ·
  refine X6 ?_; refine zQ ?_
  exact Qm (by rw [Qr]; simp_all [Q5] <;> (intros; omega))
 refine Qv ?_; refine uP (Xj h173) (Qc (KN _ _) rfl rfl rfl) ?_; refine Qs ?_
 refine zq ?_ ?_ <;> intro h178
 ·
  refine Qs ?_; refine zQ ?_
  exact Qm (by rw [Qr]; simp_all [Q5] <;> (intros; omega))
 refine Q4 ?_
 have hk5 : l.k = 5 := by simp_all
 obtain ⟨a, r, hps⟩ := Qd7 hO.shape hk5
 have hOa : YK a := hO.part a (by rw [hps]; exact List.mem_cons_self)
 have ha : l.ps[0]? = some a := by rw [hps]; rfl
 have hE : Qt v l = v.ps.all (W5 a) := by rw [Qr, hk5, hps]; simp_all [Qah, Q5]
 refine Ql (fun x : {k : Nat // k ≤ (v.ps).length ∧ (v.ps.drop k).all (W5 a) = v.ps.all (W5 a)} => ⟨[(2, .ptr 0 0), (3, .ptr 1 0), (6, i64 (x.1 : Nat))], [(0, .var 26 (Q2 l)), (1, .var 30 (Qz v))], 2⟩) (fun x => (v.ps).length - x.1) (⟨0, Nat.zero_le _, by simp⟩) ?_ ?_
 ·
  exact Qa rfl (JO trivial) ⟨rfl, rfl, rfl, rfl, rfl, rfl, trivial⟩
 rintro ⟨k, hk, hg⟩
 dsimp only
 refine JA ?_
 refine zq ?_ ?_ <;> intro h185
 rotate_left
 ·
  have hge : (v.ps).length ≤ k := by simpa using h185
  refine Qv ?_; refine zQ ?_
  exact Qm (by rw [hE, XU hg hge])
 refine Jj 200 rfl (fun hl8 => ?_)
 have hlt : k < (v.ps).length := by simpa using h185
 obtain ⟨x, hx⟩ := Qn hlt
 refine Qv ?_; refine Qd 23 (by kernel_rfl) (by kernel_rfl) ?_; refine Qu ?_; refine zp (Qf rfl rfl rfl 0 rfl _ (XK ha) rfl) ?_
 refine Qv ?_; refine zp (Qf rfl rfl rfl k rfl _ (QM hx) rfl) ?_; refine zl ?_
 refine zp (Qc (ih x (List.mem_of_getElem? hx) a hOa) rfl rfl rfl) ?_; refine Qu ?_
 refine zd 216 ?_ ?_ <;> intro h194
 ·
  refine Jv ?_; change Qj _ _ _ _ _ _; refine Q8 ?_; refine zQ ?_
  exact Qm (by rw [hE, Q3 hg hx (by simp_all [W5])])
 refine Qs ?_; refine vP (Xj (m1 (n0 h194))) (Qf rfl rfl rfl k rfl _ (QM hx) rfl) ?_; refine Qs ?_
 refine vP (Xj (m1 (n0 h194))) (Qf rfl rfl rfl 0 rfl _ (XK ha) rfl) ?_; refine Jk ?_
 refine vP (Xj (m1 (n0 h194))) (Qc (QeJ a hOa) rfl rfl rfl) ?_; refine vP (Xj (m1 (n0 h194))) (Qc (Je _ _) rfl rfl rfl) ?_
 change Qj _ _ _ _ _ _; refine Qu ?_
 refine zq ?_ ?_ <;> intro h204
 ·
  refine Qs ?_; refine zQ ?_
  exact Qm (by rw [hE, Q3 hg hx (by simp_all [W5])])
 refine QF ?_; refine Qb ?_
 exact ⟨⟨k + 1, hlt, Xx hg hx (by simp_all [W5])⟩, Qa rfl (JI ⟨(Q0 (by dsimp only; omega)), rfl, trivial⟩) ⟨rfl, rfl, rfl, rfl, rfl, rfl, trivial⟩, by dsimp only; omega⟩
theorem QkM (v : Qw) (l : QD) (hO : YK l) : FC Tryz.prog 112 [.agg (Q2 l), .agg (Qz v)] (bl (Qt v l)) := Qro v l hO (fun x _ a ha => QkM x a ha)
termination_by v
decreasing_by exact Qw.sizeOf_ps ‹_›
theorem Y8 (l : QD) (v : Qw) : FC Tryz.prog 65 [.agg (Q2 l), .agg (Qz v)] (bl (XZ l v)) := by
 refine Qg [4] Tryz.func65 rfl rfl 13 Tryz.ntmps65 (Nat.le_of_ble_eq_true rfl) ?_
 intro E hN
 refine JA ?_; refine zP (Qc (Qaw l) rfl rfl rfl) ?_; refine Qu ?_
 refine zc 8 ?_ ?_ <;> intro h7
 ·
  have h1 : Xp l = 0 := by simpa using h7
  refine Qu ?_; refine uP (XG h7) (Qc (QkM v l (X0 h1)) rfl rfl rfl) ?_; refine Qu ?_; refine zQ ?_
  exact Qm (by simp_all [XZ])
 refine QF ?_; refine zQ ?_
 exact Qm (by simp_all [XZ])
end Go.Proofs.YtnkkokmmeplbgaaGreat
namespace Go.Proofs.YtnkkokmmeplbgaaGreat
set_option maxRecDepth 100000
set_option maxHeartbeats 1000000
open Go.RowKit
theorem QhK (x y : En) : FC Tryz.prog 148 [.agg (Kv x), .agg (Kv y)] (bl (WA x y)) := by
 refine Qg [4] Tryz.func148 rfl rfl 24 Tryz.ntmps148 (Nat.le_of_ble_eq_true rfl) ?_
 intro E hN
 refine Ki ?_
 refine zc 10 ?_ ?_ <;> intro h9
 rotate_left
 ·
  refine Jv ?_; refine zP (Qc (Qc7 _ _) rfl rfl rfl) ?_; refine Qu ?_; refine zQ ?_
  exact Qm (by simp_all [WA])
 refine Qv ?_; refine uP (XG h9) (Qc (QnR _ _) rfl rfl rfl) ?_; refine Qu ?_
 refine zc 17 ?_ ?_ <;> intro h14
 ·
  refine Q4 ?_; refine zQ ?_
  exact Qm (by simp_all [WA])
 refine Qv ?_; refine uP (Xj h14) (Qc (Qc7 _ _) rfl rfl rfl) ?_; refine Qu ?_; refine zQ ?_
 exact Qm (by simp_all [WA])
theorem Qik (v : Qw) (s : Nm) : FC Tryz.prog 136 [.agg (Qz v), sv s] (i64 (Xs s v.nm 0)) := by
 refine Qg [4] Tryz.func136 rfl rfl 21 Tryz.ntmps136 (Nat.le_of_ble_eq_true rfl) ?_
 intro E hN
 refine Jv ?_
 refine Ql (fun x : {k : Nat // k ≤ (v.nm).length ∧ Xs s (v.nm.drop k) k = Xs s v.nm 0} => ⟨[(1, sv s), (2, .ptr 0 0), (5, i64 (x.1 : Nat))], [(0, .var 30 (Qz v))], 1⟩) (fun x => (v.nm).length - x.1) (⟨0, Nat.zero_le _, by simp⟩) ?_ ?_
 ·
  exact Qa rfl (JO trivial) ⟨rfl, rfl, rfl, trivial⟩
 rintro ⟨k, hk, hg⟩
 dsimp only
 refine JA ?_
 refine zq ?_ ?_ <;> intro h10
 rotate_left
 ·
  have hge : (v.nm).length ≤ k := by simpa using h10
  refine Qv ?_; refine zQ ?_
  exact QS (by rw [← hg, List.drop_of_length_le hge]; rfl)
 refine Jj 8 rfl (fun hl8 => ?_)
 have hlt : k < (v.nm).length := by simpa using h10
 obtain ⟨x, hx⟩ := Qn hlt
 have hs : Xs s v.nm 0 = if s == x then (k : Int) else Xs s (v.nm.drop (k + 1)) (k + 1) := by rw [← hg, XA hx]; rfl
 refine XN ?_; refine zP (Qf rfl rfl rfl k rfl _ (Qk hx) rfl) ?_; refine Qv ?_
 refine zq ?_ ?_ <;> intro h15
 ·
  have hxs : x = s := by simpa using h15
  refine Qv ?_; refine zQ ?_
  exact QS (by rw [hs, if_pos (by simp [hxs])])
 have hn : Xs s (v.nm.drop (k + 1)) (k + 1) = Xs s v.nm 0 := by
  have hxs : x ≠ s := by simpa using h15
  rw [hs, if_neg (by simp [Ne.symm hxs])]
 refine QF ?_; refine Qb ?_
 exact ⟨⟨k + 1, hlt, hn⟩, Qa rfl (JI ⟨(Q0 (by dsimp only; omega)), rfl, trivial⟩) ⟨rfl, rfl, rfl, trivial⟩, by dsimp only; omega⟩
theorem QnB (e : En) (l : List En) (hx0 : QP (-1) e.1 = true) (hl0 : ∀ y ∈ l, QP (-1) y.1 = true) : FC Tryz.prog 137 [.agg (Kv e), W7 l] (bl (JK l e)) := by
 refine Qg [4] Tryz.func137 rfl rfl 18 Tryz.ntmps137 (Nat.le_of_ble_eq_true rfl) ?_
 intro E hN
 refine Jj 1 rfl (fun hl1 => ?_)
 rw [← Qne hx0 hl0]
 refine Jv ?_
 refine Ql (fun x : {k : Nat // k ≤ (l).length ∧ (l.drop k).any (WA e) = l.any (WA e)} => ⟨[(1, W7 l), (2, .ptr 0 0), (5, i64 (x.1 : Nat))], [(0, .var 149 (Kv e))], 1⟩) (fun x => (l).length - x.1) (⟨0, Nat.zero_le _, by simp⟩) ?_ ?_
 ·
  exact Qa rfl (JO trivial) ⟨rfl, rfl, rfl, trivial⟩
 rintro ⟨k, hk, hg⟩
 dsimp only
 refine XN ?_
 refine zq ?_ ?_ <;> intro h8
 rotate_left
 ·
  have hge : (l).length ≤ k := by simpa using h8
  refine Qv ?_; refine zQ ?_
  exact Qm (QfB hg hge).symm
 have hlt : k < l.length := by simpa using h8
 obtain ⟨y, hy⟩ := Qn hlt
 refine Qv ?_; refine Qd 5 (by kernel_rfl) (by kernel_rfl) ?_; refine Qs ?_; refine zp (Qf rfl rfl rfl k rfl _ (Qk hy) rfl) ?_
 refine zl ?_; change Qj _ _ _ _ _ _; refine zP (Qc (QhK e y) rfl rfl rfl) ?_; refine zN ?_
 refine zq ?_ ?_ <;> intro h12
 ·
  have h4 := h12
  refine Qs ?_; refine zQ ?_
  exact Qm (Qf0 hg hy h4).symm
 have h4 := h12
 refine QF ?_; refine Qb ?_
 exact ⟨⟨k + 1, hlt, Qin hg hy h4⟩, Qa rfl (JI ⟨(Q0 (by dsimp only; omega)), rfl, trivial⟩) ⟨rfl, rfl, rfl, trivial⟩, by dsimp only; omega⟩
theorem QsO (l : QD) (hO : YK l) (ih : ∀ q ∈ l.ps, ∀ x y, Qt x q = true → Qt y q = true → J6 1000000 x → FC Tryz.prog 105 [.agg (Q2 q), .agg (Qz x), .agg (Qz y)] (bl (Xl q x y))) (a b : Qw) (ha : Qt a l = true) (hb : Qt b l = true) (sa : J6 1000000 a) : FC Tryz.prog 105 [.agg (Q2 l), .agg (Qz a), .agg (Qz b)] (bl (Xl l a b)) := by
 refine Qg [6] Tryz.func105 rfl rfl 166 Tryz.ntmps105 (Nat.le_of_ble_eq_true rfl) ?_
 intro E hN
 refine Qlr ?_
 refine zq ?_ ?_ <;> intro h9
 ·
  refine XB ?_; refine zQ ?_
  exact Qm (by rw [XI]; simp_all)
 refine Qv ?_
 refine zq ?_ ?_ <;> intro h15
 ·
  refine XN ?_; refine zQ ?_
  exact Qm (by rw [XI]; simp_all)
 refine QF ?_
 refine zq ?_ ?_ <;> intro h21
 ·
  refine XN ?_; refine zQ ?_
  exact Qm (by rw [XI]; simp_all)
 refine Q8 ?_
 refine zq ?_ ?_ <;> intro h27
 ·
  refine XN ?_; refine zP (Qc (Qdv _ _ sa.nm) rfl rfl rfl) ?_; refine zS ?_; refine zQ ?_
  exact Qm (by rw [XI]; simp_all)
 refine Qv ?_
 refine zq ?_ ?_ <;> intro h33
 ·
  refine Q8 ?_; refine zP (Qc (Qdv _ _ sa.nm) rfl rfl rfl) ?_; refine zS ?_; refine zQ ?_
  exact Qm (by rw [XI]; simp_all)
 refine QF ?_
 refine zq ?_ ?_ <;> intro h39
 ·
  refine Q8 ?_
  refine zc 41 ?_ ?_ <;> intro h42
  ·
   refine XB ?_; refine zQ ?_
   exact Qm (by rw [XI]; simp_all)
  refine QF ?_
  refine zc 46 ?_ ?_ <;> intro h45
  ·
   refine QF ?_; refine zQ ?_
   exact Qm (by rw [XI]; simp_all)
  refine Qu ?_; refine uP (Xj h45) (Qc (Je _ _) rfl rfl rfl) ?_; refine Qu ?_; refine zQ ?_
  exact Qm (by rw [XI]; simp_all)
 refine QF ?_
 refine zq ?_ ?_ <;> intro h49
 ·
  refine Qu ?_
  have hk7 : l.k = 7 := by simp_all
  obtain ⟨q1, q2, hps⟩ := Kd hO.shape hk7
  obtain ⟨x1, x2, hpa, hx1, hx2⟩ := Ye ha hk7 hps
  obtain ⟨y1, y2, hpb, hy1, hy2⟩ := Ye hb hk7 hps
  have hE : Xl l a b = if eqV x1 y1 then Xl q2 x2 y2 else Xl q1 x1 y1 := by rw [XI, hk7, hps, hpa, hpb]; simp [Qpa]
  have hq1' : l.ps[0]? = some q1 := by rw [hps]; rfl
  have hq2' : l.ps[1]? = some q2 := by rw [hps]; rfl
  have hx1' : a.ps[0]? = some x1 := by rw [hpa]; rfl
  have hx2' : a.ps[1]? = some x2 := by rw [hpa]; rfl
  have hy1' : b.ps[0]? = some y1 := by rw [hpb]; rfl
  have hy2' : b.ps[1]? = some y2 := by rw [hpb]; rfl
  refine Qd 8 (by kernel_rfl) (by kernel_rfl) ?_; refine Qu ?_; refine zp (Qf rfl rfl rfl 0 rfl _ (QM hx1') rfl) ?_; refine Qs ?_
  refine zp (Qf rfl rfl rfl 0 rfl _ (QM hy1') rfl) ?_; refine zl ?_; change Qj _ _ _ _ _ _
  refine zP (Qc (Je _ _) rfl rfl rfl) ?_; refine zN ?_
  refine zq ?_ ?_ <;> intro h58
  ·
   have h13 := h58
   refine Jk ?_; refine Qd 13 (by kernel_rfl) (by kernel_rfl) ?_; refine Qu ?_; refine zp (Qf rfl rfl rfl 1 rfl _ (XK hq2') rfl) ?_
   refine Qs ?_; refine zp (Qf rfl rfl rfl 1 rfl _ (QM hx2') rfl) ?_; refine Qs ?_
   refine zp (Qf rfl rfl rfl 1 rfl _ (QM hy2') rfl) ?_; refine zl ?_
   refine zp (Qc (ih q2 (by rw [hps]; simp) x2 y2 hx2 hy2 (sa.part x2 (by rw [hpa]; simp))) rfl rfl rfl) ?_
   change Qj _ _ _ _ _ _; refine zS ?_; refine zQ ?_
   exact Qm (by rw [hE, if_pos h13])
  have h13 := h58
  refine Qu ?_; refine Qd 13 (by kernel_rfl) (by kernel_rfl) ?_; refine Qu ?_; refine zp (Qf rfl rfl rfl 0 rfl _ (XK hq1') rfl) ?_
  refine Qs ?_; refine zp (Qf rfl rfl rfl 0 rfl _ (QM hx1') rfl) ?_; refine Qs ?_
  refine zp (Qf rfl rfl rfl 0 rfl _ (QM hy1') rfl) ?_; refine zl ?_
  refine zp (Qc (ih q1 (by rw [hps]; simp) x1 y1 hx1 hy1 (sa.part x1 (by rw [hpa]; simp))) rfl rfl rfl) ?_
  change Qj _ _ _ _ _ _; refine zS ?_; refine zQ ?_
  exact Qm (by rw [hE, if_neg (by simp [h13])])
 refine QF ?_
 refine zq ?_ ?_ <;> intro h85
 ·
  refine Q8 ?_
  have hk5 : l.k = 5 := by simp_all
  obtain ⟨q, r, hps⟩ := Qd7 hO.shape hk5
  have hqm : q ∈ l.ps := by rw [hps]; exact List.mem_cons_self
  have hq0 : l.ps[0]? = some q := by rw [hps]; rfl
  obtain ⟨hla, hea⟩ := QqO ha hk5 hps
  obtain ⟨hlb, heb⟩ := QqO hb hk5 hps
  have hE : Xl l a b = (a.nm.zip a.ps).all (QdJ q b) := by rw [XI, hk5, hps]; simp [Qgr]
  refine Ql (fun x : {k : Nat // k ≤ (a.nm).length ∧ ((a.nm.zip a.ps).drop k).all (QdJ q b) = (a.nm.zip a.ps).all (QdJ q b)} => ⟨[(3, .ptr 0 0), (4, .ptr 1 0), (5, .ptr 2 0), (7, i64 (x.1 : Nat))], [(0, .var 26 (Q2 l)), (1, .var 30 (Qz a)), (2, .var 30 (Qz b))], 3⟩) (fun x => (a.nm).length - x.1) (⟨0, Nat.zero_le _, by simp⟩) ?_ ?_
  ·
   exact Qa rfl (JH trivial) ⟨rfl, rfl, rfl, rfl, rfl, rfl, rfl, rfl, rfl, trivial⟩
  rintro ⟨k, hk, hg⟩
  dsimp only
  refine JA ?_
  refine zq ?_ ?_ <;> intro h93
  rotate_left
  ·
   have hge : (a.nm).length ≤ k := by simpa using h93
   refine Qv ?_; refine zQ ?_
   exact Qm (by rw [hE, XU hg (by simp; omega)])
  refine Jj 92 rfl (fun hl8 => ?_)
  have hlt : k < (a.nm).length := by simpa using h93
  obtain ⟨x, hx⟩ := Qn hlt
  obtain ⟨p, hp⟩ := Qn (show k < a.ps.length by omega)
  refine Qv ?_; refine Qd 7 (by kernel_rfl) (by kernel_rfl) ?_; refine Qv ?_; refine zp (Qf rfl rfl rfl k rfl _ (Qk hx) rfl) ?_
  refine zl ?_; refine zp (Qc (Qik b x) rfl rfl rfl) ?_; change Qj _ _ _ _ _ _; refine Qs ?_
  refine Qd 19 (by kernel_rfl) (by kernel_rfl) ?_; refine Qs ?_
  refine zd 106 ?_ ?_ <;> intro h100
  ·
   have hpo := WM (s := x) (b := b) (by simpa using h100)
   refine Qcb ?_; change Qj _ _ _ _ _ _; refine Q8 ?_; refine zQ ?_
   exact Qm (by rw [hE, Q3 hg (WO hx hp) (by simp only [QdJ, hpo]; first | done | simp_all)])
  obtain ⟨j, hj, hjl⟩ : ∃ j : Nat, Xs x b.nm 0 = (j : Int) ∧ j < b.ps.length := by
   rcases Qbs x b.nm 0 with h1 | ⟨j, -, h2, h3⟩
   ·simp [h1] at h100
   exact ⟨j, h3, by omega⟩
  obtain ⟨y, hy⟩ := Qn hjl
  have hpo := QaK hj hy
  refine Qu ?_; refine vP (Xj h100) (Qf rfl rfl rfl 0 rfl _ (XK hq0) rfl) ?_; refine Qv ?_
  refine vP (Xj h100) (Qf rfl rfl rfl k rfl _ (QM hp) rfl) ?_; refine Qv ?_
  refine vP (Xj h100) (Qf rfl rfl rfl j hj _ (QM hy) rfl) ?_; refine Jk ?_
  refine vP (Xj h100) (Qc (ih q hqm p y (hea p (List.mem_of_getElem? hp)) (heb y (List.mem_of_getElem? hy)) (sa.part p (List.mem_of_getElem? hp))) rfl rfl rfl) ?_
  refine Jk ?_; change Qj _ _ _ _ _ _; refine Qu ?_
  refine zq ?_ ?_ <;> intro h113
  ·
   refine Qs ?_; refine zQ ?_
   exact Qm (by rw [hE, Q3 hg (WO hx hp) (by simp only [QdJ, hpo]; first | done | simp_all)])
  refine QF ?_; refine Qb ?_
  exact ⟨⟨k + 1, hlt, Xx hg (WO hx hp) (by simp only [QdJ, hpo]; simp_all)⟩, Qa rfl (JO ⟨(Q0 (by dsimp only; omega)), rfl, trivial⟩) ⟨rfl, rfl, rfl, rfl, rfl, rfl, rfl, rfl, rfl, trivial⟩, by dsimp only; omega⟩
 refine QF ?_
 refine zq ?_ ?_ <;> intro h115
 ·
  refine Q8 ?_
  have hk6 : l.k = 6 := by simp_all
  obtain ⟨hla, hza⟩ := Qm6 ha (.inl hk6)
  obtain ⟨hlb, hzb⟩ := Qm6 hb (.inl hk6)
  have hE : Xl l a b = QbZ l.ps a.ps b.ps := by rw [XI, hk6]; rfl
  refine Ql (fun x : {k : Nat // k ≤ (a.ps).length ∧ QbZ (l.ps.drop k) (a.ps.drop k) (b.ps.drop k) = QbZ l.ps a.ps b.ps} => ⟨[(3, .ptr 0 0), (4, .ptr 1 0), (5, .ptr 2 0), (9, i64 (x.1 : Nat))], [(0, .var 26 (Q2 l)), (1, .var 30 (Qz a)), (2, .var 30 (Qz b))], 3⟩) (fun x => (a.ps).length - x.1) (⟨0, Nat.zero_le _, by simp⟩) ?_ ?_
  ·
   exact Qa rfl (JH trivial) ⟨rfl, rfl, rfl, rfl, rfl, rfl, rfl, rfl, rfl, trivial⟩
  rintro ⟨k, hk, hg⟩
  dsimp only
  refine JA ?_
  refine zq ?_ ?_ <;> intro h123
  rotate_left
  ·
   have hge : (a.ps).length ≤ k := by simpa using h123
   refine Qv ?_; refine zQ ?_
   exact Qm (by rw [hE, QoZ hg (by omega)])
  refine Jj 128 rfl (fun hl8 => ?_)
  have hlt : k < a.ps.length := by simpa using h123
  obtain ⟨q, hq⟩ := Qn (show k < l.ps.length by omega)
  obtain ⟨x, hx⟩ := Qn (show k < a.ps.length by omega)
  obtain ⟨y, hy⟩ := Qn (show k < b.ps.length by omega)
  have hqm : q ∈ l.ps := List.mem_of_getElem? hq
  have hs := QrM hg hq hx hy
  refine Qv ?_; refine Qd 16 (by kernel_rfl) (by kernel_rfl) ?_; refine Qs ?_; refine zp (Qf rfl rfl rfl k rfl _ (XK hq) rfl) ?_
  refine Qv ?_; refine zp (Qf rfl rfl rfl k rfl _ (QM hx) rfl) ?_; refine Qv ?_; refine zp (Qf rfl rfl rfl k rfl _ (QM hy) rfl) ?_
  refine zl ?_; refine zp (Qc (ih q hqm x y (Ja hza hx hq) (Ja hzb hy hq) (sa.part x (List.mem_of_getElem? hx))) rfl rfl rfl) ?_
  change Qj _ _ _ _ _ _; refine Qu ?_
  refine zq ?_ ?_ <;> intro h136
  ·
   refine Qs ?_; refine zQ ?_
   exact Qm (by rw [hE, hs]; simp_all)
  refine QF ?_; refine Qb ?_
  exact ⟨⟨k + 1, hlt, by simp_all⟩, Qa rfl (JO ⟨(Q0 (by dsimp only; omega)), rfl, trivial⟩) ⟨rfl, rfl, rfl, rfl, rfl, rfl, rfl, rfl, rfl, trivial⟩, by dsimp only; omega⟩
 refine Q4 ?_
 have hk9 : l.k = 9 := by
  have := kinds hO
  simp only [beq_eq_false_iff_ne] at *
  omega
 have rga := (Kc ha hk9).2.2.2
 have rgb := (Kc hb hk9).2.2.2
 have hE : Xl l a b = a.es.all (JK b.es) := by rw [XI, hk9]; rfl
 refine Ql (fun x : {k : Nat // k ≤ (a.es).length ∧ (a.es.drop k).all (JK b.es) = a.es.all (JK b.es)} => ⟨[(3, .ptr 0 0), (4, .ptr 1 0), (5, .ptr 2 0), (10, i64 (x.1 : Nat))], [(0, .var 26 (Q2 l)), (1, .var 30 (Qz a)), (2, .var 30 (Qz b))], 3⟩) (fun x => (a.es).length - x.1) (⟨0, Nat.zero_le _, by simp⟩) ?_ ?_
 ·
  exact Qa rfl (JH trivial) ⟨rfl, rfl, rfl, rfl, rfl, rfl, rfl, rfl, rfl, trivial⟩
 rintro ⟨k, hk, hg⟩
 dsimp only
 refine JA ?_
 refine zq ?_ ?_ <;> intro h145
 rotate_left
 ·
  have hge : (a.es).length ≤ k := by simpa using h145
  refine Qv ?_; refine zQ ?_
  exact Qm (by rw [hE, XU hg hge])
 refine Jj 152 rfl (fun hl8 => ?_)
 have hlt : k < (a.es).length := by simpa using h145
 obtain ⟨x, hx⟩ := Qn hlt
 refine Qv ?_; refine Qd 8 (by kernel_rfl) (by kernel_rfl) ?_; refine Qs ?_; refine zp (Qf rfl rfl rfl k rfl _ (Qk hx) rfl) ?_
 refine Qs ?_; refine zp (Qc (QnB x b.es (rga.valid x (List.mem_of_getElem? hx)) rgb.valid) rfl rfl rfl) ?_; change Qj _ _ _ _ _ _
 refine Qu ?_
 refine zq ?_ ?_ <;> intro h152
 ·
  refine Qs ?_; refine zQ ?_
  exact Qm (by rw [hE, Q3 hg hx (by simp_all)])
 refine QF ?_; refine Qb ?_
 exact ⟨⟨k + 1, hlt, Xx hg hx (by simp_all)⟩, Qa rfl (JO ⟨(Q0 (by dsimp only; omega)), rfl, trivial⟩) ⟨rfl, rfl, rfl, rfl, rfl, rfl, rfl, rfl, rfl, trivial⟩, by dsimp only; omega⟩
theorem Qmh (l : QD) (hO : YK l) (a b : Qw) (ha : Qt a l = true) (hb : Qt b l = true) (sa : J6 1000000 a) : FC Tryz.prog 105 [.agg (Q2 l), .agg (Qz a), .agg (Qz b)] (bl (Xl l a b)) := QsO l hO (fun q hq x y hx hy sx => Qmh q (hO.part q hq) x y hx hy sx) a b ha hb sa
termination_by l
decreasing_by exact QD.sizeOf_ps ‹_›
end Go.Proofs.YtnkkokmmeplbgaaGreat
