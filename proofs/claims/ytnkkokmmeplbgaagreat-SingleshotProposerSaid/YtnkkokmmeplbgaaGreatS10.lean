/-
  Contracts of the reference: NewProposer.
-/
import Derived.Test.YtnkkokmmeplbgaaGreatS9
import Derived.Test.YtnkkokmmeplbgaaGreatA10
namespace Go.Proofs.YtnkkokmmeplbgaaGreat
set_option maxRecDepth 100000
set_option maxHeartbeats 1000000
open Go.RowKit
theorem QnS {st : St} {cs : List AV} (h : cs.all st.cell1 = true) : st.cells1 (.agg cs) = some cs := by simp only [St.cells1, h, cond_true]
theorem Qth {st : St} {l : QD} {r : Rr} {q n : Nat} {te : TypeId} {k : Nat} {es : List (List AV)} (hq : Qi st.H q = some (.arr te k es)) (h : es.length = n) : (rrC l r (.own q n)).all st.cell1 = true := by
 have e : st.cell1 (.own q n) = true := by simp [St.cell1, hq, h]
 simp only [List.all_cons, e]
 rfl
theorem Qov (l : QD) (id q : Int) (n : Nat) (v : Qw) (h0 : 0 ≤ id) (h1 : 1 ≤ n) (h2 : n ≤ 12) (h3 : 1 ≤ q) (h4 : q ≤ n) (hv : XZ l v = true) (hc : Xp l = 0) : GX Tryz.prog 18 [.agg (Q2 l), i64 id, i64 (n : Nat), i64 q, .agg (Qz v)] [] (.tup [.ptr 3 0, i64 0]) [(3, .var 48 (rrC l (Qaa id n q v) (.own 2 n))), (2, .arr 3 1 ((Qaa id n q v).reps.map iv1))] 4 := by
 refine YV [10, 11] Tryz.func18 rfl rfl 51 Tryz.ntmps18 (Nat.le_of_ble_eq_true rfl) ?_
 intro E hN
 refine Jv ?_
 refine zP (Qc (by have h := Qaw l; rw [hc] at h; exact h) rfl rfl rfl) ?_
 refine Qs ?_
 refine zP (QC (b := false) rfl rfl rfl (by simp; omega)) ?_
 refine Qs ?_
 refine zP (QC (b := false) rfl rfl rfl (by simp; omega)) ?_
 refine Qs ?_
 refine zP (QC (b := false) rfl rfl rfl (by simp; omega)) ?_
 refine Qs ?_
 refine zP (QC (b := false) rfl rfl rfl (by simp; omega)) ?_
 refine Qv ?_
 refine zP (QC (b := false) rfl rfl rfl (by simp; omega)) ?_
 refine Qv ?_; refine zP (Qc (fcb (c := true) (Y8 l v) hv) rfl rfl rfl) ?_; refine Q8 ?_
 refine QeM [0, 1, 2, 3, 4, 5] 6 [7, 8, 9, 10] rfl (by kernel_rfl) (by kernel_rfl) ?_; refine Q8 ?_
 change FK _ _ _ _ _ _
 refine QrC hN rfl (k := 1) (zs := [.int .i64 0]) rfl (y := 8) (by kernel_rfl) rfl rfl (n := n) rfl rfl (by omega) rfl rfl rfl rfl rfl ?_
 change Qj _ _ _ _ _ _
 refine zP (JS (ps := [(0, [i64 l.k, i64 l.lo, i64 l.hi, X1 l.nm, Qgi l.ps, rus l.rs]), (1, [i64 id]), (2, [i64 q]), (3, Qz v), (4, Qz v), (5, [i64 1]), (6, [.own 2 n])]) rfl (by exact Kb rfl rfl (Kb rfl rfl (Kb rfl rfl (Kb rfl rfl (Kb rfl rfl (Kb rfl rfl (Kb rfl (XS rfl (by simp)) rfl))))))) rfl) ?_
 refine Qr1 hN rfl (cs := rrC l (Qaa id n q v) (.own 2 n)) rfl rfl (QnS (Qth (l := l) (r := Qaa id n q v) (q := 2) (n := n) rfl (by simp))) rfl rfl rfl rfl ?_
 refine Qs ?_; refine Qh ?_
 change (Xa _ _).ntt = _ ∧ _
 refine Jq rfl ?_ rfl rfl rfl ⟨rfl, rfl, rfl, (by rw [show (Qaa id n q v).reps = List.replicate n 0 by simp [Qaa], List.map_replicate]; rfl), rfl, QJ _, trivial⟩
 rfl
theorem Qof (l : QD) (id n q : Int) (v : Qw) (hbad : ¬ Xp l = 0 ∨ id < 0 ∨ n < 1 ∨ 12 < n ∨ q < 1 ∨ n < q ∨ XZ l v = false) : FC Tryz.prog 18 [.agg (Q2 l), i64 id, i64 n, i64 q, .agg (Qz v)] (.tup [.p (.pointer none), i64 1]) := by
 refine Qg [10, 11] Tryz.func18 rfl rfl 51 Tryz.ntmps18 (Nat.le_of_ble_eq_true rfl) ?_
 intro E hN
 refine Jv ?_; refine zP (Qc (Qaw l) rfl rfl rfl) ?_; refine Qu ?_
 refine zc 15 ?_ ?_ <;> intro h10
 ·
  refine QaA ?_; refine XN ?_; refine zQ ?_
  rfl
 refine Qv ?_
 refine zc 19 ?_ ?_ <;> intro h11
 ·
  refine QaA ?_; refine Qv ?_; refine zQ ?_
  rfl
 refine Qv ?_
 refine zc 23 ?_ ?_ <;> intro h12
 ·
  refine QaA ?_; refine zQ ?_
  rfl
 refine Qv ?_
 refine zc 27 ?_ ?_ <;> intro h13
 ·
  refine Qlr ?_; refine zQ ?_
  rfl
 refine Qv ?_
 refine zc 31 ?_ ?_ <;> intro h14
 ·
  refine Qcb ?_; refine zQ ?_
  rfl
 refine QF ?_
 refine zc 36 ?_ ?_ <;> intro h15
 ·
  refine Jv ?_; refine zQ ?_
  rfl
 refine Qu ?_; refine uP (Xj h15) (Qc (Y8 l v) rfl rfl rfl) ?_; refine Qs ?_
 refine zq ?_ ?_ <;> intro h18
 ·
  refine Qv ?_; refine zQ ?_
  rfl
 exfalso
 rcases hbad with hbad | hbad | hbad | hbad | hbad | hbad | hbad <;> first | (simp_all; done) | (simp_all; omega)
theorem QtN {E : Jn} {t : List (Nat × AV)} {H : List (Nat × Qx)} {l : QD} {s : Pr} {r : Rr} {reps : List Int} {n : Nat} {bs : List JR} {i : Int} (h5 : Qi t 5 = some (bals bs)) (h13 : Qi t 13 = some (.ptr 2 0)) (h15 : Qi t 15 = some (.ptr 6 0)) (h17 : Qi t 17 = some (i64 i))
  (g2 : Qi H 2 = some (.var 118 (prC l s (.p (.slice none 0 0))))) (g6 : Qi H 6 = some (.var 48 (rrC l r (.own 12 n)))) (g12 : Qi H 12 = some (.arr 3 1 (reps.map iv1))) (hnk : s.nk = []) :
  Kx E ⟨t, H, 13⟩ ⟨[(5, bals bs), (13, .ptr 2 0), (15, .ptr 6 0), (17, i64 i)], [(2, .var 118 (prC l s (.own 7 s.nk.length))), (7, .arr 30 4 (s.nk.map JV)), (6, .var 48 (rrC l r (.own 5 n))), (5, .arr 3 1 (reps.map iv1))], 8⟩ := by
 have w1 := Qhq (E := E) (t := t) (H := H) (nx := 13) rfl 2 27 30 4 g2 rfl rfl
 have w2 : Kx E ⟨t, (2, .var 118 ((prC l s (.p (.slice none 0 0))).set 27 (.own 13 0))) :: (13, .arr 30 4 []) :: H, 14⟩ ⟨[(5, bals bs), (13, .ptr 2 0), (15, .ptr 6 0), (17, i64 i)], [(2, .var 118 (prC l s (.own 13 0))), (13, .arr 30 4 []), (6, .var 48 (rrC l r (.own 12 n))), (12, .arr 3 1 (reps.map iv1))], 14⟩ :=
  Qa rfl ⟨h5, rfl, h13, rfl, h15, rfl, h17, rfl, trivial⟩ ⟨rfl, rfl, rfl, rfl, rfl, rfl, g6, rfl, rfl, g12, rfl, QJ _, trivial⟩
 have hin : ((reps.map iv1).flatten.all (Qdb [(2, Qx.var 118 (prC l s (.own 13 0))), (13, .arr 30 4 []), (6, .var 48 (rrC l r (.own 12 n))), (12, .arr 3 1 (reps.map iv1))])) = true := Qde (Jm _)
 have w3 : Kx E ⟨[(5, bals bs), (13, .ptr 2 0), (15, .ptr 6 0), (17, i64 i)], [(2, .var 118 (prC l s (.own 13 0))), (13, .arr 30 4 []), (6, .var 48 (rrC l r (.own 12 n))), (12, .arr 3 1 (reps.map iv1))], 14⟩ ⟨[(5, bals bs), (13, .ptr 2 0), (15, .ptr 6 0), (17, i64 i)], [(2, .var 118 (prC l s (.own 7 0))), (7, .arr 30 4 []), (6, .var 48 (rrC l r (.own 5 n))), (5, .arr 3 1 (reps.map iv1))], 14⟩ := by
  refine QpE [(13, 7), (12, 5)] ?_ rfl ?_
  ·unfold Qpv
   simp only [List.all_cons, List.all_nil, Qx.cells, hin]
   rfl
  simp only [rnH, List.map_cons, List.map_nil, Wu, QgI (Jm reps)]
  rfl
 have w4 : Kx E ⟨[(5, bals bs), (13, .ptr 2 0), (15, .ptr 6 0), (17, i64 i)], [(2, .var 118 (prC l s (.own 7 0))), (7, .arr 30 4 []), (6, .var 48 (rrC l r (.own 5 n))), (5, .arr 3 1 (reps.map iv1))], 14⟩ ⟨[(5, bals bs), (13, .ptr 2 0), (15, .ptr 6 0), (17, i64 i)], [(2, .var 118 (prC l s (.own 7 0))), (7, .arr 30 4 []), (6, .var 48 (rrC l r (.own 5 n))), (5, .arr 3 1 (reps.map iv1))], 8⟩ :=
  Qa rfl (JH trivial) ⟨rfl, rfl, rfl, rfl, rfl, rfl, rfl, rfl, rfl, rfl, rfl, QJ _, trivial⟩
 rw [hnk]
 exact ((w1.trans w2).trans w3).trans w4
def rOf (l : QD) (s : Pr) (reps : List Int) : Rr := ⟨s.id, s.q, s.v, s.nk.foldl (QR l) s.v, s.num, reps, s.dec⟩
theorem QeS {l : QD} {s : Pr} {r : Rr} (h : Sim l s r) : r = rOf l s r.reps := by
 obtain ⟨h1, h2, h3, h4, h5, -, -, -, -, -, -, h6, -, -⟩ := h
 cases r
 simp only [rOf, Rr.mk.injEq]
 exact ⟨h1.symm, h2.symm, h3.symm, h6, h4.symm, trivial, h5.symm⟩
theorem QjF {l : QD} {s : Pr} {r : Rr} (h : Sim l s r) : (K0 r : Int) = s.acks ∧ (QbN r : Int) = s.acks + s.nk.length ∧ r.q = s.q := by
 refine ⟨h.acks.symm, ?_, h.q.symm⟩
 unfold QbN
 rw [QmK h.kinds]
 have := h.acks; have := h.nks; omega
structure Inv (l : QD) (n k : Nat) (s : Pr) (reps : List Int) : Prop where
 sim : Sim l s (rOf l s reps)
 len : reps.length = n
 num : 1 ≤ s.num ∧ s.num ≤ 1 + k
 sv : ∃ a, J6 (64 + 40 * a) s.v ∧ a + s.nk.length ≤ k
 snk : ∀ x ∈ s.nk, J6 40 x
 k40 : k ≤ 40
namespace Inv
variable {l : QD} {n k : Nat} {s : Pr} {reps : List Int}
theorem n12 (h : Inv l n k s reps) : n ≤ 12 := by have := h.sim.n12; have := h.len; simp only [rOf] at *; omega
theorem sn (h : Inv l n k s reps) : s.n = n := by have := h.sim.len; have := h.len; simp only [rOf] at *; omega
theorem big (h : Inv l n k s reps) : J6 100000 s.v := by
 obtain ⟨a, h1, h2⟩ := h.sv
 have := h.k40
 exact h1.up (by omega)
theorem acks (h : Inv l n k s reps) : 0 ≤ s.acks ∧ s.acks ≤ 12 := by
 have h1 := h.sim.acks
 have h2 := List.countP_le_length (p := (· == 2)) (l := reps)
 have h3 := h.n12
 have h4 := h.len
 simp only [rOf] at h1
 omega
theorem nkl (h : Inv l n k s reps) : s.nk.length ≤ 12 := by
 have h1 := h.sim.nks
 have h2 := List.countP_le_length (p := (· == 3)) (l := reps)
 have h3 := h.n12
 have h4 := h.len
 simp only [rOf] at h1
 omega
theorem both (h : Inv l n k s reps) : ∀ x ∈ s.nk, Qt x l = true ∧ J6 40 x := fun x hx => ⟨h.sim.els x hx, h.snk x hx⟩
theorem up (h : Inv l n k s reps) (hk : k + 1 ≤ 40) : Inv l n (k + 1) s reps :=
 { h with num := ⟨h.num.1, by have := h.num.2; omega⟩, sv := (by obtain ⟨a, h1, h2⟩ := h.sv; exact ⟨a, h1, by omega⟩), k40 := hk }
theorem tk (h : Inv l n k s reps) {b : JR} (hc : YS l s b = 0) (sb : J6 40 b.v) (hk : k + 1 ≤ 40) : Inv l n (k + 1) (KF s b) (Yc l (rOf l s reps) b).reps := by
 have hs := h.sim.tk hc
 have e := QeS hs
 obtain ⟨-, -, -, e4, e5, -⟩ := QfH (s := s) (b := b)
 obtain ⟨a, h1, h2⟩ := h.sv
 refine ⟨by rw [← e]; exact hs, by rw [QiD]; exact h.len, by rw [e5]; exact ⟨h.num.1, by have := h.num.2; omega⟩, ⟨a, by rw [e4]; exact h1, ?_⟩, ?_, hk⟩
 ·unfold KF; split
  ·show a + s.nk.length ≤ k + 1; omega
  show a + (s.nk ++ [b.v]).length ≤ k + 1; rw [List.length_append, List.length_singleton]; omega
 unfold KF; split
 ·exact h.snk
 intro x hx
 rcases List.mem_append.1 hx with hx | hx
 ·exact h.snk x hx
 rw [List.mem_singleton.1 hx]; exact sb
theorem fin (hO : YK l) (h : Inv l n k s reps) (hnum : s.num ≤ k) : Inv l n k (Qcj l s) (Qa0 (rOf l s reps)).reps := by
 have hs := h.sim.fin hO
 have e := QeS hs
 obtain ⟨a, h1, h2⟩ := h.sv
 have hlen : (Qa0 (rOf l s reps)).reps.length = n := by
  unfold Qa0
  split
  ·exact h.len
  split
  ·rw [List.length_replicate]; exact h.len
  exact h.len
 have hcase : (Qcj l s).num = s.num ∧ (Qcj l s).v = s.v ∧ (Qcj l s).nk = s.nk ∨ Qcj l s = Qjr l s := by
  unfold Qcj
  split
  ·exact .inl ⟨rfl, rfl, rfl⟩
  split
  ·exact .inr rfl
  exact .inl ⟨rfl, rfl, rfl⟩
 refine ⟨by rw [← e]; exact hs, hlen, ?_, ?_, ?_, h.k40⟩
 ·rcases hcase with ⟨g, -, -⟩ | g
  ·rw [g]; exact h.num
  rw [g]; show 1 ≤ s.num + 1 ∧ s.num + 1 ≤ 1 + k; have := h.num; omega
 ·rcases hcase with ⟨-, g1, g2⟩ | g
  ·rw [g1, g2]; exact ⟨a, h1, h2⟩
  rw [g]
  have hf := Qcz hO (n := 64 + 40 * a) (by omega) h.sim.el h1 h.both s.nk.length (Nat.le_refl _)
  rw [List.take_length] at hf
  exact ⟨a + s.nk.length, hf.2.up (by omega), by show a + s.nk.length + 0 ≤ k; omega⟩
 rcases hcase with ⟨-, -, g2⟩ | g
 ·rw [g2]; exact h.snk
 rw [g]; intro x hx; cases hx
end Inv
abbrev rrN (l : QD) (s : Pr) (reps : List Int) (n : Nat) : List (Nat × Qx) := [(QB, .var 48 (rrC l (rOf l s reps) (.own (QB + 1) n))), (QB + 1, .arr 3 1 (reps.map iv1))]
theorem Qg3 {l : QD} {n k : Nat} {s : Pr} {reps : List Int} (h : Inv l n k s reps) : rrH l (rOf l s reps) = rrN l s reps n := by
 have e : (rOf l s reps).reps.length = n := h.len
 unfold rrH
 rw [e]; rfl
theorem QmO {l : QD} {n k : Nat} {s : Pr} {reps : List Int} (h : Inv l n k s reps) : GC Tryz.prog 20 [.ptr QB 0] (rrN l s reps n) (.tup [.agg (Qz (Qfu s)), bl s.dec]) (rrN l s reps n) := by
 have g := Qqr l (rOf l s reps)
 rw [Qg3 h] at g
 exact g
theorem Qiw {l : QD} {n k : Nat} {s : Pr} {reps : List Int} (h : Inv l n k s reps) : GC Tryz.prog 26 [.ptr QB 0] (rrN l s reps n) (bals (Qfd s)) (rrN l s reps n) := by
 have g := Qot l (rOf l s reps) h.sim.n12
 rw [Qg3 h, ← h.sim.bals] at g
 exact g
theorem QsN {l : QD} {n k : Nat} {s : Pr} {reps : List Int} (h : Inv l n k s reps) {b : JR} (hne : ¬ YS l s b = 0) : GX Tryz.prog 28 [.ptr QB 0, .agg (Jx b)] (rrN l s reps n) (i64 (YS l s b)) (rrN l s reps n) 1 := by
 have g := QpM l (rOf l s reps) b (by rw [← h.sim.chk b]; exact hne)
 rw [Qg3 h, ← h.sim.chk b] at g
 exact g
def Qkr (s : Pr) : Prop := ¬ s.acks ≥ s.q ∧ s.acks + s.nk.length ≥ s.q
theorem Qsk {l : QD} {n k : Nat} {s : Pr} {reps : List Int} (hc : Xp l = 0) (h : Inv l n k s reps) {b : JR} (hck : YS l s b = 0) (sb : J6 40 b.v) (hg : ¬ Qkr (KF s b)) : GX Tryz.prog 28 [.ptr QB 0, .agg (Jx b)] (rrN l s reps n) (i64 0)
  [(QB, .var 48 (rrC l (rOf l (Qcj l (KF s b)) (Qa0 (Yc l (rOf l s reps) b)).reps) (.own (QB + 1) n))), (QB + 1, .arr 3 1 ((Qa0 (Yc l (rOf l s reps) b)).reps.map iv1))] 1 := by
 have hs := h.sim.tk hck
 have e := QeS (hs.fin (X0 hc))
 obtain ⟨a1, a2, a3⟩ := QjF hs
 have hR : J2 l (rOf l s reps) b = 0 := by rw [← h.sim.chk b]; exact hck
 have hK : ¬ (¬ (K0 (Yc l (rOf l s reps) b) : Int) ≥ (Yc l (rOf l s reps) b).q ∧ (QbN (Yc l (rOf l s reps) b) : Int) ≥ (Yc l (rOf l s reps) b).q) := by rw [a1, a2, a3]; exact hg
 have er : (Qa0 (Yc l (rOf l s reps) b)).reps = (Yc l (rOf l s reps) b).reps := by
  unfold Qa0
  split
  ·rfl
  rename_i h1
  rw [if_neg (fun h2 => hK ⟨h1, h2⟩)]
 have hlen : (rOf l s reps).reps.length = n := h.len
 obtain ⟨-, -, -, hk⟩ := QeN hck
 rcases hk with hk | ⟨hk, he, -⟩
 ·have g := Qnm l (rOf l s reps) b hR h.sim.n12 hk hK
  rw [Qg3 h, hlen, ← er, e] at g
  exact g
 obtain ⟨a, h1, h2⟩ := h.sv
 have hf := Qcz (X0 hc) (n := 64 + 40 * a) (by omega) h.sim.el h1 h.both s.nk.length (Nat.le_refl _)
 rw [List.take_length] at hf
 have := h.k40
 have g := Qnx l (rOf l s reps) b hR h.sim.n12 hk hc hf.1 he (show 64 + 40 * a + 40 * s.nk.length ≤ 900000 by omega) hf.2 sb hK
 rw [Qg3 h, hlen, ← er, e] at g
 exact g
theorem Qkw (l : QD) (id n q : Int) (v : Qw) (bs : List JR) (hS : ¬ (WH bs 30 = true ∧ QbK v 40 = true)) : FC Tryz.prog 3 [.agg (Q2 l), i64 id, i64 n, i64 q, .agg (Qz v), bals bs] (bl true) := by
 refine Qg [12] Tryz.func3 rfl rfl 127 Tryz.ntmps3 (Nat.le_of_ble_eq_true rfl) ?_
 intro E hN
 refine XB ?_; refine zP (Qc (Qci bs 30) rfl rfl rfl) ?_; refine Qu ?_
 refine zc 25 ?_ ?_ <;> intro h9
 ·
  refine XN ?_; refine zP (Qc QbO rfl rfl rfl) ?_; refine zS ?_; refine zQ ?_
  rfl
 refine Jk ?_; refine uP (Xj (m1 (n0 h9))) (Qc (QcR v 40 (by decide) (by decide)) rfl rfl rfl) ?_; refine Qs ?_
 refine zq ?_ ?_ <;> intro h11
 ·
  refine zG ?_; refine zP (Qc QbO rfl rfl rfl) ?_; refine zS ?_; refine zQ ?_
  rfl
 exact absurd (by simp_all) hS
theorem QjN (l : QD) (id n q : Int) (v : Qw) (bs : List JR) (hS : WH bs 30 = true) (hV : QbK v 40 = true) (hbad : id < 0 ∨ n < 1 ∨ 12 < n ∨ q < 1 ∨ n < q ∨ XZ l v = false) : FC Tryz.prog 3 [.agg (Q2 l), i64 id, i64 n, i64 q, .agg (Qz v), bals bs] (bl true) := by
 refine Qg [12] Tryz.func3 rfl rfl 127 Tryz.ntmps3 (Nat.le_of_ble_eq_true rfl) ?_
 intro E hN
 refine XB ?_; refine zP (Qc (fcb (c := true) (Qci bs 30) hS) rfl rfl rfl) ?_; refine Qs ?_
 refine zP (Qc (fcb (c := true) (QcR v 40 (by decide) (by decide)) hV) rfl rfl rfl) ?_; refine X6 ?_
 refine zP (Qc (Qop l id n q v hbad) rfl rfl rfl) ?_; refine YR ?_; refine zP (Qc (Qof l id n q v (.inr hbad)) rfl rfl rfl) ?_
 refine QaA ?_; refine zP (Qc QbO rfl rfl rfl) ?_; refine zS ?_; refine zQ ?_
 rfl
end Go.Proofs.YtnkkokmmeplbgaaGreat
