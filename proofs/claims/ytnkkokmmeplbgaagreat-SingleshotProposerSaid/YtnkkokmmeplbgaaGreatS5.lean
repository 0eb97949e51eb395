/-
  Arguments opened: lists of ballots.
-/
import Derived.Test.YtnkkokmmeplbgaaGreatS10
import Derived.Test.YtnkkokmmeplbgaaGreatA11
import Derived.Test.YtnkkokmmeplbgaaGreatB1
import Derived.Test.YtnkkokmmeplbgaaGreatB16
import Derived.Test.YtnkkokmmeplbgaaGreatS2
namespace Go.Proofs.YtnkkokmmeplbgaaGreat
set_option maxRecDepth 100000
open Go.RowKit
abbrev nxS (l : QD) (s : Pr) (b : JR) : Pr := Qcj l (KF s b)
abbrev nxR (l : QD) (s : Pr) (reps : List Int) (b : JR) : List Int := (Qa0 (Yc l (rOf l s reps) b)).reps
theorem Inv.next {l : QD} {n k : Nat} {s : Pr} {reps : List Int} (hO : YK l) (h : Inv l n k s reps) {b : JR} (hck : YS l s b = 0) (sb : J6 40 b.v) (hk : k + 1 ≤ 40) : Inv l n (k + 1) (nxS l s b) (nxR l s reps b) := by
 have h2 := h.tk hck sb hk
 have e := QeS (h.sim.tk hck)
 have h3 := h2.fin hO (by rw [(QfH (s := s) (b := b)).2.2.2.2.1]; have := h.num.2; omega)
 rw [← e] at h3
 exact h3
theorem Qs9 {l : QD} {n k : Nat} {s : Pr} {reps : List Int} (hc : Xp l = 0) (h : Inv l n k s reps) {b : JR} (hck : YS l s b = 0) (sb : J6 40 b.v) (hg : Qkr (KF s b)) : GX Tryz.prog 28 [.ptr QB 0, .agg (Jx b)] (rrN l s reps n) (i64 0)
  [(QB, .var 48 (rrC l (rOf l (nxS l s b) (nxR l s reps b)) (.own 1 n))), (QB + 1, .arr 3 1 ((Yc l (rOf l s reps) b).reps.map iv1)), (1, .arr 3 1 ((nxR l s reps b).map iv1))] 2 := by
 have hs := h.sim.tk hck
 have e := QeS (hs.fin (X0 hc))
 obtain ⟨a1, a2, a3⟩ := QjF hs
 have hR : J2 l (rOf l s reps) b = 0 := by rw [← h.sim.chk b]; exact hck
 have h18 : ¬ (K0 (Yc l (rOf l s reps) b) : Int) ≥ (Yc l (rOf l s reps) b).q := by rw [a1, a3]; exact hg.1
 have h20 : (QbN (Yc l (rOf l s reps) b) : Int) ≥ (Yc l (rOf l s reps) b).q := by rw [a2, a3]; exact hg.2
 have hnum : 0 ≤ (Yc l (rOf l s reps) b).num ∧ (Yc l (rOf l s reps) b).num ≤ 1000000 := by
  have e1 : (Yc l (rOf l s reps) b).num = s.num := rfl
  rw [e1]; have := h.num; have := h.k40; omega
 have hlen : (rOf l s reps).reps.length = n := h.len
 obtain ⟨-, -, -, hk⟩ := QeN hck
 rcases hk with hk | ⟨hk, he, -⟩
 ·have g := Qnv l (rOf l s reps) b hR h.sim.n12 hk h18 h20 hnum
  rw [Qg3 h, hlen, e] at g
  exact g
 obtain ⟨a, h1, h2⟩ := h.sv
 have hf := Qcz (X0 hc) (n := 64 + 40 * a) (by omega) h.sim.el h1 h.both s.nk.length (Nat.le_refl _)
 rw [List.take_length] at hf
 have := h.k40
 have g := Qnt l (rOf l s reps) b hR h.sim.n12 hk hc hf.1 he (show 64 + 40 * a + 40 * s.nk.length ≤ 900000 by omega) hf.2 sb h18 h20 hnum
 rw [Qg3 h, hlen, e] at g
 exact g
theorem Qtv {l : QD} {n k : Nat} {s : Pr} {reps : List Int} (hc : Xp l = 0) (h : Inv l n k s reps) {b : JR} (hck : YS l s b = 0) (sb : J6 40 b.v) (hk : k + 1 ≤ 40) (hg : ¬ Qkr (KF s b)) : GX Tryz.prog 27 [.ptr QB 0, .agg (Jx b)] (prH l s) (i64 0) (prH l (nxS l s b)) 1 := by
 have h2 := h.tk hck sb hk
 have := h.n12; have := h.sn; have := h.acks; have := h.nkl; have := h2.acks; have := h2.nkl
 exact Qqc l s b (by omega) hck hc sb (by omega) (by omega) hg (by omega) (by omega)
theorem QtZ {l : QD} {n k : Nat} {s : Pr} {reps : List Int} (hc : Xp l = 0) (h : Inv l n k s reps) {b : JR} (hck : YS l s b = 0) (sb : J6 40 b.v) (hk : k + 1 ≤ 40) (hg : Qkr (KF s b)) : GX Tryz.prog 27 [.ptr QB 0, .agg (Jx b)] (prH l s) (i64 0)
  [(QB, .var 118 (prC l (nxS l s b) (.p (.slice none 0 0)))), (QB + 1, .arr 30 4 ((KF s b).nk.map JV))] 1 := by
 have h2 := h.tk hck sb hk
 have := h.n12; have := h.sn; have := h.acks; have := h.nkl; have := h2.acks; have := h2.nkl; have := h2.num; have := h2.k40
 obtain ⟨a, h3, h4⟩ := h2.sv
 exact Qqk l s b (by omega) hck hc sb (by omega) (by omega) hg.1 hg.2 (by omega) (by omega) (by omega) h2.sim.el (n := 64 + 40 * a) (by omega) (by omega) h3 h2.both
theorem Qsg {l : QD} {s : Pr} {b : JR} (hg : Qkr (KF s b)) : (nxS l s b).nk = [] := by rw [nxS, QmB hg.1 hg.2]; rfl
theorem five {l : QD} {s : Pr} {bs : List JR} {k : Nat} (hk : k ≤ bs.length + 1) : (∃ x, bs[k]? = some x ∧ ¬ YS l s x = 0) ∨ (∃ x, bs[k]? = some x ∧ YS l s x = 0 ∧ ¬ Qkr (KF s x)) ∨ (∃ x, bs[k]? = some x ∧ YS l s x = 0 ∧ Qkr (KF s x)) ∨ k = bs.length ∨ k = bs.length + 1 := by
 rcases Nat.lt_or_ge k bs.length with h | h
 ·obtain ⟨x, hx⟩ := Qn h
  by_cases h1 : YS l s x = 0
  ·by_cases h2 : Qkr (KF s x)
   ·exact .inr (.inr (.inl ⟨x, hx, h1, h2⟩))
   exact .inr (.inl ⟨x, hx, h1, h2⟩)
  exact .inl ⟨x, hx, h1⟩
 rcases (show k = bs.length ∨ k = bs.length + 1 by omega) with h | h
 ·exact .inr (.inr (.inr (.inl h)))
 exact .inr (.inr (.inr (.inr h)))
theorem QnN {ρ : List (Nat × Nat)} {q1 q2 q3 : Nat} {T te te3 : TypeId} {k k3 : Nat} {cs cs' : List AV} {es es3 : List (List AV)} (h : ∀ e ∈ es, fzs e = some e) (h3 : ∀ e ∈ es3, fzs e = some e) (hcs : cs.map (QaC ρ) = cs') : [(q1, Qx.var T cs), (q2, .arr te k es), (q3, .arr te3 k3 es3)].map (fun p => (rn ρ p.1, Wu ρ p.2)) = [(rn ρ q1, .var T cs'), (rn ρ q2, .arr te k es), (rn ρ q3, .arr te3 k3 es3)] := by
 subst hcs
 simp only [List.map_cons, List.map_nil, Wu, QgI h, QgI h3]
theorem Inv.new {l : QD} {id q : Int} {n : Nat} {v : Qw} (h1 : 1 ≤ n) (h2 : n ≤ 12) (he : Qt v l = true) (sv : J6 40 v) : Inv l n 0 (Qdm id n q v) (List.replicate n 0) := by
 have hs : Sim l (Qdm id n q v) (Qaa id n q v) := Sim.new (by omega) (by omega) he
 have e := QeS hs
 have er : (Qaa id n q v).reps = List.replicate n 0 := by simp [Qaa]
 rw [er] at e
 exact ⟨by rw [← e]; exact hs, List.length_replicate, by show 1 ≤ (1 : Int) ∧ (1 : Int) ≤ 1 + (0 : Nat); omega, ⟨0, sv.up (by omega), by show 0 + 0 ≤ 0; omega⟩, (by intro x hx; cases hx), by omega⟩
theorem KU (x : Qw) : eqV x x = true := (Yk x x).2 rfl
theorem Qdf {bs : List JR} {k : Nat} {x : JR} (h : bs[k]? = some x) : k < bs.length := (List.getElem?_eq_some_iff.1 h).1
set_option maxHeartbeats 20000000 in
theorem Qll (l : QD) (id q : Int) (n : Nat) (v : Qw) (bs : List JR) (hS : WH bs 30 = true) (hV : QbK v 40 = true) (h0 : 0 ≤ id) (h1 : 1 ≤ n) (h2 : n ≤ 12) (h3 : 1 ≤ q) (h4 : q ≤ n) (hv : XZ l v = true) : FC Tryz.prog 3 [.agg (Q2 l), i64 id, i64 (n : Nat), i64 q, .agg (Qz v), bals bs] (bl true) := by
 have hsm := QlV hS
 have hb30 := hsm.1
 have hcv : Xp l = 0 ∧ Qt v l = true := by simpa [XZ] using hv
 have hc := hcv.1
 have he := hcv.2
 have sv := YB hV
 have hI0 := Inv.new (l := l) (id := id) (q := q) h1 h2 he sv
 refine Qg [12] Tryz.func3 rfl rfl 127 Tryz.ntmps3 (Nat.le_of_ble_eq_true rfl) ?_
 intro E hN
 refine Jj 5 rfl (fun hl5 => ?_)
 refine XB ?_; refine zP (Qc (fcb (c := true) (Qci bs 30) hS) rfl rfl rfl) ?_; refine Qs ?_
 refine zP (Qc (fcb (c := true) (QcR v 40 (by decide) (by decide)) hV) rfl rfl rfl) ?_; refine X6 ?_
 refine Qia hN rfl (Qpb l id n q v h0 (by omega) (by omega) h3 (by omega) hv hc he (sv.up (by decide))) (.fn _ _ _ _ rfl rfl) rfl rfl rfl rfl rfl ?_
 refine YR ?_
 refine Qmx hN [] (Qov l id q n v h0 h1 h2 h3 (by omega) hv hc) (.fn _ _ _ _ rfl rfl) rfl rfl rfl trivial rfl ⟨rfl, Qde (Jm _), trivial⟩ rfl (QbG (Jm _) rfl) rfl rfl rfl rfl rfl rfl ?_
 refine QaA ?_; refine QF ?_; refine QI (Qhq rfl 2 27 30 4 rfl rfl rfl) ?_
 refine Ql (fun z : {z : Nat × Pr × List Int // z.1 ≤ bs.length + 1 ∧ Inv l n z.1 z.2.1 z.2.2} => ⟨[(5, bals bs), (13, .ptr 2 0), (15, .ptr 6 0), (17, i64 (z.1.1 : Nat))], [(2, .var 118 (prC l z.1.2.1 (.own 7 (z.1.2.1).nk.length))), (7, .arr 30 4 ((z.1.2.1).nk.map JV)), (6, .var 48 (rrC l (rOf l z.1.2.1 z.1.2.2) (.own 5 n))), (5, .arr 3 1 ((z.1.2.2).map iv1))], 8⟩) (fun z => bs.length + 1 - z.1.1) (⟨(0, Qdm id n q v, List.replicate n 0), Nat.zero_le _, hI0⟩) ?_ ?_
 ·
  exact Qa rfl (JH trivial) ⟨rfl, rfl, rfl, rfl, rfl, (QO _), rfl, rfl, rfl, rfl, rfl, (QJ _), trivial⟩
 rintro ⟨⟨k, s, reps⟩, hk, hI⟩
 dsimp only at hk hI ⊢
 rcases five (l := l) (s := s) hk with ⟨x, hx, hq⟩ | ⟨x, hx, hq, hg⟩ | ⟨x, hx, hq, hg⟩ | hq | hq
 ·
  have hlt := Qdf hx
  have hle : k + 1 ≤ bs.length + 1 := by omega
  have hnx : Inv l n (k + 1) s reps := hI.up (by omega)
  have hdec : bs.length + 1 - (k + 1) < bs.length + 1 - k := by omega
  have hk1 : (k : Int) + 1 = ((k + 1 : Nat) : Int) := by omega
  refine Q8 ?_
  refine zP (QC (b := true) rfl rfl rfl (by have := Qdf hx; simp; omega)) ?_
  refine XN ?_; refine zP (XE 2 7 (QfN l s hc hI.sim.el hI.big) (Xe _) rfl rfl rfl rfl rfl rfl rfl rfl rfl rfl) ?_; refine XB ?_
  refine zP (XE 6 5 (QmO hI) (Jm _) rfl rfl rfl rfl rfl rfl rfl rfl rfl rfl) ?_; refine JA ?_
  refine Qd 35 (by kernel_rfl) (by kernel_rfl) ?_; refine Qu ?_; refine zp (QC (b := false) rfl rfl rfl (by simp)) ?_; refine Qs ?_
  refine zp (Qc (fcb (c := true) (Je (Qfu s) (Qfu s)) (KU _)) rfl rfl rfl) ?_; refine Qv ?_
  refine zp (XE 2 7 (Qai l s hc hI.sim.el hI.big) (Xe _) rfl rfl rfl rfl rfl rfl rfl rfl rfl rfl) ?_; refine zm ?_
  refine zp (Qe rfl rfl rfl) ?_; refine Qu ?_; refine zp (Qc (fcb (c := true) (Je s.v s.v) (KU _)) rfl rfl rfl) ?_; refine Qv ?_
  refine zp (XE 2 7 (Qf1 l s) (Xe _) rfl rfl rfl rfl rfl rfl rfl rfl rfl rfl) ?_; refine zm ?_; refine zp (Qe rfl rfl rfl) ?_
  refine Qu ?_; refine zp (QC (b := false) rfl rfl rfl (by simp [rOf])) ?_; refine Qs ?_
  refine zp (XE 2 7 (Qek l s hc hI.sim.el hI.big (by rw [hI.sn]; omega) (by rw [hI.sn]; omega)) (Xe _) rfl rfl rfl rfl rfl rfl rfl rfl rfl rfl) ?_
  refine zm ?_; refine zp (XE 6 5 (Qiw hI) (Jm _) rfl rfl rfl rfl rfl rfl rfl rfl rfl rfl) ?_
  refine zp (Qc (fcb (c := true) (Qab (Qfd s)) rfl) rfl rfl rfl) ?_; refine Jk ?_; change Qj _ _ _ _ _ _; refine QF ?_
  refine Qc2 hN 19 rfl (by kernel_rfl) (by kernel_rfl) (fun _ _ h => h) (fun E2 hN2 => ?_)
  refine QL 0 rfl (by kernel_rfl) (by kernel_rfl) rfl ((Q9 hN2 rfl rfl rfl rfl rfl rfl).wf) ?_
  refine QL 1 rfl (by kernel_rfl) (by kernel_rfl) rfl ((Q9 hN2 rfl rfl rfl rfl rfl rfl).wf) ?_
  refine QL 2 rfl (by kernel_rfl) (by kernel_rfl) rfl ((QiT hN2 rfl rfl rfl rfl rfl rfl).wf) ?_
  refine QL 3 rfl (by kernel_rfl) (by kernel_rfl) rfl ((QfE hN2 rfl rfl rfl (b := true) (by exact congrArg Value.bool (decide_eq_true (by rw [List.length_map]; have := Qdf hx; omega))) rfl rfl rfl rfl).wf) ?_
  refine QL 4 rfl (by kernel_rfl) (by kernel_rfl) rfl ((Q9 hN2 rfl rfl rfl rfl rfl rfl).wf) ?_
  refine QL 5 rfl (by kernel_rfl) (by kernel_rfl) rfl ((Q9 hN2 rfl rfl rfl rfl rfl rfl).wf) ?_
  refine QL 6 rfl (by kernel_rfl) (by kernel_rfl) rfl ((Q9 hN2 rfl rfl rfl rfl rfl rfl).wf) ?_
  refine QL 7 rfl (by kernel_rfl) (by kernel_rfl) rfl ((Q9 hN2 rfl rfl rfl rfl rfl rfl).wf) ?_
  refine QL 8 rfl (by kernel_rfl) (by kernel_rfl) rfl ((QcZ hN2 rfl rfl rfl k rfl _ (Wa hx) rfl rfl rfl rfl rfl).wf) ?_
  refine QL 9 rfl (by kernel_rfl) (by kernel_rfl) rfl (QcV hN2 rfl rfl rfl rfl rfl rfl rfl rfl) ?_
  refine QL 11 rfl (by kernel_rfl) (by kernel_rfl) rfl ((Q9 hN2 rfl rfl rfl rfl rfl rfl).wf) ?_
  refine QL 12 rfl (by kernel_rfl) (by kernel_rfl) rfl ((Q9 hN2 rfl rfl rfl rfl rfl rfl).wf) ?_
  refine QL 13 rfl (by kernel_rfl) (by kernel_rfl) rfl ((Q9 hN2 rfl rfl rfl rfl rfl rfl).wf) ?_
  refine QL 14 rfl (by kernel_rfl) (by kernel_rfl) rfl ((QcZ hN2 rfl rfl rfl k rfl _ (Wa hx) rfl rfl rfl rfl rfl).wf) ?_
  refine QL 15 rfl (by kernel_rfl) (by kernel_rfl) rfl (QcV hN2 rfl rfl rfl rfl rfl rfl rfl rfl) ?_; refine QfZ ?_
  refine Ww [10] (by kernel_rfl) rfl ⟨.inr (.inr (Qbk hN2 rfl [(QB, 2), (QB + 1, 7)] (Qqm l s x (by rw [hI.sn]; have := hI.n12; omega) hq) (.fn _ _ _ _ rfl rfl) rfl rfl rfl ⟨rfl, rfl, rfl, Qby (Xe _) rfl, rfl, Qdy (Xe _), trivial⟩ rfl ⟨rfl, Qde (Xe _), trivial⟩ rfl (QbG (Xe _) rfl) rfl rfl rfl rfl rfl rfl ?_)), trivial⟩
  change AU _ _ _ _ _ _ _ _
  refine Ww [16] (by kernel_rfl) rfl ⟨.inr (.inr (Qbk hN2 rfl [(QB, 6), (QB + 1, 5)] (QsN hI hq) (.fn _ _ _ _ rfl rfl) rfl rfl rfl ⟨rfl, rfl, rfl, Qby (Jm _) rfl, rfl, Qdy (Jm _), trivial⟩ rfl ⟨rfl, Qde (Jm _), trivial⟩ rfl (QbG (Jm _) rfl) rfl rfl rfl rfl rfl rfl ?_)), trivial⟩
  change AU _ _ _ _ _ _ _ _
  refine Ww [17] (by kernel_rfl) rfl ⟨.inl (QK rfl ?_), trivial⟩
  refine Qac hN2 (QC (b := false) rfl rfl rfl (by simp)) rfl rfl rfl rfl ?_
  change AU _ _ _ _ _ _ _ _
  refine Ww [18] (by kernel_rfl) rfl ⟨.inl (QK rfl ?_), trivial⟩
  refine Qac hN2 (Xu rfl rfl rfl rfl) rfl rfl rfl rfl ?_
  change AU _ _ _ _ _ _ _ _
  refine yD ?_; change Ya _ _ _ _ _; refine Q8 ?_; refine Qb ?_
  exact ⟨⟨(k + 1, s, reps), hle, hnx⟩, Qa rfl (JO ⟨(Q0 hk1), rfl, trivial⟩) ⟨rfl, rfl, rfl, rfl, rfl, (QO _), rfl, rfl, rfl, rfl, rfl, (QJ _), trivial⟩, hdec⟩
 ·
  have hlt := Qdf hx
  have hle : k + 1 ≤ bs.length + 1 := by omega
  have hnx : Inv l n (k + 1) (nxS l s x) (nxR l s reps x) := hI.next (X0 hc) hq (hsm.2 x (List.mem_of_getElem? hx)) (by omega)
  have hdec : bs.length + 1 - (k + 1) < bs.length + 1 - k := by omega
  have hk1 : (k : Int) + 1 = ((k + 1 : Nat) : Int) := by omega
  refine Q8 ?_
  refine zP (QC (b := true) rfl rfl rfl (by have := Qdf hx; simp; omega)) ?_
  refine XN ?_; refine zP (XE 2 7 (QfN l s hc hI.sim.el hI.big) (Xe _) rfl rfl rfl rfl rfl rfl rfl rfl rfl rfl) ?_; refine XB ?_
  refine zP (XE 6 5 (QmO hI) (Jm _) rfl rfl rfl rfl rfl rfl rfl rfl rfl rfl) ?_; refine JA ?_
  refine Qd 35 (by kernel_rfl) (by kernel_rfl) ?_; refine Qu ?_; refine zp (QC (b := false) rfl rfl rfl (by simp)) ?_; refine Qs ?_
  refine zp (Qc (fcb (c := true) (Je (Qfu s) (Qfu s)) (KU _)) rfl rfl rfl) ?_; refine Qv ?_
  refine zp (XE 2 7 (Qai l s hc hI.sim.el hI.big) (Xe _) rfl rfl rfl rfl rfl rfl rfl rfl rfl rfl) ?_; refine zm ?_
  refine zp (Qe rfl rfl rfl) ?_; refine Qu ?_; refine zp (Qc (fcb (c := true) (Je s.v s.v) (KU _)) rfl rfl rfl) ?_; refine Qv ?_
  refine zp (XE 2 7 (Qf1 l s) (Xe _) rfl rfl rfl rfl rfl rfl rfl rfl rfl rfl) ?_; refine zm ?_; refine zp (Qe rfl rfl rfl) ?_
  refine Qu ?_; refine zp (QC (b := false) rfl rfl rfl (by simp [rOf])) ?_; refine Qs ?_
  refine zp (XE 2 7 (Qek l s hc hI.sim.el hI.big (by rw [hI.sn]; omega) (by rw [hI.sn]; omega)) (Xe _) rfl rfl rfl rfl rfl rfl rfl rfl rfl rfl) ?_
  refine zm ?_; refine zp (XE 6 5 (Qiw hI) (Jm _) rfl rfl rfl rfl rfl rfl rfl rfl rfl rfl) ?_
  refine zp (Qc (fcb (c := true) (Qab (Qfd s)) rfl) rfl rfl rfl) ?_; refine Jk ?_; change Qj _ _ _ _ _ _; refine QF ?_
  refine Qc2 hN 19 rfl (by kernel_rfl) (by kernel_rfl) (fun _ _ h => h) (fun E2 hN2 => ?_)
  refine QL 0 rfl (by kernel_rfl) (by kernel_rfl) rfl ((Q9 hN2 rfl rfl rfl rfl rfl rfl).wf) ?_
  refine QL 1 rfl (by kernel_rfl) (by kernel_rfl) rfl ((Q9 hN2 rfl rfl rfl rfl rfl rfl).wf) ?_
  refine QL 2 rfl (by kernel_rfl) (by kernel_rfl) rfl ((QiT hN2 rfl rfl rfl rfl rfl rfl).wf) ?_
  refine QL 3 rfl (by kernel_rfl) (by kernel_rfl) rfl ((QfE hN2 rfl rfl rfl (b := true) (by exact congrArg Value.bool (decide_eq_true (by rw [List.length_map]; have := Qdf hx; omega))) rfl rfl rfl rfl).wf) ?_
  refine QL 4 rfl (by kernel_rfl) (by kernel_rfl) rfl ((Q9 hN2 rfl rfl rfl rfl rfl rfl).wf) ?_
  refine QL 5 rfl (by kernel_rfl) (by kernel_rfl) rfl ((Q9 hN2 rfl rfl rfl rfl rfl rfl).wf) ?_
  refine QL 6 rfl (by kernel_rfl) (by kernel_rfl) rfl ((Q9 hN2 rfl rfl rfl rfl rfl rfl).wf) ?_
  refine QL 7 rfl (by kernel_rfl) (by kernel_rfl) rfl ((Q9 hN2 rfl rfl rfl rfl rfl rfl).wf) ?_
  refine QL 8 rfl (by kernel_rfl) (by kernel_rfl) rfl ((QcZ hN2 rfl rfl rfl k rfl _ (Wa hx) rfl rfl rfl rfl rfl).wf) ?_
  refine QL 9 rfl (by kernel_rfl) (by kernel_rfl) rfl (QcV hN2 rfl rfl rfl rfl rfl rfl rfl rfl) ?_
  refine QL 11 rfl (by kernel_rfl) (by kernel_rfl) rfl ((Q9 hN2 rfl rfl rfl rfl rfl rfl).wf) ?_
  refine QL 12 rfl (by kernel_rfl) (by kernel_rfl) rfl ((Q9 hN2 rfl rfl rfl rfl rfl rfl).wf) ?_
  refine QL 13 rfl (by kernel_rfl) (by kernel_rfl) rfl ((Q9 hN2 rfl rfl rfl rfl rfl rfl).wf) ?_
  refine QL 14 rfl (by kernel_rfl) (by kernel_rfl) rfl ((QcZ hN2 rfl rfl rfl k rfl _ (Wa hx) rfl rfl rfl rfl rfl).wf) ?_
  refine QL 15 rfl (by kernel_rfl) (by kernel_rfl) rfl (QcV hN2 rfl rfl rfl rfl rfl rfl rfl rfl) ?_; refine QfZ ?_
  refine Ww [10] (by kernel_rfl) rfl ⟨.inr (.inr (Qbk hN2 rfl [(QB, 2), (QB + 1, 7)] (Qtv hc hI hq (hsm.2 x (List.mem_of_getElem? hx)) (by have := Qdf hx; omega) hg) (.fn _ _ _ _ rfl rfl) rfl rfl rfl ⟨rfl, rfl, rfl, Qby (Xe _) rfl, rfl, Qdy (Xe _), trivial⟩ rfl ⟨rfl, Qde (Xe _), trivial⟩ rfl (QbG (Xe _) rfl) rfl rfl rfl rfl rfl rfl ?_)), trivial⟩
  change AU _ _ _ _ _ _ _ _
  refine Ww [16] (by kernel_rfl) rfl ⟨.inr (.inr (Qbk hN2 rfl [(QB, 6), (QB + 1, 5)] (Qsk hc hI hq (hsm.2 x (List.mem_of_getElem? hx)) hg) (.fn _ _ _ _ rfl rfl) rfl rfl rfl ⟨rfl, rfl, rfl, Qby (Jm _) rfl, rfl, Qdy (Jm _), trivial⟩ rfl ⟨rfl, Qde (Jm _), trivial⟩ rfl (QbG (Jm _) rfl) rfl rfl rfl rfl rfl rfl ?_)), trivial⟩
  change AU _ _ _ _ _ _ _ _
  refine Ww [17] (by kernel_rfl) rfl ⟨.inl (QK rfl ?_), trivial⟩
  refine Qac hN2 (QC (b := false) rfl rfl rfl (by simp)) rfl rfl rfl rfl ?_
  change AU _ _ _ _ _ _ _ _
  refine Ww [18] (by kernel_rfl) rfl ⟨.inl (QK rfl ?_), trivial⟩
  refine Qac hN2 (Xu rfl rfl rfl rfl) rfl rfl rfl rfl ?_
  change AU _ _ _ _ _ _ _ _
  refine yD ?_; change Ya _ _ _ _ _; refine Q8 ?_; refine Qb ?_
  exact ⟨⟨(k + 1, (nxS l s x), (nxR l s reps x)), hle, hnx⟩, Qa rfl (JO ⟨(Q0 hk1), rfl, trivial⟩) ⟨rfl, rfl, rfl, rfl, rfl, (QO _), rfl, rfl, rfl, rfl, rfl, (QJ _), trivial⟩, hdec⟩
 ·
  have hlt := Qdf hx
  have hle : k + 1 ≤ bs.length + 1 := by omega
  have hnx : Inv l n (k + 1) (nxS l s x) (nxR l s reps x) := hI.next (X0 hc) hq (hsm.2 x (List.mem_of_getElem? hx)) (by omega)
  have hdec : bs.length + 1 - (k + 1) < bs.length + 1 - k := by omega
  have hk1 : (k : Int) + 1 = ((k + 1 : Nat) : Int) := by omega
  refine Q8 ?_
  refine zP (QC (b := true) rfl rfl rfl (by have := Qdf hx; simp; omega)) ?_
  refine XN ?_; refine zP (XE 2 7 (QfN l s hc hI.sim.el hI.big) (Xe _) rfl rfl rfl rfl rfl rfl rfl rfl rfl rfl) ?_; refine XB ?_
  refine zP (XE 6 5 (QmO hI) (Jm _) rfl rfl rfl rfl rfl rfl rfl rfl rfl rfl) ?_; refine JA ?_
  refine Qd 35 (by kernel_rfl) (by kernel_rfl) ?_; refine Qu ?_; refine zp (QC (b := false) rfl rfl rfl (by simp)) ?_; refine Qs ?_
  refine zp (Qc (fcb (c := true) (Je (Qfu s) (Qfu s)) (KU _)) rfl rfl rfl) ?_; refine Qv ?_
  refine zp (XE 2 7 (Qai l s hc hI.sim.el hI.big) (Xe _) rfl rfl rfl rfl rfl rfl rfl rfl rfl rfl) ?_; refine zm ?_
  refine zp (Qe rfl rfl rfl) ?_; refine Qu ?_; refine zp (Qc (fcb (c := true) (Je s.v s.v) (KU _)) rfl rfl rfl) ?_; refine Qv ?_
  refine zp (XE 2 7 (Qf1 l s) (Xe _) rfl rfl rfl rfl rfl rfl rfl rfl rfl rfl) ?_; refine zm ?_; refine zp (Qe rfl rfl rfl) ?_
  refine Qu ?_; refine zp (QC (b := false) rfl rfl rfl (by simp [rOf])) ?_; refine Qs ?_
  refine zp (XE 2 7 (Qek l s hc hI.sim.el hI.big (by rw [hI.sn]; omega) (by rw [hI.sn]; omega)) (Xe _) rfl rfl rfl rfl rfl rfl rfl rfl rfl rfl) ?_
  refine zm ?_; refine zp (XE 6 5 (Qiw hI) (Jm _) rfl rfl rfl rfl rfl rfl rfl rfl rfl rfl) ?_
  refine zp (Qc (fcb (c := true) (Qab (Qfd s)) rfl) rfl rfl rfl) ?_; refine Jk ?_; change Qj _ _ _ _ _ _; refine QF ?_
  refine Qc2 hN 19 rfl (by kernel_rfl) (by kernel_rfl) (fun _ _ h => h) (fun E2 hN2 => ?_)
  refine QL 0 rfl (by kernel_rfl) (by kernel_rfl) rfl ((Q9 hN2 rfl rfl rfl rfl rfl rfl).wf) ?_
  refine QL 1 rfl (by kernel_rfl) (by kernel_rfl) rfl ((Q9 hN2 rfl rfl rfl rfl rfl rfl).wf) ?_
  refine QL 2 rfl (by kernel_rfl) (by kernel_rfl) rfl ((QiT hN2 rfl rfl rfl rfl rfl rfl).wf) ?_
  refine QL 3 rfl (by kernel_rfl) (by kernel_rfl) rfl ((QfE hN2 rfl rfl rfl (b := true) (by exact congrArg Value.bool (decide_eq_true (by rw [List.length_map]; have := Qdf hx; omega))) rfl rfl rfl rfl).wf) ?_
  refine QL 4 rfl (by kernel_rfl) (by kernel_rfl) rfl ((Q9 hN2 rfl rfl rfl rfl rfl rfl).wf) ?_
  refine QL 5 rfl (by kernel_rfl) (by kernel_rfl) rfl ((Q9 hN2 rfl rfl rfl rfl rfl rfl).wf) ?_
  refine QL 6 rfl (by kernel_rfl) (by kernel_rfl) rfl ((Q9 hN2 rfl rfl rfl rfl rfl rfl).wf) ?_
  refine QL 7 rfl (by kernel_rfl) (by kernel_rfl) rfl ((Q9 hN2 rfl rfl rfl rfl rfl rfl).wf) ?_
  refine QL 8 rfl (by kernel_rfl) (by kernel_rfl) rfl ((QcZ hN2 rfl rfl rfl k rfl _ (Wa hx) rfl rfl rfl rfl rfl).wf) ?_
  refine QL 9 rfl (by kernel_rfl) (by kernel_rfl) rfl (QcV hN2 rfl rfl rfl rfl rfl rfl rfl rfl) ?_
  refine QL 11 rfl (by kernel_rfl) (by kernel_rfl) rfl ((Q9 hN2 rfl rfl rfl rfl rfl rfl).wf) ?_
  refine QL 12 rfl (by kernel_rfl) (by kernel_rfl) rfl ((Q9 hN2 rfl rfl rfl rfl rfl rfl).wf) ?_
  refine QL 13 rfl (by kernel_rfl) (by kernel_rfl) rfl ((Q9 hN2 rfl rfl rfl rfl rfl rfl).wf) ?_
  refine QL 14 rfl (by kernel_rfl) (by kernel_rfl) rfl ((QcZ hN2 rfl rfl rfl k rfl _ (Wa hx) rfl rfl rfl rfl rfl).wf) ?_
  refine QL 15 rfl (by kernel_rfl) (by kernel_rfl) rfl (QcV hN2 rfl rfl rfl rfl rfl rfl rfl rfl) ?_; refine QfZ ?_
  refine Ww [10] (by kernel_rfl) rfl ⟨.inr (.inr (Qbk hN2 rfl [(QB, 2), (QB + 1, 7)] (QtZ hc hI hq (hsm.2 x (List.mem_of_getElem? hx)) (by omega) hg) (.fn _ _ _ _ rfl rfl) rfl rfl rfl ⟨rfl, rfl, rfl, Qby (Xe _) rfl, rfl, Qdy (Xe _), trivial⟩ rfl ⟨rfl, Qde (Xe _), trivial⟩ rfl (QbG (Xe _) rfl) rfl rfl rfl rfl rfl rfl ?_)), trivial⟩
  change AU _ _ _ _ _ _ _ _
  refine Ww [16] (by kernel_rfl) rfl ⟨.inr (.inr (Qbk hN2 rfl [(QB, 6), (QB + 1, 5)] (Qs9 hc hI hq (hsm.2 x (List.mem_of_getElem? hx)) hg) (.fn _ _ _ _ rfl rfl) rfl rfl rfl ⟨rfl, rfl, rfl, Qby (Jm _) rfl, rfl, Qdy (Jm _), trivial⟩ rfl ⟨rfl, Qde (Jm _), Qde (Jm _), trivial⟩ rfl (QnN (Jm _) (Jm _) rfl) rfl rfl rfl rfl rfl rfl ?_)), trivial⟩
  change AU _ _ _ _ _ _ _ _
  refine Ww [17] (by kernel_rfl) rfl ⟨.inl (QK rfl ?_), trivial⟩
  refine Qac hN2 (QC (b := false) rfl rfl rfl (by simp)) rfl rfl rfl rfl ?_
  change AU _ _ _ _ _ _ _ _
  refine Ww [18] (by kernel_rfl) rfl ⟨.inl (QK rfl ?_), trivial⟩
  refine Qac hN2 (Xu rfl rfl rfl rfl) rfl rfl rfl rfl ?_
  change AU _ _ _ _ _ _ _ _
  refine yD ?_; change Ya _ _ _ _ _; refine Q8 ?_; refine Qb ?_
  exact ⟨⟨(k + 1, (nxS l s x), (nxR l s reps x)), hle, hnx⟩, QtN rfl rfl rfl (Q0 hk1) rfl rfl rfl (Qsg hg), hdec⟩
 ·
  have hle : k + 1 ≤ bs.length + 1 := by omega
  have hnx := hI.up (by omega)
  have hdec : bs.length + 1 - (k + 1) < bs.length + 1 - k := by omega
  have hk1 : (k : Int) + 1 = ((k + 1 : Nat) : Int) := by omega
  refine Q8 ?_
  refine zP (QC (b := true) rfl rfl rfl (by simp; omega)) ?_
  refine XN ?_; refine zP (XE 2 7 (QfN l s hc hI.sim.el hI.big) (Xe _) rfl rfl rfl rfl rfl rfl rfl rfl rfl rfl) ?_; refine XB ?_
  refine zP (XE 6 5 (QmO hI) (Jm _) rfl rfl rfl rfl rfl rfl rfl rfl rfl rfl) ?_; refine JA ?_
  refine Qd 35 (by kernel_rfl) (by kernel_rfl) ?_; refine Qu ?_; refine zp (QC (b := false) rfl rfl rfl (by simp)) ?_; refine Qs ?_
  refine zp (Qc (fcb (c := true) (Je (Qfu s) (Qfu s)) (KU _)) rfl rfl rfl) ?_; refine Qv ?_
  refine zp (XE 2 7 (Qai l s hc hI.sim.el hI.big) (Xe _) rfl rfl rfl rfl rfl rfl rfl rfl rfl rfl) ?_; refine zm ?_
  refine zp (Qe rfl rfl rfl) ?_; refine Qu ?_; refine zp (Qc (fcb (c := true) (Je s.v s.v) (KU _)) rfl rfl rfl) ?_; refine Qv ?_
  refine zp (XE 2 7 (Qf1 l s) (Xe _) rfl rfl rfl rfl rfl rfl rfl rfl rfl rfl) ?_; refine zm ?_; refine zp (Qe rfl rfl rfl) ?_
  refine Qu ?_; refine zp (QC (b := false) rfl rfl rfl (by simp [rOf])) ?_; refine Qs ?_
  refine zp (XE 2 7 (Qek l s hc hI.sim.el hI.big (by rw [hI.sn]; omega) (by rw [hI.sn]; omega)) (Xe _) rfl rfl rfl rfl rfl rfl rfl rfl rfl rfl) ?_
  refine zm ?_; refine zp (XE 6 5 (Qiw hI) (Jm _) rfl rfl rfl rfl rfl rfl rfl rfl rfl rfl) ?_
  refine zp (Qc (fcb (c := true) (Qab (Qfd s)) rfl) rfl rfl rfl) ?_; refine Jk ?_; change Qj _ _ _ _ _ _; refine QF ?_
  refine Qc2 hN 19 rfl (by kernel_rfl) (by kernel_rfl) (fun _ _ h => h) (fun E2 hN2 => ?_)
  refine QL 0 rfl (by kernel_rfl) (by kernel_rfl) rfl ((Q9 hN2 rfl rfl rfl rfl rfl rfl).wf) ?_
  refine QL 1 rfl (by kernel_rfl) (by kernel_rfl) rfl ((Q9 hN2 rfl rfl rfl rfl rfl rfl).wf) ?_
  refine QL 2 rfl (by kernel_rfl) (by kernel_rfl) rfl ((QiT hN2 rfl rfl rfl rfl rfl rfl).wf) ?_
  refine QL 3 rfl (by kernel_rfl) (by kernel_rfl) rfl ((QfE hN2 rfl rfl rfl (b := false) (by exact congrArg Value.bool (decide_eq_false (by rw [List.length_map]; omega))) rfl rfl rfl rfl).wf) ?_
  refine QL 4 rfl (by kernel_rfl) (by kernel_rfl) rfl ((Q9 hN2 rfl rfl rfl rfl rfl rfl).wf) ?_
  refine QL 5 rfl (by kernel_rfl) (by kernel_rfl) rfl ((Kk hN2 rfl rfl rfl rfl).wf) ?_
  refine QL 6 rfl (by kernel_rfl) (by kernel_rfl) rfl ((Kk hN2 rfl rfl rfl rfl).wf) ?_
  refine QL 7 rfl (by kernel_rfl) (by kernel_rfl) rfl ((Kk hN2 rfl rfl rfl rfl).wf) ?_
  refine QL 8 rfl (by kernel_rfl) (by kernel_rfl) rfl ((Kk hN2 rfl rfl rfl rfl).wf) ?_
  refine QL 9 rfl (by kernel_rfl) (by kernel_rfl) rfl ((Kk hN2 rfl rfl rfl rfl).wf) ?_
  refine QL 10 rfl (by kernel_rfl) (by kernel_rfl) rfl ((Kk hN2 rfl rfl rfl rfl).wf) ?_
  refine QL 11 rfl (by kernel_rfl) (by kernel_rfl) rfl ((Kk hN2 rfl rfl rfl rfl).wf) ?_
  refine QL 12 rfl (by kernel_rfl) (by kernel_rfl) rfl ((Kk hN2 rfl rfl rfl rfl).wf) ?_
  refine QL 13 rfl (by kernel_rfl) (by kernel_rfl) rfl ((Kk hN2 rfl rfl rfl rfl).wf) ?_
  refine QL 14 rfl (by kernel_rfl) (by kernel_rfl) rfl ((Kk hN2 rfl rfl rfl rfl).wf) ?_
  refine QL 15 rfl (by kernel_rfl) (by kernel_rfl) rfl ((Kk hN2 rfl rfl rfl rfl).wf) ?_
  refine QL 16 rfl (by kernel_rfl) (by kernel_rfl) rfl ((Kk hN2 rfl rfl rfl rfl).wf) ?_
  refine QL 17 rfl (by kernel_rfl) (by kernel_rfl) rfl ((Kk hN2 rfl rfl rfl rfl).wf) ?_; refine QfZ ?_
  refine Ww [18] (by kernel_rfl) rfl ⟨.inl (QK rfl ?_), trivial⟩
  refine Qac hN2 (Xw rfl rfl rfl rfl) rfl rfl rfl rfl ?_
  change AU _ _ _ _ _ _ _ _
  refine yD ?_; change Ya _ _ _ _ _; refine Q8 ?_; refine Qb ?_
  exact ⟨⟨(k + 1, s, reps), hle, hnx⟩, Qa rfl (JO ⟨(Q0 hk1), rfl, trivial⟩) ⟨rfl, rfl, rfl, rfl, rfl, (QO _), rfl, rfl, rfl, rfl, rfl, (QJ _), trivial⟩, hdec⟩
 skip
 refine Q8 ?_
 refine zP (QC (b := false) rfl rfl rfl (by simp; omega)) ?_
 refine QF ?_; refine zP (Qc QbO rfl rfl rfl) ?_; refine zS ?_; refine zQ ?_
 rfl
theorem QlH (l : QD) (id n q : Int) (v : Qw) (bs : List JR) : FC Tryz.prog 3 [.agg (Q2 l), i64 id, i64 n, i64 q, .agg (Qz v), bals bs] (bl true) := by
 by_cases hS : WH bs 30 = true ∧ QbK v 40 = true
 ·by_cases hbad : id < 0 ∨ n < 1 ∨ 12 < n ∨ q < 1 ∨ n < q ∨ XZ l v = false
  ·exact QjN l id n q v bs hS.1 hS.2 hbad
  obtain ⟨m, rfl⟩ : ∃ m : Nat, n = m := ⟨n.toNat, by omega⟩
  have hv : XZ l v = true := by
   cases e : XZ l v with
   | true => rfl
   | false => exact absurd (.inr (.inr (.inr (.inr (.inr e))))) hbad
  exact Qll l id q m v bs hS.1 hS.2 (by omega) (by omega) (by omega) (by omega) (by omega) hv
 exact Qkw l id n q v bs hS
end Go.Proofs.YtnkkokmmeplbgaaGreat
namespace Go.Proofs.YtnkkokmmeplbgaaGreat
set_option maxRecDepth 100000
open Go.RowKit Go.ChangeShapes Go.WideShapes Go.ChangeAt
section
variable {H : Type} {enc : TypeId × Value → H} {w : World} {base : Nat} {spare : Nat → Bool} {held : Bool}
theorem QrE {fuel : Nat} {v : Value} {x : DataW H × List MemPlace} (h : DataW.trod enc Tryz.prog w base spare held fuel 31 [v] = some x) : ∃ l : List JR, FR w (QeK w) v (bals l) :=
 QbS Tryz.underlying31 8 (by kernel_rfl) (by decide) h (fun b => Jx b) (fun _ => rfl) (fun m ds y _ hdl ht => by
  obtain ⟨u0, u1, u2, u3, u4, u5, u6, u7, rfl⟩ : ∃ a b c d e f g h, ds = [a, b, c, d, e, f, g, h] := by
   match ds, hdl with
   | [a, b, c, d, e, f, g, h], _ => exact ⟨a, b, c, d, e, f, g, h, rfl⟩
  obtain ⟨xs, k, -, rfl, hl, hlen, hf⟩ := DataW.trod_struct Tryz.underlying54 ht
  have f0 := hf 0 _ rfl
  have f1 := hf 1 _ rfl
  have f2 := hf 2 _ rfl
  have f3 := hf 3 _ rfl
  have f4 := hf 4 _ rfl
  have hx0 : xs[0]? = some (xs[0]'(by rw [hlen]; decide)) := List.getElem?_eq_getElem _
  have hx1 : xs[1]? = some (xs[1]'(by rw [hlen]; decide)) := List.getElem?_eq_getElem _
  have hx2 : xs[2]? = some (xs[2]'(by rw [hlen]; decide)) := List.getElem?_eq_getElem _
  have hx3 : xs[3]? = some (xs[3]'(by rw [hlen]; decide)) := List.getElem?_eq_getElem _
  have hx4 : xs[4]? = some (xs[4]'(by rw [hlen]; decide)) := List.getElem?_eq_getElem _
  obtain ⟨p0, hp0, -⟩ := DataW.trod_int Tryz.underlying3 (f0.trans hx0)
  have hq0 : [u0] = [Value.int .i64 p0] := hp0
  obtain ⟨p1, hp1, -⟩ := DataW.trod_int Tryz.underlying3 (f1.trans hx1)
  have hq1 : [u1] = [Value.int .i64 p1] := hp1
  obtain ⟨p2, hp2, -⟩ := DataW.trod_int Tryz.underlying3 (f2.trans hx2)
  have hq2 : [u2] = [Value.int .i64 p2] := hp2
  obtain ⟨p3, hp3, -⟩ := DataW.trod_int Tryz.underlying3 (f3.trans hx3)
  have hq3 : [u3] = [Value.int .i64 p3] := hp3
  simp only [List.cons.injEq, and_true] at hq0 hq1 hq2 hq3
  subst hq0 hq1 hq2 hq3
  obtain ⟨-, z, hz⟩ := QpF _ _ _ (f4.trans hx4)
  refine ⟨⟨p0, p1, p2, p3, z⟩, fun i u a hi ha => ?_⟩
  match i, hi, ha with
  | 0, hi, ha => simp at hi ha; subst hi ha; exact .p _
  | 1, hi, ha => simp at hi ha; subst hi ha; exact .p _
  | 2, hi, ha => simp at hi ha; subst hi ha; exact .p _
  | 3, hi, ha => simp at hi ha; subst hi ha; exact .p _
  | 4, hi, ha => exact hz 0 u a hi ha
  | 5, hi, ha => exact hz 1 u a hi ha
  | 6, hi, ha => exact hz 2 u a hi ha
  | 7, hi, ha => exact hz 3 u a hi ha
  | i + 8, hi, _ => simp at hi)
end
end Go.Proofs.YtnkkokmmeplbgaaGreat
