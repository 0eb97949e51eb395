/-
  The chapter's example of generalized lattice agreement.
-/
import Derived.Test.YtnkkokmmeplbgaaGreatS1
import Derived.Test.YtnkkokmmeplbgaaGreatA8
import Derived.Test.YtnkkokmmeplbgaaGreatN3
import Derived.Test.YtnkkokmmeplbgaaGreatC7
import Derived.Test.YtnkkokmmeplbgaaGreatC4
namespace Go.Proofs.YtnkkokmmeplbgaaGreat
set_option maxRecDepth 100000
set_option maxHeartbeats 1000000
open Go.RowKit
theorem K8 {l : List YB} {k : Nat} {x : YB} (h : l[k]? = some x) : (l.map fun b => Jw b)[k]? = some (Jw x) := by rw [List.getElem?_map, h]; rfl
theorem Ql5 (l : Qv) : FC Tryz.prog 73 [.agg (Q2 l)] (.tup [.agg (QF (YC l).1), i64 (YC l).2]) := by
 refine Ju [.c 2 30 4 true, .t 3] ⟨⟨inferInstance, rfl⟩, trivial⟩ Tryz.func73 rfl rfl 10 Tryz.ntmps73 (Nat.le_of_ble_eq_true rfl) ?_
 intro E hN;refine Xs ?_;refine zP (Qd (Qah l) rfl rfl rfl) ?_;refine QH ?_
 refine zq ?_ ?_ <;> intro h6
 ·have h1 : ¬ QB l = 0 := by simpa using h6
  refine Xk ?_;refine Qg ?_;change (resY _ _).bind AV.fzt = some _;refine Xm rfl ?_
  rw [YC, if_neg h1]; rfl
 have h1 : QB l = 0 := by simpa using h6
 refine QC ?_;refine zP (Qd (Qdr l (Xb h1)) rfl rfl rfl) ?_;refine QD ?_;refine Qg ?_;change (resY _ _).bind AV.fzt = some _;refine Xm rfl ?_;rw [YC, if_pos h1]
end Go.Proofs.YtnkkokmmeplbgaaGreat
namespace Go.Proofs.YtnkkokmmeplbgaaGreat
set_option maxRecDepth 100000
set_option maxHeartbeats 1000000
open Go.RowKit
def gL : Qv := .mk 4 0 0 [] [] []
def gA : Qp := .mk 0 [[97]] [] []
theorem gC : QB gL = 0 := by decide
theorem gAe : El gL 1000 gA := ⟨by decide, (Qkd (show Qcq gA 40 = true by kernel_rfl)).up (by decide)⟩
theorem gBe : El gL 64 (Qn gL) := El.bot (Xb gC)
theorem gJ : Qk gL (Qn gL) gA = gA := Qfc (Xb gC) gAe.1
abbrev gX : Nd := ⟨3, 0, gA, Qn gL, Qn gL, 1⟩
abbrev gP : Pp := ⟨gA, Qn gL, Yp (fun _ => false) 0 true, 0⟩
abbrev gM (k f t n : Int) (v : Qp) : YB := ⟨k, f, t, n, v⟩
theorem awIn : GX Tryz.prog 40 [.ptr Qe 0, .agg (QF gA)] [(Qe, .var 131 (Xy gL (Qbb gL 3 0) Jv))] (.tup [Y4 [gM 1 0 1 1 gA, gM 1 0 2 1 gA], i64 0]) [(Qe, .var 131 (Xy gL gX (.ptr 1 0))), (1, .var 137 (Jk gP))] 4 := by
 have h := Qiv gL (Qbb gL 3 0) gA gC (by decide) (by decide) (by decide) (by decide) (by decide) (by decide) (gBe.up (by decide)) (gBe.up (by decide)) (by decide) gAe
 have e1 : Xq gL { Qbb gL 3 0 with wt := Qk gL (Qbb gL 3 0).wt gA } = gX := by
  show (⟨3, 0, Qk gL (Qn gL) (Qk gL (Qn gL) gA), Qn gL, Qn gL, 0 + 1⟩ : Nd) = _
  rw [gJ, gJ]; rfl
 have e2 : Q1 gL { Qbb gL 3 0 with wt := Qk gL (Qbb gL 3 0).wt gA } = gP := by
  show (⟨Qk gL (Qn gL) (Qk gL (Qn gL) gA), Qn gL, Yp (fun _ => false) 0 true, 0⟩ : Pp) = _
  rw [gJ, gJ]
 rw [e1, e2] at h;exact h
theorem awTi : GC Tryz.prog 44 [.ptr Qe 0] [(Qe, .var 131 (Xy gL gX (.ptr (Qe + 1) 0))), ((Qe + 1), .var 137 (Jk gP))] (Y4 [gM 1 0 1 1 gA, gM 1 0 2 1 gA]) [(Qe, .var 131 (Xy gL gX (.ptr (Qe + 1) 0))), ((Qe + 1), .var 137 (Jk gP))] :=
 QkF gL gX gP gC (by decide) (by decide) (gAe.up (by decide)) gBe.1 (Ww gL (Xb gC) gA gAe.1)
theorem awHp : GX Tryz.prog 42 [.ptr Qe 0, .agg (Jw (gM 1 0 1 1 gA))] [(Qe, .var 131 (Xy gL (Qbb gL 3 1) Jv))] (.tup [Y4 [gM 2 1 0 1 Qp.zero], i64 0]) [(Qe, .var 131 (Xy gL { Qbb gL 3 1 with acc := gA } Jv))] 2 := by
 have h := Qid gL (Qbb gL 3 1) (gM 1 0 1 1 gA) gC (by decide) (by decide) (gBe.up (by decide)) (gAe.up (by decide))
 have e1 : QbV gL (Qbb gL 3 1) (gM 1 0 1 1 gA) = gM 2 1 0 1 Qp.zero := if_pos (Ww gL (Xb gC) gA gAe.1)
 rw [e1, show Qk gL (Qbb gL 3 1).acc (gM 1 0 1 1 gA).v = gA from gJ] at h;exact h
theorem awHa : GX Tryz.prog 42 [.ptr Qe 0, .agg (Jw (gM 2 1 0 1 Qp.zero))] [(Qe, .var 131 (Xy gL gX (.ptr (Qe + 1) 0))), ((Qe + 1), .var 137 (Jk gP))] (.tup [Y4 [gM 4 0 1 0 gA, gM 4 0 2 0 gA], i64 0]) [(Qe, .var 131 (Xy gL { gX with lrn := gA } Jv)), ((Qe + 1), .var 137 (Jk { gP with ack := Yp gP.ack 1 true }))] 3 := by
 have h := Qlg gL gX gP (gM 2 1 0 1 Qp.zero) gC (by decide) (by decide) (by decide) (by decide) (by decide) (gBe.up (by decide)) (gAe.up (by decide)) (by decide) (by decide)
 have e1 : QT gL gX gP = { gX with lrn := gA } := QaU (Ww gL (Xb gC) gA gAe.1)
 rw [e1] at h;exact h
theorem Qpl (l : List Nm) : FC Tryz.prog 75 [XS l] (.tup [.agg (Q2 gL), .agg (QF (.mk 0 l [] []))]) := by
 refine Ju [.c 2 26 6 true, .c 3 30 4 true] ⟨⟨inferInstance, rfl⟩, ⟨⟨inferInstance, rfl⟩, trivial⟩⟩ Tryz.func75 rfl rfl 7 Tryz.ntmps75 (Nat.le_of_ble_eq_true rfl) ?_
 intro E hN;refine WV ?_;refine Qg ?_;change (resY _ _).bind AV.fzt = some _;refine Xm rfl ?_
 rfl
theorem QgF : FC Tryz.prog 36 [] (bl true) := by
 refine Qh [0] Tryz.func36 rfl rfl 145 Tryz.ntmps36 (Nat.le_of_ble_eq_true rfl) ?_
 intro E hN;refine Xk ?_;refine zP (QG rfl rfl rfl rfl (by exact rfl) (by decide) (by decide)) ?_;refine zP (Qd (Qpl [[97]]) rfl rfl rfl) ?_;refine Xn ?_;refine Qjk hN rfl (QjI gL 3 0 gC (by decide) (by decide) (by decide) (by decide)) (.fn _ _ _ _ rfl rfl) rfl rfl rfl rfl rfl ?_;refine X3 ?_;refine Qjk hN rfl (QjI gL 3 1 gC (by decide) (by decide) (by decide) (by decide)) (.fn _ _ _ _ rfl rfl) rfl rfl rfl rfl rfl ?_;refine Qof ?_
 refine QN hN [(Qe, 2)] awIn (.fn _ _ _ _ rfl rfl) rfl rfl rfl ⟨rfl, rfl, rfl, trivial⟩ rfl ⟨rfl, rfl, trivial⟩ rfl rfl rfl rfl rfl rfl rfl rfl ?_;refine Wn ?_;refine zP (Qf rfl rfl rfl 0 rfl _ rfl rfl) ?_;refine Xk ?_;refine zP (Q0 [(Qe, 2), (Qe + 1, 5)] awTi rfl rfl rfl rfl ⟨rfl, rfl, rfl, rfl, rfl, rfl, rfl, rfl, trivial⟩ rfl) ?_;refine Xs ?_;refine zP (Qf rfl rfl rfl 0 rfl _ rfl rfl) ?_;refine zL ?_;refine QN hN [(Qe, 3)] awHp (.fn _ _ _ _ rfl rfl) rfl rfl rfl ⟨rfl, rfl, rfl, trivial⟩ rfl ⟨rfl, trivial⟩ rfl rfl rfl rfl rfl rfl rfl rfl ?_;refine Wn ?_
 refine zP (Qf rfl rfl rfl 0 rfl _ rfl rfl) ?_;refine Xn ?_;refine zP (Qf rfl rfl rfl 0 rfl _ rfl rfl) ?_;refine zL ?_;refine QN hN [(Qe, 2), ((Qe + 1), 5)] awHa (.fn _ _ _ _ rfl rfl) rfl rfl rfl ⟨rfl, rfl, rfl, rfl, rfl, rfl, trivial⟩ rfl ⟨rfl, rfl, trivial⟩ rfl rfl rfl rfl rfl rfl rfl rfl ?_;refine X3 ?_;refine zP (Q0 [(Qe, 2)] (Qk3 gL { gX with lrn := gA } [] (XD.of rfl)) rfl rfl rfl rfl ⟨rfl, rfl, rfl, rfl, trivial⟩ rfl) ?_;refine Xs ?_;refine zD 46 ?_;refine X3 ?_;refine zp (Qf rfl rfl rfl 0 rfl _ rfl rfl) ?_;refine Xk ?_
 refine zp (Q0 [(Qe, 2)] (QcN gL { gX with lrn := gA } Jv [] (XD.of rfl) gC (gAe.up (by decide))) rfl rfl rfl rfl ⟨rfl, rfl, rfl, rfl, trivial⟩ rfl) ?_;refine zl ?_;refine zp (Qd (fcb (c := true) (Jr gA gA) ((Jl _ _).2 rfl)) rfl rfl rfl) ?_;refine QD ?_;refine zp (Q0 [(Qe, 3)] (Qcr gL { Qbb gL 3 1 with acc := gA } Jv [] (XD.of rfl) gC (gAe.up (by decide))) rfl rfl rfl rfl ⟨rfl, rfl, rfl, rfl, trivial⟩ rfl) ?_;refine zl ?_;refine zp (Qd (fcb (c := true) (Jr gA gA) ((Jl _ _).2 rfl)) rfl rfl rfl) ?_;refine Xn ?_
 refine zp (Q0 [(Qe, 2)] (Qnr gL { gX with lrn := gA } [] (XD.of rfl)) rfl rfl rfl rfl ⟨rfl, rfl, rfl, rfl, trivial⟩ rfl) ?_;refine QC ?_;refine zp (Q0 [(Qe, 2)] (QcZ gL { gX with lrn := gA } Jv [] (XD.of rfl) gC (gBe.up (by decide))) rfl rfl rfl rfl ⟨rfl, rfl, rfl, rfl, trivial⟩ rfl) ?_;refine zp (Qto rfl rfl rfl) ?_;refine QC ?_;refine zQ ?_
 rfl
def stW (l : Qv) (n : Int) : Int :=
 if l.k = 10 ∧ IntKind.i64.wrap (IntKind.i64.wrap (n - 1) - (l.nm.length : Int)) ≥ 0 then IntKind.i64.wrap (IntKind.i64.wrap (IntKind.i64.wrap (n - 1) - (l.nm.length : Int)) - IntKind.i64.wrap ((l.nm.length : Int) * (l.rs.length : Int)))
 else IntKind.i64.wrap (IntKind.i64.wrap (n - 1) - (l.nm.length : Int))
def Qlq (g : Qv → Int → Int) : List Qv → Int → Int
 | [], n => n
 | p :: r, n => if n ≥ 0 then Qlq g r (g p n) else n
theorem QpM {g : Qv → Int → Int} {n : Int} (h : ¬ n ≥ 0) : ∀ ps : List Qv, Qlq g ps n = n
 | [] => rfl
 | p :: r => if_neg h
theorem Qoo {g : Qv → Int → Int} {ps : List Qv} {k : Nat} {x : Qv} {n : Int} (hx : ps[k]? = some x) (h : n ≥ 0) : Qlq g (ps.drop k) n = Qlq g (ps.drop (k + 1)) (g x n) := by
 obtain ⟨hk, rfl⟩ := List.getElem?_eq_some_iff.1 hx;rw [List.drop_eq_getElem_cons hk];exact if_pos h
theorem Qqr (l : Qv) (g : Qv → Int → Int) (ih : ∀ p ∈ l.ps, ∀ n : Int, FC Tryz.prog 76 [.agg (Q2 p), i64 n] (i64 (g p n))) (n : Int) : FC Tryz.prog 76 [.agg (Q2 l), i64 n] (i64 (Qlq g l.ps (stW l n))) := by
 refine Qh [4] Tryz.func76 rfl rfl 47 Tryz.ntmps76 (Nat.le_of_ble_eq_true rfl) ?_
 intro E hN;refine QdK ?_;refine JT (⟨[(1, i64 (stW l n)), (2, .ptr 0 0)], [(0, .var 26 (Q2 l))], 1⟩) ?_ ?_
 ·refine Xk ?_
  refine zc 15 ?_ ?_ <;> intro h11
  rotate_left
  ·refine Qy ?_;refine QO ?_;exact Qa rfl ⟨(Y6 (by simp_all [stW] <;> (intros; omega))), rfl, (XE trivial)⟩ ⟨rfl, rfl, rfl, trivial⟩
  refine QC ?_
  refine zq ?_ ?_ <;> intro h12
  rotate_left
  ·refine QO ?_;exact Qa rfl ⟨(Y6 (by simp_all [stW] <;> (intros; omega))), rfl, (XE trivial)⟩ ⟨rfl, rfl, rfl, trivial⟩
  refine Xn ?_;refine Qb ?_;exact Qa rfl ⟨(Y6 (by simp_all [stW] <;> (intros; omega))), rfl, (XE trivial)⟩ ⟨rfl, rfl, rfl, trivial⟩
 refine Xk ?_;refine Qm (fun z : {q : Nat × Int // q.1 ≤ l.ps.length ∧ Qlq g (l.ps.drop q.1) q.2 = Qlq g l.ps (stW l n)} => ⟨[(1, i64 z.1.2), (2, .ptr 0 0), (5, i64 (z.1.1 : Nat))], [(0, .var 26 (Q2 l))], 1⟩) (fun z => l.ps.length - z.1.1) (⟨(0, stW l n), Nat.zero_le _, by simp⟩) ?_ ?_
 ·exact Qa rfl (JZ trivial) ⟨rfl, rfl, rfl, trivial⟩
 rintro ⟨⟨k, m⟩, hk, hr⟩;dsimp only at hk hr ⊢;refine X3 ?_
 refine zc 33 ?_ ?_ <;> intro h29
 rotate_left
 ·have hge : ¬ k < l.ps.length := by simpa using h29
  obtain rfl : k = l.ps.length := by omega
  rw [List.drop_length] at hr;refine Xs ?_;refine zQ ?_;exact congrArg (fun z : Int => i64 z) hr
 have hlt : k < l.ps.length := by simpa using h29
 obtain ⟨x, hx⟩ := Qq hlt;refine QC ?_
 refine zq ?_ ?_ <;> intro h30
 rotate_left
 ·have hm : ¬ m ≥ 0 := by simpa using h30
  rw [QpM hm] at hr;refine Qy ?_;refine zQ ?_;exact congrArg (fun z : Int => i64 z) hr
 have hm : m ≥ 0 := by simpa using h30
 refine Jq 30 rfl (fun hlen => ?_);refine Xg ?_;refine zP (Qf rfl rfl rfl k rfl _ (XK hx) rfl) ?_;refine QH ?_;refine zP (Qd (ih x (List.mem_of_getElem? hx) m) rfl rfl rfl) ?_;refine Xk ?_;refine Qb ?_;exact ⟨⟨(k + 1, g x m), hlt, by dsimp only; rw [← Qoo hx hm]; exact hr⟩, Qa rfl (Yf ⟨X5, rfl, trivial⟩) ⟨rfl, rfl, rfl, trivial⟩, by dsimp only; omega⟩
open Classical in
theorem QiC (l : Qv) : ∃ f : Int → Int, ∀ n : Int, FC Tryz.prog 76 [.agg (Q2 l), i64 n] (i64 (f n)) := by
 have ih : ∀ p ∈ l.ps, ∃ f : Int → Int, ∀ n : Int, FC Tryz.prog 76 [.agg (Q2 p), i64 n] (i64 (f n)) := fun p hp => QiC p
 refine ⟨fun n => Qlq (fun p => if h : p ∈ l.ps then Classical.choose (ih p h) else fun _ => 0) l.ps (stW l n), fun n => Qqr l _ (fun p hp n => ?_) n⟩;rw [dif_pos hp];exact Classical.choose_spec (ih p hp) n
termination_by l
decreasing_by exact Qv.sizeOf_ps ‹_›
theorem Qt5 (l : Qv) (f : Int → Int) (hf : ∀ n : Int, FC Tryz.prog 76 [.agg (Q2 l), i64 n] (i64 (f n))) : FC Tryz.prog 37 [.agg (Q2 l)] (bl (decide (f 150 ≥ 0))) := by
 refine Qh [2] Tryz.func37 rfl rfl 6 Tryz.ntmps37 (Nat.le_of_ble_eq_true rfl) ?_
 intro E hN;refine Xo ?_;refine zP (Qd (hf 150) rfl rfl rfl) ?_;refine QH ?_;refine zQ ?_
 rfl
theorem QlF (l : Qv) : ∃ b : Bool, FC Tryz.prog 37 [.agg (Q2 l)] (bl b) := by
 obtain ⟨f, hf⟩ := QiC l;exact ⟨_, Qt5 l f hf⟩
abbrev rnC (l : Qv) (n self : Int) (a le w : Qp) (num : Int) (has : Bool) (v g : Qp) (ak : AV) (rf : Int) : List AV := [i64 l.k, i64 l.lo, i64 l.hi, XS l.nm, Qkk l.ps, rus l.rs, i64 n, i64 self, i64 a.N, XS a.nm, Y8 a.ps, WA a.es, i64 le.N, XS le.nm, Y8 le.ps, WA le.es, i64 w.N, XS w.nm, Y8 w.ps, WA w.es, i64 num, bl has, i64 v.N, XS v.nm, Y8 v.ps, WA v.es, i64 g.N, XS g.nm, Y8 g.ps, WA g.es, ak, i64 rf]
def Qv.zero : Qv := .mk 0 0 0 [] [] []
theorem Qlj (l : Qv) (hc : QB l = 0) : FC Tryz.prog 73 [.agg (Q2 l)] (.tup [.agg (QF (Qn l)), i64 0]) := by
 have h := Ql5 l
 rw [YC, if_pos hc] at h;exact h
theorem Qrf (l : Qv) (n self : Int) (hc : QB l = 0) (h1 : 1 ≤ n) (h2 : n ≤ 12) (hs0 : 0 ≤ self) (hs1 : self < n) : FC Tryz.prog 39 [.agg (Q2 l), i64 n, i64 self] (.tup [.agg (rnC l n self (Qn l) (Qn l) (Qn l) 0 false Qp.zero Qp.zero (.sl [] none) 0), i64 0]) := by
 refine Ju [.c 6 80 32 true, .t 7] ⟨⟨inferInstance, rfl⟩, trivial⟩ Tryz.func39 rfl rfl 43 Tryz.ntmps39 (Nat.le_of_ble_eq_true rfl) ?_
 intro E hN;refine Xs ?_;refine zP (Qd (Qah l) rfl rfl rfl) ?_;refine QH ?_
 refine zc 13 ?_ ?_ <;> intro h8
 ·refine QaZ ?_;refine Qg ?_;change (resY _ _).bind AV.fzt = some _;refine Xm rfl ?_
  exfalso
  first | (simp_all; done) | (simp_all; omega)
 refine QC ?_
 refine zc 17 ?_ ?_ <;> intro h11
 ·refine Qdb ?_;refine Qg ?_;change (resY _ _).bind AV.fzt = some _;refine Xm rfl ?_
  exfalso
  first | (simp_all; done) | (simp_all; omega)
 refine QC ?_
 refine zc 21 ?_ ?_ <;> intro h14
 ·refine QaL ?_;refine Qg ?_;change (resY _ _).bind AV.fzt = some _;refine Xm rfl ?_
  exfalso
  first | (simp_all; done) | (simp_all; omega)
 refine QC ?_
 refine zc 25 ?_ ?_ <;> intro h17
 ·refine Jx ?_;refine Qg ?_;change (resY _ _).bind AV.fzt = some _;refine Xm rfl ?_
  exfalso
  first | (simp_all; done) | (simp_all; omega)
 refine Qy ?_
 refine zq ?_ ?_ <;> intro h20
 ·refine Xk ?_;refine Qg ?_;change (resY _ _).bind AV.fzt = some _;refine Xm rfl ?_
  exfalso
  first | (simp_all; done) | (simp_all; omega)
 refine QC ?_;refine zP (Qd (Qlj l hc) rfl rfl rfl) ?_;refine Qes ?_;refine Qg ?_;change (resY _ _).bind AV.fzt = some _;refine Xm rfl ?_
 rfl
theorem QoJ (l : Qv) (n self : Int) (hbad : ¬ QB l = 0 ∨ n < 1 ∨ 12 < n ∨ self < 0 ∨ n ≤ self) : FC Tryz.prog 39 [.agg (Q2 l), i64 n, i64 self] (.tup [.agg (rnC Qv.zero 0 0 Qp.zero Qp.zero Qp.zero 0 false Qp.zero Qp.zero (.sl [] none) 0), i64 1]) := by
 refine Ju [.c 6 80 32 true, .t 7] ⟨⟨inferInstance, rfl⟩, trivial⟩ Tryz.func39 rfl rfl 43 Tryz.ntmps39 (Nat.le_of_ble_eq_true rfl) ?_
 intro E hN;refine Xs ?_;refine zP (Qd (Qah l) rfl rfl rfl) ?_;refine QH ?_
 refine zc 13 ?_ ?_ <;> intro h8
 ·refine QaZ ?_;refine Qg ?_;change (resY _ _).bind AV.fzt = some _;refine Xm rfl ?_
  rfl
 refine QC ?_
 refine zc 17 ?_ ?_ <;> intro h11
 ·refine Qdb ?_;refine Qg ?_;change (resY _ _).bind AV.fzt = some _;refine Xm rfl ?_
  rfl
 refine QC ?_
 refine zc 21 ?_ ?_ <;> intro h14
 ·refine QaL ?_;refine Qg ?_;change (resY _ _).bind AV.fzt = some _;refine Xm rfl ?_
  rfl
 refine QC ?_
 refine zc 25 ?_ ?_ <;> intro h17
 ·refine Jx ?_;refine Qg ?_;change (resY _ _).bind AV.fzt = some _;refine Xm rfl ?_
  rfl
 refine Qy ?_
 refine zq ?_ ?_ <;> intro h20
 ·refine Xk ?_;refine Qg ?_;change (resY _ _).bind AV.fzt = some _;refine Xm rfl ?_
  rfl
 exfalso
 first | (simp_all; done) | (simp_all; omega)
end Go.Proofs.YtnkkokmmeplbgaaGreat
