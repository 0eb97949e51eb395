/-
  The chapter's example of generalized lattice agreement.
-/
import Derived.Test.YtnkkokmmeplbgaaGreatS2
import Derived.Test.YtnkkokmmeplbgaaGreatT5
import Derived.Test.YtnkkokmmeplbgaaGreatS1
namespace Go.Proofs.YtnkkokmmeplbgaaGreat
set_option maxRecDepth 100000
set_option maxHeartbeats 1000000
open Go.RowKit
def gL : Qs := .mk 4 0 0 [] [] []
def gA : Qt := .mk 0 [[97]] [] []
theorem gC : QK gL = 0 := by decide
theorem gAe : El gL 1000 gA := ⟨by decide, (QjN (show Qlc gA 40 = true by kernel_rfl)).up (by decide)⟩
theorem gBe : El gL 64 (Qm gL) := El.bot (Xg gC)
theorem gJ : QD gL (Qm gL) gA = gA := QdD (Xg gC) gAe.1
abbrev gX : Nd := ⟨3, 0, gA, Qm gL, Qm gL, 1⟩
abbrev gP : Pp := ⟨gA, Qm gL, upN (fun _ => false) 0 true, 0⟩
abbrev gM (k f t n : Int) (v : Qt) : Bal := ⟨k, f, t, n, v⟩
theorem awIn : GX Tryz.prog 40 [.ptr Qk 0, .agg (QH gA)] [(Qk, .var 131 (X6 gL (Yz gL 3 0) Jz))] (.tup [QdL [gM 1 0 1 1 gA, gM 1 0 2 1 gA], i64 0]) [(Qk, .var 131 (X6 gL gX (.ptr 1 0))), (1, .var 137 (Kn gP))] 4 := by
 have h := Qi8 gL (Yz gL 3 0) gA gC (by decide) (by decide) (by decide) (by decide) (by decide) (by decide) (gBe.up (by decide)) (gBe.up (by decide)) (by decide) gAe
 have e1 : Qf8 gL { Yz gL 3 0 with wt := QD gL (Yz gL 3 0).wt gA } = gX := by
  show (⟨3, 0, QD gL (Qm gL) (QD gL (Qm gL) gA), Qm gL, Qm gL, 0 + 1⟩ : Nd) = _
  rw [gJ, gJ]; rfl
 have e2 : Qf6 gL { Yz gL 3 0 with wt := QD gL (Yz gL 3 0).wt gA } = gP := by
  show (⟨QD gL (Qm gL) (QD gL (Qm gL) gA), Qm gL, upN (fun _ => false) 0 true, 0⟩ : Pp) = _
  rw [gJ, gJ]
 rw [e1, e2] at h
 exact h
theorem awTi : GC Tryz.prog 44 [.ptr Qk 0] [(Qk, .var 131 (X6 gL gX (.ptr (Qk + 1) 0))), ((Qk + 1), .var 137 (Kn gP))] (QdL [gM 1 0 1 1 gA, gM 1 0 2 1 gA]) [(Qk, .var 131 (X6 gL gX (.ptr (Qk + 1) 0))), ((Qk + 1), .var 137 (Kn gP))] :=
 Qkk gL gX gP gC (by decide) (by decide) (gAe.up (by decide)) gBe.1 (Ks gL (Xg gC) gA gAe.1)
theorem awHp : GX Tryz.prog 42 [.ptr Qk 0, .agg (K0 (gM 1 0 1 1 gA))] [(Qk, .var 131 (X6 gL (Yz gL 3 1) Jz))] (.tup [QdL [gM 2 1 0 1 Qt.zero], i64 0]) [(Qk, .var 131 (X6 gL { Yz gL 3 1 with acc := gA } Jz))] 2 := by
 have h := QiT gL (Yz gL 3 1) (gM 1 0 1 1 gA) gC (by decide) (by decide) (gBe.up (by decide)) (gAe.up (by decide))
 have e1 : Qm3 gL (Yz gL 3 1) (gM 1 0 1 1 gA) = gM 2 1 0 1 Qt.zero := if_pos (Ks gL (Xg gC) gA gAe.1)
 rw [e1, show QD gL (Yz gL 3 1).acc (gM 1 0 1 1 gA).v = gA from gJ] at h
 exact h
theorem awHa : GX Tryz.prog 42 [.ptr Qk 0, .agg (K0 (gM 2 1 0 1 Qt.zero))] [(Qk, .var 131 (X6 gL gX (.ptr (Qk + 1) 0))), ((Qk + 1), .var 137 (Kn gP))] (.tup [QdL [gM 4 0 1 0 gA, gM 4 0 2 0 gA], i64 0]) [(Qk, .var 131 (X6 gL { gX with lrn := gA } Jz)), ((Qk + 1), .var 137 (Kn { gP with ack := upN gP.ack 1 true }))] 3 := by
 have h := QkO gL gX gP (gM 2 1 0 1 Qt.zero) gC (by decide) (by decide) (by decide) (by decide) (by decide) (gBe.up (by decide)) (gAe.up (by decide)) (by decide) (by decide)
 have e1 : WF gL gX gP = { gX with lrn := gA } := Qe3 (Ks gL (Xg gC) gA gAe.1)
 rw [e1] at h
 exact h
theorem Qjn (l : List Nm) : FC Tryz.prog 75 [XN l] (.tup [.agg (QP gL), .agg (QH (.mk 0 l [] []))]) := by
 refine X9 [.c 2 26 6 true, .c 3 30 4 true] ⟨⟨inferInstance, rfl⟩, ⟨⟨inferInstance, rfl⟩, trivial⟩⟩ Tryz.func75 rfl rfl 7 Tryz.ntmps75 (Nat.le_of_ble_eq_true rfl) ?_
 intro E hN
 refine Wz ?_; refine Qj ?_
 change (resY _ _).bind AV.fzt = some _
 refine Xs rfl ?_
 rfl
theorem QcR : FC Tryz.prog 36 [] (bl true) := by
 refine Qe [0] Tryz.func36 rfl rfl 145 Tryz.ntmps36 (Nat.le_of_ble_eq_true rfl) ?_
 intro E hN
 refine Xk ?_; refine zP (QJ rfl rfl rfl rfl (by exact rfl) (by decide) (by decide)) ?_; refine zP (Qb (Qjn [[97]]) rfl rfl rfl) ?_
 refine Jc ?_; refine Qe6 hN rfl (Qfp gL 3 0 gC (by decide) (by decide) (by decide) (by decide)) (.fn _ _ _ _ rfl rfl) rfl rfl rfl rfl rfl ?_
 refine Jy ?_; refine Qe6 hN rfl (Qfp gL 3 1 gC (by decide) (by decide) (by decide) (by decide)) (.fn _ _ _ _ rfl rfl) rfl rfl rfl rfl rfl ?_
 refine Qou ?_
 refine Km hN [(Qk, 2)] awIn (.fn _ _ _ _ rfl rfl) rfl rfl rfl ⟨rfl, rfl, rfl, trivial⟩ rfl ⟨rfl, rfl, trivial⟩ rfl rfl rfl rfl rfl rfl rfl rfl ?_
 refine QfA ?_; refine zP (Qf rfl rfl rfl 0 rfl _ rfl rfl) ?_; refine Xk ?_
 refine zP (Jb [(Qk, 2), (Qk + 1, 5)] awTi rfl rfl rfl rfl ⟨rfl, rfl, rfl, rfl, rfl, rfl, rfl, rfl, trivial⟩ rfl) ?_; refine XM ?_
 refine zP (Qf rfl rfl rfl 0 rfl _ rfl rfl) ?_; refine zL ?_
 refine Km hN [(Qk, 3)] awHp (.fn _ _ _ _ rfl rfl) rfl rfl rfl ⟨rfl, rfl, rfl, trivial⟩ rfl ⟨rfl, trivial⟩ rfl rfl rfl rfl rfl rfl rfl rfl ?_
 refine QfA ?_; refine zP (Qf rfl rfl rfl 0 rfl _ rfl rfl) ?_; refine Jc ?_; refine zP (Qf rfl rfl rfl 0 rfl _ rfl rfl) ?_; refine zL ?_
 refine Km hN [(Qk, 2), ((Qk + 1), 5)] awHa (.fn _ _ _ _ rfl rfl) rfl rfl rfl ⟨rfl, rfl, rfl, rfl, rfl, rfl, trivial⟩ rfl ⟨rfl, rfl, trivial⟩ rfl rfl rfl rfl rfl rfl rfl rfl ?_
 refine Jy ?_; refine zP (Jb [(Qk, 2)] (Qgr gL { gX with lrn := gA } [] (JJ.of rfl)) rfl rfl rfl rfl ⟨rfl, rfl, rfl, rfl, trivial⟩ rfl) ?_
 refine XM ?_; refine Qg 46 (by kernel_rfl) (by kernel_rfl) ?_; refine Jy ?_; refine zp (Qf rfl rfl rfl 0 rfl _ rfl rfl) ?_; refine Xk ?_
 refine zp (Jb [(Qk, 2)] (Qb9 gL { gX with lrn := gA } Jz [] (JJ.of rfl) gC (gAe.up (by decide))) rfl rfl rfl rfl ⟨rfl, rfl, rfl, rfl, trivial⟩ rfl) ?_
 refine zl ?_; refine zp (Qb (fcb (c := true) (Qau gA gA) ((Jm _ _).2 rfl)) rfl rfl rfl) ?_; refine Qx ?_
 refine zp (Jb [(Qk, 3)] (Qbt gL { Yz gL 3 1 with acc := gA } Jz [] (JJ.of rfl) gC (gAe.up (by decide))) rfl rfl rfl rfl ⟨rfl, rfl, rfl, rfl, trivial⟩ rfl) ?_
 refine zl ?_; refine zp (Qb (fcb (c := true) (Qau gA gA) ((Jm _ _).2 rfl)) rfl rfl rfl) ?_; refine Jc ?_
 refine zp (Jb [(Qk, 2)] (Qh9 gL { gX with lrn := gA } [] (JJ.of rfl)) rfl rfl rfl rfl ⟨rfl, rfl, rfl, rfl, trivial⟩ rfl) ?_; refine Qz ?_
 refine zp (Jb [(Qk, 2)] (Qcd gL { gX with lrn := gA } Jz [] (JJ.of rfl) gC (gBe.up (by decide))) rfl rfl rfl rfl ⟨rfl, rfl, rfl, rfl, trivial⟩ rfl) ?_
 refine zp (Qmw rfl rfl rfl) ?_; refine Qx ?_; change Ql _ _ _ _ _ _; refine zS ?_; refine zQ ?_
 rfl
def stW (l : Qs) (n : Int) : Int :=
 if l.k = 10 ∧ IntKind.i64.wrap (IntKind.i64.wrap (n - 1) - (l.nm.length : Int)) ≥ 0 then IntKind.i64.wrap (IntKind.i64.wrap (IntKind.i64.wrap (n - 1) - (l.nm.length : Int)) - IntKind.i64.wrap ((l.nm.length : Int) * (l.rs.length : Int)))
 else IntKind.i64.wrap (IntKind.i64.wrap (n - 1) - (l.nm.length : Int))
def QgH (g : Qs → Int → Int) : List Qs → Int → Int
 | [], n => n
 | p :: r, n => if n ≥ 0 then QgH g r (g p n) else n
theorem QjD {g : Qs → Int → Int} {n : Int} (h : ¬ n ≥ 0) : ∀ ps : List Qs, QgH g ps n = n
 | [] => rfl
 | p :: r => if_neg h
theorem QiK {g : Qs → Int → Int} {ps : List Qs} {k : Nat} {x : Qs} {n : Int} (hx : ps[k]? = some x) (h : n ≥ 0) : QgH g (ps.drop k) n = QgH g (ps.drop (k + 1)) (g x n) := by
 obtain ⟨hk, rfl⟩ := List.getElem?_eq_some_iff.1 hx
 rw [List.drop_eq_getElem_cons hk]
 exact if_pos h
theorem Qka (l : Qs) (g : Qs → Int → Int) (ih : ∀ p ∈ l.ps, ∀ n : Int, FC Tryz.prog 76 [.agg (QP p), i64 n] (i64 (g p n))) (n : Int) : FC Tryz.prog 76 [.agg (QP l), i64 n] (i64 (QgH g l.ps (stW l n))) := by
 refine Qe [4] Tryz.func76 rfl rfl 47 Tryz.ntmps76 (Nat.le_of_ble_eq_true rfl) ?_
 intro E hN
 refine QfB ?_; refine Yr (⟨[(1, i64 (stW l n)), (2, .ptr 0 0)], [(0, .var 26 (QP l))], 1⟩) ?_ ?_
 ·
  refine Xk ?_
  refine zc 15 ?_ ?_ <;> intro h11
  rotate_left
  ·
   refine QA ?_; refine QN ?_
   exact Qa rfl ⟨(Xe (by simp_all [stW] <;> (intros; omega))), rfl, (Xr trivial)⟩ ⟨rfl, rfl, rfl, trivial⟩
  refine Qz ?_
  refine zq ?_ ?_ <;> intro h12
  rotate_left
  ·
   refine QN ?_
   exact Qa rfl ⟨(Xe (by simp_all [stW] <;> (intros; omega))), rfl, (Xr trivial)⟩ ⟨rfl, rfl, rfl, trivial⟩
  refine Jc ?_; refine Qc ?_
  exact Qa rfl ⟨(Xe (by simp_all [stW] <;> (intros; omega))), rfl, (Xr trivial)⟩ ⟨rfl, rfl, rfl, trivial⟩
 refine Xk ?_
 refine Qo (fun z : {q : Nat × Int // q.1 ≤ l.ps.length ∧ QgH g (l.ps.drop q.1) q.2 = QgH g l.ps (stW l n)} => ⟨[(1, i64 z.1.2), (2, .ptr 0 0), (5, i64 (z.1.1 : Nat))], [(0, .var 26 (QP l))], 1⟩) (fun z => l.ps.length - z.1.1) (⟨(0, stW l n), Nat.zero_le _, by simp⟩) ?_ ?_
 ·
  exact Qa rfl (Ya trivial) ⟨rfl, rfl, rfl, trivial⟩
 rintro ⟨⟨k, m⟩, hk, hr⟩
 dsimp only at hk hr ⊢
 refine Jy ?_
 refine zc 33 ?_ ?_ <;> intro h29
 rotate_left
 ·
  have hge : ¬ k < l.ps.length := by simpa using h29
  obtain rfl : k = l.ps.length := by omega
  rw [List.drop_length] at hr
  refine XM ?_; refine zQ ?_
  exact congrArg (fun z : Int => i64 z) hr
 have hlt : k < l.ps.length := by simpa using h29
 obtain ⟨x, hx⟩ := Qr hlt
 refine Qz ?_
 refine zq ?_ ?_ <;> intro h30
 rotate_left
 ·
  have hm : ¬ m ≥ 0 := by simpa using h30
  rw [QjD hm] at hr
  refine QA ?_; refine zQ ?_
  exact congrArg (fun z : Int => i64 z) hr
 have hm : m ≥ 0 := by simpa using h30
 refine X7 30 rfl (fun hlen => ?_)
 refine Xj ?_; refine zP (Qf rfl rfl rfl k rfl _ (Xv hx) rfl) ?_; refine QC ?_
 refine zP (Qb (ih x (List.mem_of_getElem? hx) m) rfl rfl rfl) ?_; refine Xk ?_; refine Qc ?_
 exact ⟨⟨(k + 1, g x m), hlt, by dsimp only; rw [← QiK hx hm]; exact hr⟩, Qa rfl (Yv ⟨(Xe (by dsimp only; omega)), rfl, trivial⟩) ⟨rfl, rfl, rfl, trivial⟩, by dsimp only; omega⟩
open Classical in
theorem Qeq (l : Qs) : ∃ f : Int → Int, ∀ n : Int, FC Tryz.prog 76 [.agg (QP l), i64 n] (i64 (f n)) := by
 have ih : ∀ p ∈ l.ps, ∃ f : Int → Int, ∀ n : Int, FC Tryz.prog 76 [.agg (QP p), i64 n] (i64 (f n)) := fun p hp => Qeq p
 refine ⟨fun n => QgH (fun p => if h : p ∈ l.ps then Classical.choose (ih p h) else fun _ => 0) l.ps (stW l n), fun n => Qka l _ (fun p hp n => ?_) n⟩
 rw [dif_pos hp]
 exact Classical.choose_spec (ih p hp) n
termination_by l
decreasing_by exact Qs.sizeOf_ps ‹_›
theorem Qna (l : Qs) (f : Int → Int) (hf : ∀ n : Int, FC Tryz.prog 76 [.agg (QP l), i64 n] (i64 (f n))) : FC Tryz.prog 37 [.agg (QP l)] (bl (decide (f 150 ≥ 0))) := by
 refine Qe [2] Tryz.func37 rfl rfl 6 Tryz.ntmps37 (Nat.le_of_ble_eq_true rfl) ?_
 intro E hN
 refine Jf ?_; refine zP (Qb (hf 150) rfl rfl rfl) ?_; refine QC ?_; refine zQ ?_
 rfl
theorem QgP (l : Qs) : ∃ b : Bool, FC Tryz.prog 37 [.agg (QP l)] (bl b) := by
 obtain ⟨f, hf⟩ := Qeq l
 exact ⟨_, Qna l f hf⟩
abbrev rnC (l : Qs) (n self : Int) (a le w : Qt) (num : Int) (has : Bool) (v g : Qt) (ak : AV) (rf : Int) : List AV := [i64 l.k, i64 l.lo, i64 l.hi, XN l.nm, Qf0 l.ps, rus l.rs, i64 n, i64 self, i64 a.N, XN a.nm, J8 a.ps, KU a.es, i64 le.N, XN le.nm, J8 le.ps, KU le.es, i64 w.N, XN w.nm, J8 w.ps, KU w.es, i64 num, bl has, i64 v.N, XN v.nm, J8 v.ps, KU v.es, i64 g.N, XN g.nm, J8 g.ps, KU g.es, ak, i64 rf]
def Qs.zero : Qs := .mk 0 0 0 [] [] []
theorem QkR (l : Qs) (hc : QK l = 0) : FC Tryz.prog 73 [.agg (QP l)] (.tup [.agg (QH (Qm l)), i64 0]) := by
 have h := Qhb l
 rw [J2, if_pos hc] at h
 exact h
theorem QkP (l : Qs) (n self : Int) (hc : QK l = 0) (h1 : 1 ≤ n) (h2 : n ≤ 12) (hs0 : 0 ≤ self) (hs1 : self < n) : FC Tryz.prog 39 [.agg (QP l), i64 n, i64 self] (.tup [.agg (rnC l n self (Qm l) (Qm l) (Qm l) 0 false Qt.zero Qt.zero (.sl [] none) 0), i64 0]) := by
 refine X9 [.c 6 80 32 true, .t 7] ⟨⟨inferInstance, rfl⟩, trivial⟩ Tryz.func39 rfl rfl 43 Tryz.ntmps39 (Nat.le_of_ble_eq_true rfl) ?_
 intro E hN
 refine XM ?_; refine zP (Qb (Wv l) rfl rfl rfl) ?_; refine QC ?_
 refine zc 13 ?_ ?_ <;> intro h8
 ·
  refine QdU ?_; refine Qj ?_
  change (resY _ _).bind AV.fzt = some _
  refine Xs rfl ?_
  exfalso
  first | (simp_all; done) | (simp_all; omega)
 refine Qz ?_
 refine zc 17 ?_ ?_ <;> intro h11
 ·
  refine Qm5 ?_; refine Qj ?_
  change (resY _ _).bind AV.fzt = some _
  refine Xs rfl ?_
  exfalso
  first | (simp_all; done) | (simp_all; omega)
 refine Qz ?_
 refine zc 21 ?_ ?_ <;> intro h14
 ·
  refine QdO ?_; refine Qj ?_
  change (resY _ _).bind AV.fzt = some _
  refine Xs rfl ?_
  exfalso
  first | (simp_all; done) | (simp_all; omega)
 refine Qz ?_
 refine zc 25 ?_ ?_ <;> intro h17
 ·
  refine Jn ?_; refine Qj ?_
  change (resY _ _).bind AV.fzt = some _
  refine Xs rfl ?_
  exfalso
  first | (simp_all; done) | (simp_all; omega)
 refine QA ?_
 refine zq ?_ ?_ <;> intro h20
 ·
  refine Xk ?_; refine Qj ?_
  change (resY _ _).bind AV.fzt = some _
  refine Xs rfl ?_
  exfalso
  first | (simp_all; done) | (simp_all; omega)
 refine Qz ?_; refine zP (Qb (QkR l hc) rfl rfl rfl) ?_; refine QeN ?_; refine Qj ?_
 change (resY _ _).bind AV.fzt = some _
 refine Xs rfl ?_
 rfl
theorem Qi4 (l : Qs) (n self : Int) (hbad : ¬ QK l = 0 ∨ n < 1 ∨ 12 < n ∨ self < 0 ∨ n ≤ self) : FC Tryz.prog 39 [.agg (QP l), i64 n, i64 self] (.tup [.agg (rnC Qs.zero 0 0 Qt.zero Qt.zero Qt.zero 0 false Qt.zero Qt.zero (.sl [] none) 0), i64 1]) := by
 refine X9 [.c 6 80 32 true, .t 7] ⟨⟨inferInstance, rfl⟩, trivial⟩ Tryz.func39 rfl rfl 43 Tryz.ntmps39 (Nat.le_of_ble_eq_true rfl) ?_
 intro E hN
 refine XM ?_; refine zP (Qb (Wv l) rfl rfl rfl) ?_; refine QC ?_
 refine zc 13 ?_ ?_ <;> intro h8
 ·
  refine QdU ?_; refine Qj ?_
  change (resY _ _).bind AV.fzt = some _
  refine Xs rfl ?_
  rfl
 refine Qz ?_
 refine zc 17 ?_ ?_ <;> intro h11
 ·
  refine Qm5 ?_; refine Qj ?_
  change (resY _ _).bind AV.fzt = some _
  refine Xs rfl ?_
  rfl
 refine Qz ?_
 refine zc 21 ?_ ?_ <;> intro h14
 ·
  refine QdO ?_; refine Qj ?_
  change (resY _ _).bind AV.fzt = some _
  refine Xs rfl ?_
  rfl
 refine Qz ?_
 refine zc 25 ?_ ?_ <;> intro h17
 ·
  refine Jn ?_; refine Qj ?_
  change (resY _ _).bind AV.fzt = some _
  refine Xs rfl ?_
  rfl
 refine QA ?_
 refine zq ?_ ?_ <;> intro h20
 ·
  refine Xk ?_; refine Qj ?_
  change (resY _ _).bind AV.fzt = some _
  refine Xs rfl ?_
  rfl
 exfalso
 first | (simp_all; done) | (simp_all; omega)
theorem Qlv (l : Qs) (n self : Int) (hbad : ¬ QK l = 0 ∨ n < 1 ∨ 12 < n ∨ self < 0 ∨ n ≤ self) : FC Tryz.prog 13 [.agg (QP l), i64 n, i64 self] (bl true) := by
 obtain ⟨lb, hlb⟩ := QgP l
 refine Qe [6] Tryz.func13 rfl rfl 89 Tryz.ntmps13 (Nat.le_of_ble_eq_true rfl) ?_
 intro E hN
 refine Jf ?_; refine zP (Qb QcR rfl rfl rfl) ?_; refine Jf ?_; refine zP (Qb hlb rfl rfl rfl) ?_; refine QC ?_
 refine zq ?_ ?_ <;> intro h6
 ·
  refine Qx ?_; refine zQ ?_
  rfl
 refine Xk ?_; refine zP (Qb (QlU l n self hbad) rfl rfl rfl) ?_; refine Jc ?_; refine zP (Qb (Qi4 l n self hbad) rfl rfl rfl) ?_
 refine QdU ?_; refine Yb ?_; refine zQ ?_
 rfl
theorem Qm0 (l : Qs) (n self : Int) (hc : QK l = 0) (h1 : 1 ≤ n) (h2 : n ≤ 12) (hs0 : 0 ≤ self) (hs1 : self < n) : FC Tryz.prog 13 [.agg (QP l), i64 n, i64 self] (bl true) := by
 obtain ⟨lb, hlb⟩ := QgP l
 have hb := El.bot (Xg hc)
 refine Qe [6] Tryz.func13 rfl rfl 89 Tryz.ntmps13 (Nat.le_of_ble_eq_true rfl) ?_
 intro E hN
 refine Jf ?_; refine zP (Qb QcR rfl rfl rfl) ?_; refine Jf ?_; refine zP (Qb hlb rfl rfl rfl) ?_; refine QC ?_
 refine zq ?_ ?_ <;> intro h6
 ·
  refine Qx ?_; refine zQ ?_
  rfl
 refine Xk ?_; refine Qe6 hN rfl (Qfp l n self hc h1 h2 hs0 hs1) (.fn _ _ _ _ rfl rfl) rfl rfl rfl rfl rfl ?_; refine Jc ?_
 refine zP (Qb (QkP l n self hc h1 h2 hs0 hs1) rfl rfl rfl) ?_; refine Qoh ?_
 refine zP (Jb [(Qk, 1)] (Qgr l (Yz l n self) [] (JJ.of rfl)) rfl rfl rfl rfl ⟨rfl, rfl, rfl, rfl, trivial⟩ rfl) ?_; refine XM ?_
 refine Qg 40 (by kernel_rfl) (by kernel_rfl) ?_; refine QC ?_
 refine zp (Jb [(Qk, 1)] (Qbt l (Yz l n self) Jz [] (JJ.of rfl) hc (hb.up (by decide))) rfl rfl rfl rfl ⟨rfl, rfl, rfl, rfl, trivial⟩ rfl) ?_
 refine zp (Qb (fcb (c := true) (Wt l (Qm l) hc) ((Jm _ _).2 rfl)) rfl rfl rfl) ?_; refine Qx ?_
 refine zp (Jb [(Qk, 1)] (Qb9 l (Yz l n self) Jz [] (JJ.of rfl) hc (hb.up (by decide))) rfl rfl rfl rfl ⟨rfl, rfl, rfl, rfl, trivial⟩ rfl) ?_
 refine zp (Qb (fcb (c := true) (Wt l (Qm l) hc) ((Jm _ _).2 rfl)) rfl rfl rfl) ?_; refine Qz ?_
 refine zp (Jb [(Qk, 1)] (Qcd l (Yz l n self) Jz [] (JJ.of rfl) hc (hb.up (by decide))) rfl rfl rfl rfl ⟨rfl, rfl, rfl, rfl, trivial⟩ rfl) ?_
 refine zp (Qb (fcb (c := true) (Wt l (Qm l) hc) ((Jm _ _).2 rfl)) rfl rfl rfl) ?_; refine Qx ?_
 refine zp (Ko rfl rfl rfl) ?_; refine zp (Qb (fcb (c := true) (Qau Qt.zero Qt.zero) ((Jm _ _).2 rfl)) rfl rfl rfl) ?_
 refine Jc ?_; refine zp (Jb [(Qk, 1)] (Qh9 l (Yz l n self) [] (JJ.of rfl)) rfl rfl rfl rfl ⟨rfl, rfl, rfl, rfl, trivial⟩ rfl) ?_
 refine Qz ?_
 refine zp (Jb [(Qk, 1)] (Qkv l (Yz l n self) [] (JJ.of rfl) hc ((Jm _ _).2 rfl)) rfl rfl rfl rfl ⟨rfl, rfl, rfl, rfl, trivial⟩ rfl) ?_
 refine Qx ?_; change Ql _ _ _ _ _ _; refine zS ?_; refine zQ ?_
 rfl
theorem QhB (l : Qs) (n self : Int) : FC Tryz.prog 13 [.agg (QP l), i64 n, i64 self] (bl true) := by
 by_cases h : ¬ QK l = 0 ∨ n < 1 ∨ 12 < n ∨ self < 0 ∨ n ≤ self
 ·exact Qlv l n self h
 exact Qm0 l n self (by by_cases hc : QK l = 0; exact hc; exact absurd (.inl hc) h) (by omega) (by omega) (by omega) (by omega)
end Go.Proofs.YtnkkokmmeplbgaaGreat
