/-
  Contracts of the reference: the acceptor; ballots.
-/
import Derived.Test.YtnkkokmmeplbgaaGreatN2
import Derived.Test.YtnkkokmmeplbgaaGreatA11
import Derived.Test.YtnkkokmmeplbgaaGreatS1
import Derived.Test.YtnkkokmmeplbgaaGreatT5
namespace Go.Proofs.YtnkkokmmeplbgaaGreat
set_option maxRecDepth 100000
set_option maxHeartbeats 1000000
open Go.RowKit
theorem Qgr (l : Qs) (s : Nd) (R : List (Nat × Qi)) (hH : JJ ((Qk, .var 131 (X6 l s Jz)) :: R)) : GC Tryz.prog 46 [.ptr Qk 0] ((Qk, .var 131 (X6 l s Jz)) :: R) (.tup [.agg (QH Qt.zero), i64 0, bl false]) ((Qk, .var 131 (X6 l s Jz)) :: R) := by
 refine Yo [.c 2 30 4 true, .t 3, .t 4] ⟨⟨inferInstance, rfl⟩, trivial⟩ Tryz.func46 rfl rfl 24 Tryz.ntmps46 (Nat.le_of_ble_eq_true rfl) ?_
 intro E hN
 refine XM ?_; refine zP (QE rfl rfl rfl) ?_; refine QC ?_; refine zP (Qca rfl (by kernel_rfl) rfl rfl (.inl ⟨rfl, rfl⟩) (.inl ⟨rfl, rfl⟩)) ?_
 refine Jy ?_; refine Qj ?_
 change (resY _ _).bind AV.fzt = some _ ∧ _
 refine Qa4 hH (by repeat (first | exact hH.p0 | refine hH.pre rfl ?_)) rfl ?_
 rfl
theorem Qh9 (l : Qs) (s : Nd) (R : List (Nat × Qi)) (hH : JJ ((Qk, .var 131 (X6 l s Jz)) :: R)) : GC Tryz.prog 48 [.ptr Qk 0] ((Qk, .var 131 (X6 l s Jz)) :: R) (i64 0) ((Qk, .var 131 (X6 l s Jz)) :: R) := by
 refine JK [2] Tryz.func48 rfl rfl 15 Tryz.ntmps48 (Nat.le_of_ble_eq_true rfl) ?_
 intro E hN
 refine Jf ?_; refine zP (QE rfl rfl rfl) ?_; refine QC ?_; refine zP (Qca rfl (by kernel_rfl) rfl rfl (.inl ⟨rfl, rfl⟩) (.inl ⟨rfl, rfl⟩)) ?_
 refine Xk ?_; refine Qj ?_
 change (XP _ _).fzt = some _ ∧ _
 refine Qck hH (by repeat (first | exact hH.p0 | refine hH.pre rfl ?_)) rfl ?_
 rfl
theorem Qkv (l : Qs) (s : Nd) (R : List (Nat × Qi)) (hH : JJ ((Qk, .var 131 (X6 l s Jz)) :: R)) (hc : QK l = 0) (hw : eqV s.lrn (Qm l) = true) : GC Tryz.prog 44 [.ptr Qk 0] ((Qk, .var 131 (X6 l s Jz)) :: R) (.sl [] none) ((Qk, .var 131 (X6 l s Jz)) :: R) := by
 refine JK [2] Tryz.func44 rfl rfl 73 Tryz.ntmps44 (Nat.le_of_ble_eq_true rfl) ?_
 intro E hN
 refine Xj ?_; refine zP (QE rfl rfl rfl) ?_; refine Jf ?_; refine Qg 13 (by kernel_rfl) (by kernel_rfl) ?_; refine zl ?_
 refine zp (Qca rfl (by kernel_rfl) rfl rfl (.inl ⟨rfl, rfl⟩) (.inl ⟨rfl, rfl⟩)) ?_; refine QC ?_; refine zp (QE rfl rfl rfl) ?_; refine Qx ?_
 refine zp (QE rfl rfl rfl) ?_; refine QC ?_; refine zp (Qb (fcb (Qey l s.lrn hc) hw) rfl rfl rfl) ?_; refine Yb ?_
 change Ql _ _ _ _ _ _; refine Xj ?_; refine Qj ?_
 change (XP _ _).fzt = some _ ∧ _
 refine Qck hH (by repeat (first | exact hH.p0 | refine hH.pre rfl ?_)) rfl ?_
 rfl
theorem Qk1 (l : Qs) (s : Nd) (p : Pp) (i : Nat) (hi : i < 12) : GC Tryz.prog 96 [i64 i, .ptr (Qk + 2) 0] [(Qk, .var 131 (X6 l s (.ptr (Qk + 1) 0))), ((Qk + 1), .var 137 (Kn p)), (Qk + 2, .var 129 [.ptr (Qk + 1) 0])] (bl (!p.ack i)) [(Qk, .var 131 (X6 l s (.ptr (Qk + 1) 0))), ((Qk + 1), .var 137 (Kn p)), (Qk + 2, .var 129 [.ptr (Qk + 1) 0])] := by
 have hH : JJ [(Qk, .var 131 (X6 l s (.ptr (Qk + 1) 0))), ((Qk + 1), .var 137 (Kn p)), (Qk + 2, .var 129 [.ptr (Qk + 1) 0])] := JJ.of rfl
 refine JK [3] Tryz.func96 rfl rfl 11 Tryz.ntmps96 (Nat.le_of_ble_eq_true rfl) ?_
 intro E hN
 refine Jf ?_; refine zP (QE rfl rfl rfl) ?_; refine zF ?_; refine zP (QkM rfl rfl rfl i rfl hi rfl rfl) ?_
 refine zP (Qdv rfl rfl (QoC hi rfl) rfl rfl) ?_; refine Qx ?_; refine Qj ?_
 change (XP _ _).fzt = some _ ∧ _
 refine Qck hH (by repeat (first | exact hH.p0 | refine hH.pre rfl ?_)) rfl ?_
 rfl
theorem Qkk (l : Qs) (s : Nd) (p : Pp) (hc : QK l = 0) (h1 : 1 ≤ s.n) (h2 : s.n ≤ 12) (hv : El l 100000 p.v) (hg : Qv p.g l = true) (hle : Q0 l p.g p.v = true) : GC Tryz.prog 44 [.ptr Qk 0] [(Qk, .var 131 (X6 l s (.ptr (Qk + 1) 0))), ((Qk + 1), .var 137 (Kn p))] (QdL (Qdz s p (fun i => !p.ack i))) [(Qk, .var 131 (X6 l s (.ptr (Qk + 1) 0))), ((Qk + 1), .var 137 (Kn p))] := by
 have hH : JJ [(Qk, .var 131 (X6 l s (.ptr (Qk + 1) 0))), ((Qk + 1), .var 137 (Kn p))] := JJ.of rfl
 refine JK [2] Tryz.func44 rfl rfl 73 Tryz.ntmps44 (Nat.le_of_ble_eq_true rfl) ?_
 intro E hN
 refine Xj ?_; refine zP (QE rfl rfl rfl) ?_; refine Jf ?_; refine Qg 13 (by kernel_rfl) (by kernel_rfl) ?_; refine zl ?_
 refine zp (Qca rfl (by kernel_rfl) rfl rfl (.inr ⟨_, _, _, _, rfl, rfl, rfl⟩) (.inl ⟨rfl, rfl⟩)) ?_; refine Jc ?_; change Ql _ _ _ _ _ _
 refine Xk ?_; refine zP (Qca rfl (by kernel_rfl) rfl rfl (.inr ⟨_, _, _, _, rfl, rfl, rfl⟩) (.inl ⟨rfl, rfl⟩)) ?_; refine Qz ?_
 refine Qg 13 (by kernel_rfl) (by kernel_rfl) ?_; refine zm ?_; refine zp (QE rfl rfl rfl) ?_; refine Qx ?_; refine zp (QE rfl rfl rfl) ?_
 refine Qx ?_; refine zp (QE rfl rfl rfl) ?_; refine QC ?_; refine zp (Qb (fcb (Qe5 l hc hg hv.1) hle) rfl rfl rfl) ?_
 change Ql _ _ _ _ _ _; refine Xk ?_; refine zP (Qho rfl rfl) ?_
 refine Km hN [(Qk, Qk), ((Qk + 1), (Qk + 1)), ((Qk + 2), 0)] (Qf2 l s p [(Qk + 2, .var 129 [.ptr (Qk + 1) 0])] (JJ.of rfl) hc h1 h2 hv (fun i => !p.ack i) 96 [.ptr (Qk + 2) 0] (fun i hi => Qk1 l s p i hi) rfl rfl rfl) (.fn _ _ _ _ rfl rfl) rfl rfl rfl ⟨rfl, rfl, rfl, rfl, rfl, rfl, rfl, rfl, rfl, trivial⟩ rfl ⟨QjO (Yd _), rfl, rfl, rfl, trivial⟩ rfl (QkK (Yd _) rfl rfl rfl) rfl rfl rfl rfl rfl rfl ?_
 refine zT ?_; refine QF (Yt 2 2 rfl rfl (by rw [List.length_map]) (QcI _) (Yd _) rfl) ?_; refine Qj ?_
 change (XP _ _).fzt = some _ ∧ _
 refine QnZ rfl ?_ rfl ?_ rfl rfl ?_ rfl
 all_goals rfl
def Yz (l : Qs) (n self : Int) : Nd := ⟨n, self, Qm l, Qm l, Qm l, 0⟩
def QeL (n self : Int) : Nd := ⟨n, self, Qt.zero, Qt.zero, Qt.zero, 0⟩
theorem Qfp (l : Qs) (n self : Int) (hc : QK l = 0) (h1 : 1 ≤ n) (h2 : n ≤ 12) (hs0 : 0 ≤ self) (hs1 : self < n) : FN Tryz.prog 38 [.agg (QP l), i64 n, i64 self] 131 (X6 l (Yz l n self) Jz) (i64 0) := by
 refine Qjm 6 7 Tryz.func38 rfl rfl 50 Tryz.ntmps38 (Nat.le_of_ble_eq_true rfl) ?_
 intro E hN
 refine XM ?_; refine zP (Qb (K9 l) rfl rfl rfl) ?_; refine QC ?_
 refine zc 12 ?_ ?_ <;> intro h7
 ·
  refine Qoh ?_; refine Qj ?_
  exfalso
  first | (simp_all; done) | (simp_all; omega)
 refine Qz ?_
 refine zc 16 ?_ ?_ <;> intro h8
 ·
  refine QeN ?_; refine Qj ?_
  exfalso
  first | (simp_all; done) | (simp_all; omega)
 refine Qz ?_
 refine zc 20 ?_ ?_ <;> intro h9
 ·
  refine QfB ?_; refine Qj ?_
  exfalso
  first | (simp_all; done) | (simp_all; omega)
 refine Qz ?_
 refine zc 24 ?_ ?_ <;> intro h10
 ·
  refine Jc ?_; refine Qj ?_
  exfalso
  first | (simp_all; done) | (simp_all; omega)
 refine QA ?_
 refine zq ?_ ?_ <;> intro h11
 ·
  refine QA ?_; refine Qj ?_
  exfalso
  first | (simp_all; done) | (simp_all; omega)
 refine Jc ?_
 refine QF (Qet 1 (cs' := X6 l (QeL n self) Jz) rfl (by repeat (first | exact trivial | refine ⟨.inl rfl, ?_⟩ | refine ⟨.inr ⟨rfl, rfl⟩, ?_⟩))) ?_
 refine QA ?_
 refine zP (Jb [(Qk, 1)] (KF l (QeL n self) Jz [] (JJ.of rfl) hc) rfl rfl rfl rfl ⟨rfl, rfl, rfl, rfl, trivial⟩ rfl) ?_
 refine zM ?_
 refine zP (Jb [(Qk, 1)] (KF l (QeL n self) Jz [] (JJ.of rfl) hc) rfl rfl rfl rfl ⟨rfl, rfl, rfl, rfl, trivial⟩ rfl) ?_
 refine zM ?_
 refine zP (Jb [(Qk, 1)] (KF l (QeL n self) Jz [] (JJ.of rfl) hc) rfl rfl rfl rfl ⟨rfl, rfl, rfl, rfl, trivial⟩ rfl) ?_
 refine zP (QE rfl rfl rfl) ?_; refine QC ?_; refine zP (QE rfl rfl rfl) ?_; refine QC ?_; refine zP (QE rfl rfl rfl) ?_; refine Jy ?_
 refine Qj ?_
 exact ⟨1, _, _, rfl, rfl, rfl, rfl, rfl⟩
theorem QlU (l : Qs) (n self : Int) (hbad : ¬ QK l = 0 ∨ n < 1 ∨ 12 < n ∨ self < 0 ∨ n ≤ self) : FC Tryz.prog 38 [.agg (QP l), i64 n, i64 self] (.tup [.p (.pointer none), i64 1]) := by
 refine Qe [6, 7] Tryz.func38 rfl rfl 50 Tryz.ntmps38 (Nat.le_of_ble_eq_true rfl) ?_
 intro E hN
 refine XM ?_; refine zP (Qb (K9 l) rfl rfl rfl) ?_; refine QC ?_
 refine zc 12 ?_ ?_ <;> intro h7
 ·
  refine Qou ?_; refine zQ ?_
  rfl
 refine Qz ?_
 refine zc 16 ?_ ?_ <;> intro h8
 ·
  refine QfA ?_; refine zQ ?_
  rfl
 refine Qz ?_
 refine zc 20 ?_ ?_ <;> intro h9
 ·
  refine KJ ?_; refine zQ ?_
  rfl
 refine Qz ?_
 refine zc 24 ?_ ?_ <;> intro h10
 ·
  refine XM ?_; refine zQ ?_
  rfl
 refine QA ?_
 refine zq ?_ ?_ <;> intro h11
 ·
  refine Qz ?_; refine zQ ?_
  rfl
 exfalso
 first | (simp_all; done) | (simp_all; omega)
theorem Qi8 (l : Qs) (s : Nd) (v : Qt) (hc : QK l = 0) (h1 : 2 ≤ s.n) (h2 : s.n ≤ 12) (hs0 : 0 ≤ s.self) (hs1 : s.self < 12) (hn0 : 0 ≤ s.num) (hn1 : s.num ≤ 1000000) (ha : El l 50000 s.acc) (hw : El l 40000 s.wt) (hv : Ka l v = true) (he : El l 1000 v) : GX Tryz.prog 40 [.ptr Qk 0, .agg (QH v)] [(Qk, .var 131 (X6 l s Jz))] (.tup [QdL (Qdz (Qf8 l { s with wt := QD l s.wt v }) (Qf6 l { s with wt := QD l s.wt v }) QbG), i64 0]) [(Qk, .var 131 (X6 l (Qf8 l { s with wt := QD l s.wt v }) (.ptr 1 0))), (1, .var 137 (Kn (Qf6 l { s with wt := QD l s.wt v })))] 4 := by
 have hH : JJ [(Qk, .var 131 (X6 l s Jz))] := JJ.of rfl
 have hj : El l 50000 (QD l s.wt v) := (hw.join (Xg hc) (by omega) he).up (by decide)
 refine JH [4, 5] Tryz.func40 rfl rfl 31 Tryz.ntmps40 (Nat.le_of_ble_eq_true rfl) ?_
 intro E hN
 refine Jf ?_; refine Qg 6 (by kernel_rfl) (by kernel_rfl) ?_; refine zm ?_; refine zp (QE rfl rfl rfl) ?_; refine Qx ?_
 refine zp (Qb (fcb (Qb2 l v) hv) rfl rfl rfl) ?_; change Ql _ _ _ _ _ _; refine QA ?_
 refine Qg 11 (by kernel_rfl) (by kernel_rfl) ?_; refine Qx ?_; refine zp (QE rfl rfl rfl) ?_; refine Qx ?_
 refine zp (Kq rfl rfl rfl rfl (by exact rfl) (by decide) (by decide) (Qdj s.wt v)) ?_
 refine zp (JP hH (QbL l s Jz [] hH hc (hw.up (by decide)) (he.up (by decide))) rfl rfl rfl (by repeat (first | exact hH.p0 | refine hH.pre rfl ?_))) ?_
 refine zp (QE rfl rfl rfl) ?_; refine zf ?_; change Ql _ _ _ _ _ _; refine Xk ?_; refine zP (QE rfl rfl rfl) ?_; refine QC ?_
 refine zP (Qca rfl (by kernel_rfl) rfl rfl (.inl ⟨rfl, rfl⟩) (.inr ⟨rfl, rfl⟩)) ?_; refine Xk ?_
 refine Km hN [(Qk, Qk)] (QmV l { s with wt := QD l s.wt v } hc h1 h2 hs0 hs1 hn0 hn1 ha hj) (.fn _ _ _ _ rfl rfl) rfl rfl rfl ⟨rfl, rfl, rfl, trivial⟩ rfl ⟨rfl, rfl, trivial⟩ rfl rfl rfl rfl rfl rfl rfl rfl ?_
 refine Qx ?_; refine Qj ?_
 change (XP _ _).ntt = _ ∧ _
 refine Qci rfl ?_ rfl rfl rfl ⟨rfl, rfl, rfl, rfl, rfl, rfl, trivial⟩
 rfl
theorem WM {a b : Bool} (h : a = b) : some (bl a) = some (bl b) := by rw [h]
def cB1 (m : Bal) : Bool := decide (m.k < 1) || decide (m.k > 4)
def cB2 (s : Nd) (m : Bal) : Bool := decide (m.f < 0) || decide (m.f ≥ s.n) || (m.f == s.self) || (m.t != s.self)
def cB3 (m : Bal) : Bool := (m.k == 4) && (m.n != 0)
def cB4 (m : Bal) : Bool := (m.k != 4) && decide (m.n < 1)
def cB5 (m : Bal) : Bool := (m.k == 2) && !eqV m.v Qt.zero
def cB6 (l : Qs) (m : Bal) : Bool := (m.k != 2) && !Ka l m.v
def QcS (s : Nd) (m : Bal) : Bool := cB1 m || cB2 s m || cB3 m || cB4 m || cB5 m
def Qfc (l : Qs) (s : Nd) (m : Bal) : Int := if QcS s m then 1 else if cB6 l m then 4 else 0
theorem Qmp {l : Qs} {s : Nd} {m : Bal} (h : Qfc l s m = 0) : QcS s m = false ∧ cB6 l m = false := by
 unfold Qfc at h
 cases h1 : QcS s m <;> cases h2 : cB6 l m <;> simp_all
theorem Qhi {l : Qs} {s : Nd} {m : Bal} (h : Qfc l s m = 0) : 1 ≤ m.k ∧ m.k ≤ 4 ∧ 0 ≤ m.f ∧ m.f < s.n ∧ m.f ≠ s.self ∧ m.t = s.self := by
 have h1 := (Qmp h).1
 simp [QcS, cB1, cB2] at h1
 omega
theorem Qij (l : Qs) (s : Nd) (x : AV) (R : List (Nat × Qi)) (hH : JJ ((Qk, .var 131 (X6 l s x)) :: R)) (m : Bal) : GC Tryz.prog 83 [.ptr Qk 0, .agg (K0 m)] ((Qk, .var 131 (X6 l s x)) :: R) (i64 (Qfc l s m)) ((Qk, .var 131 (X6 l s x)) :: R) := by
 refine JK [4] Tryz.func83 rfl rfl 84 Tryz.ntmps83 (Nat.le_of_ble_eq_true rfl) ?_
 intro E hN
 refine Xj ?_
 refine Yr (⟨[(0, .ptr Qk 0), (3, .ptr 0 0), (5, bl (QcS s m))], (0, .var 54 (K0 m)) :: ((Qk, .var 131 (X6 l s x)) :: R), 1⟩) ?_ ?_
 ·
  refine Yr (⟨[(0, .ptr Qk 0), (3, .ptr 0 0), (5, bl (cB1 m))], (0, .var 54 (K0 m)) :: ((Qk, .var 131 (X6 l s x)) :: R), 1⟩) ?_ ?_
  ·
   refine QA ?_
   refine zc 9 ?_ ?_ <;> intro h6
   ·
    refine QA ?_; refine Qc ?_
    exact QO (pre := [(0, _)]) hH rfl rfl ⟨rfl, rfl, rfl, rfl, (WM (by simp_all [cB1] <;> (intros; omega))), rfl, trivial⟩ ⟨rfl, rfl, rfl, trivial⟩ (by repeat (first | exact hH.p0 | refine hH.pre rfl ?_))
   refine QA ?_; refine Qc ?_
   exact QO (pre := [(0, _)]) hH rfl rfl ⟨rfl, rfl, rfl, rfl, (WM (by simp_all [cB1] <;> (intros; omega))), rfl, trivial⟩ ⟨rfl, rfl, rfl, trivial⟩ (by repeat (first | exact hH.p0 | refine hH.pre rfl ?_))
  refine zq ?_ ?_ <;> intro h12
  ·
   refine QN ?_
   exact QO (pre := [(0, _)]) hH rfl rfl ⟨rfl, rfl, rfl, rfl, (WM (by simp_all [QcS, cB5] <;> (intros; omega))), rfl, trivial⟩ ⟨rfl, rfl, rfl, trivial⟩ (by repeat (first | exact hH.p0 | refine hH.pre rfl ?_))
  refine Yr (⟨[(0, .ptr Qk 0), (3, .ptr 0 0), (5, bl (cB2 s m))], (0, .var 54 (K0 m)) :: ((Qk, .var 131 (X6 l s x)) :: R), 1⟩) ?_ ?_
  ·
   refine Qg 30 (by kernel_rfl) (by kernel_rfl) ?_; refine Qz ?_
   refine zd 17 ?_ ?_ <;> intro h15
   ·
    refine QdU ?_; refine QC ?_; change Ql _ _ _ _ _ _; refine zS ?_; refine Qc ?_
    exact QO (pre := [(0, _)]) hH rfl rfl ⟨rfl, rfl, rfl, rfl, (WM (by simp_all [cB2] <;> (intros; omega))), rfl, trivial⟩ ⟨rfl, rfl, rfl, trivial⟩ (by repeat (first | exact hH.p0 | refine hH.pre rfl ?_))
   refine Qx ?_; refine vP (XF h15) (QE rfl rfl rfl) ?_; refine QA ?_
   refine zd 26 ?_ ?_ <;> intro h20
   ·
    refine QmG ?_; change Ql _ _ _ _ _ _; refine zS ?_; refine Qc ?_
    exact QO (pre := [(0, _)]) hH rfl rfl ⟨rfl, rfl, rfl, rfl, (WM (by simp_all [cB2] <;> (intros; omega))), rfl, trivial⟩ ⟨rfl, rfl, rfl, trivial⟩ (by repeat (first | exact hH.p0 | refine hH.pre rfl ?_))
   refine Qx ?_; refine vP (XF h20) (QE rfl rfl rfl) ?_; refine QA ?_
   refine zd 35 ?_ ?_ <;> intro h25
   ·
    refine Jf ?_; change Ql _ _ _ _ _ _; refine zS ?_; refine Qc ?_
    exact QO (pre := [(0, _)]) hH rfl rfl ⟨rfl, rfl, rfl, rfl, (WM (by simp_all [cB2] <;> (intros; omega))), rfl, trivial⟩ ⟨rfl, rfl, rfl, trivial⟩ (by repeat (first | exact hH.p0 | refine hH.pre rfl ?_))
   refine Qx ?_; refine vP (XF h25) (QE rfl rfl rfl) ?_; refine Qz ?_; change Ql _ _ _ _ _ _; refine zS ?_; refine Qc ?_
   exact QO (pre := [(0, _)]) hH rfl rfl ⟨rfl, rfl, rfl, rfl, (WM (by simp_all [cB2] <;> (intros; omega))), rfl, trivial⟩ ⟨rfl, rfl, rfl, trivial⟩ (by repeat (first | exact hH.p0 | refine hH.pre rfl ?_))
  refine zq ?_ ?_ <;> intro h33
  ·
   refine QN ?_
   exact QO (pre := [(0, _)]) hH rfl rfl ⟨rfl, rfl, rfl, rfl, (WM (by simp_all [QcS, cB5] <;> (intros; omega))), rfl, trivial⟩ ⟨rfl, rfl, rfl, trivial⟩ (by repeat (first | exact hH.p0 | refine hH.pre rfl ?_))
  refine Yr (⟨[(0, .ptr Qk 0), (3, .ptr 0 0), (5, bl (cB3 m))], (0, .var 54 (K0 m)) :: ((Qk, .var 131 (X6 l s x)) :: R), 1⟩) ?_ ?_
  ·
   refine QA ?_
   refine zc 47 ?_ ?_ <;> intro h36
   ·
    refine QA ?_; refine Qc ?_
    exact QO (pre := [(0, _)]) hH rfl rfl ⟨rfl, rfl, rfl, rfl, (WM (by simp_all [cB3] <;> (intros; omega))), rfl, trivial⟩ ⟨rfl, rfl, rfl, trivial⟩ (by repeat (first | exact hH.p0 | refine hH.pre rfl ?_))
   refine QA ?_; refine Qc ?_
   exact QO (pre := [(0, _)]) hH rfl rfl ⟨rfl, rfl, rfl, rfl, (WM (by simp_all [cB3] <;> (intros; omega))), rfl, trivial⟩ ⟨rfl, rfl, rfl, trivial⟩ (by repeat (first | exact hH.p0 | refine hH.pre rfl ?_))
  refine zq ?_ ?_ <;> intro h42
  ·
   refine QN ?_
   exact QO (pre := [(0, _)]) hH rfl rfl ⟨rfl, rfl, rfl, rfl, (WM (by simp_all [QcS, cB5] <;> (intros; omega))), rfl, trivial⟩ ⟨rfl, rfl, rfl, trivial⟩ (by repeat (first | exact hH.p0 | refine hH.pre rfl ?_))
  refine Yr (⟨[(0, .ptr Qk 0), (3, .ptr 0 0), (5, bl (cB4 m))], (0, .var 54 (K0 m)) :: ((Qk, .var 131 (X6 l s x)) :: R), 1⟩) ?_ ?_
  ·
   refine QA ?_
   refine zc 55 ?_ ?_ <;> intro h45
   ·
    refine QA ?_; refine Qc ?_
    exact QO (pre := [(0, _)]) hH rfl rfl ⟨rfl, rfl, rfl, rfl, (WM (by simp_all [cB4] <;> (intros; omega))), rfl, trivial⟩ ⟨rfl, rfl, rfl, trivial⟩ (by repeat (first | exact hH.p0 | refine hH.pre rfl ?_))
   refine QA ?_; refine Qc ?_
   exact QO (pre := [(0, _)]) hH rfl rfl ⟨rfl, rfl, rfl, rfl, (WM (by simp_all [cB4] <;> (intros; omega))), rfl, trivial⟩ ⟨rfl, rfl, rfl, trivial⟩ (by repeat (first | exact hH.p0 | refine hH.pre rfl ?_))
  refine zq ?_ ?_ <;> intro h51
  ·
   refine QN ?_
   exact QO (pre := [(0, _)]) hH rfl rfl ⟨rfl, rfl, rfl, rfl, (WM (by simp_all [QcS, cB5] <;> (intros; omega))), rfl, trivial⟩ ⟨rfl, rfl, rfl, trivial⟩ (by repeat (first | exact hH.p0 | refine hH.pre rfl ?_))
  refine QA ?_
  refine zc 63 ?_ ?_ <;> intro h54
  ·
   refine QC ?_; refine uP (Xo h54) (Ko rfl rfl rfl) ?_; refine uP (Xo h54) (Qb (QbN m.v Qt.zero) rfl rfl rfl) ?_; refine Qx ?_
   refine Qc ?_
   exact QO (pre := [(0, _)]) hH rfl rfl ⟨rfl, rfl, rfl, rfl, (WM (by simp_all [QcS, cB5] <;> (intros; omega))), rfl, trivial⟩ ⟨rfl, rfl, rfl, trivial⟩ (by repeat (first | exact hH.p0 | refine hH.pre rfl ?_))
  refine Xj ?_; refine Qc ?_
  exact QO (pre := [(0, _)]) hH rfl rfl ⟨rfl, rfl, rfl, rfl, (WM (by simp_all [QcS, cB5] <;> (intros; omega))), rfl, trivial⟩ ⟨rfl, rfl, rfl, trivial⟩ (by repeat (first | exact hH.p0 | refine hH.pre rfl ?_))
 refine zq ?_ ?_ <;> intro h61
 ·
  refine Qz ?_; refine Qj ?_
  change (XP _ _).fzt = some _ ∧ _
  refine Qck hH (by repeat (first | exact hH.p0 | refine hH.pre rfl ?_)) rfl ?_
  simp_all [Qfc]
 refine Yr (⟨[(0, .ptr Qk 0), (3, .ptr 0 0), (70, bl (cB6 l m))], (0, .var 54 (K0 m)) :: ((Qk, .var 131 (X6 l s x)) :: R), 1⟩) ?_ ?_
 ·
  refine Qg 13 (by kernel_rfl) (by kernel_rfl) ?_; refine Qz ?_
  refine zd 74 ?_ ?_ <;> intro h64
  ·
   refine Yb ?_; refine vP (Xo h64) (QE rfl rfl rfl) ?_; refine Qz ?_; refine vP (Xo h64) (Qb (Qb2 l m.v) rfl rfl rfl) ?_
   refine QC ?_; change Ql _ _ _ _ _ _; refine zS ?_; refine Qc ?_
   exact QO (pre := [(0, _)]) hH rfl rfl ⟨rfl, rfl, rfl, rfl, (WM (by simp_all [cB6] <;> (intros; omega))), rfl, trivial⟩ ⟨rfl, rfl, rfl, trivial⟩ (by repeat (first | exact hH.p0 | refine hH.pre rfl ?_))
  refine Jy ?_; change Ql _ _ _ _ _ _; refine zS ?_; refine Qc ?_
  exact QO (pre := [(0, _)]) hH rfl rfl ⟨rfl, rfl, rfl, rfl, (WM (by simp_all [cB6] <;> (intros; omega))), rfl, trivial⟩ ⟨rfl, rfl, rfl, trivial⟩ (by repeat (first | exact hH.p0 | refine hH.pre rfl ?_))
 refine zq ?_ ?_ <;> intro h72
 ·
  refine Qz ?_; refine Qj ?_
  change (XP _ _).fzt = some _ ∧ _
  refine Qck hH (by repeat (first | exact hH.p0 | refine hH.pre rfl ?_)) rfl ?_
  simp_all [Qfc]
 refine QA ?_; refine Qj ?_
 change (XP _ _).fzt = some _ ∧ _
 refine Qck hH (by repeat (first | exact hH.p0 | refine hH.pre rfl ?_)) rfl ?_
 simp_all [Qfc]
def Qm3 (l : Qs) (s : Nd) (m : Bal) : Bal := if Q0 l s.acc m.v then ⟨2, s.self, m.f, m.n, Qt.zero⟩ else ⟨3, s.self, m.f, m.n, QD l s.acc m.v⟩
theorem QiT (l : Qs) (s : Nd) (m : Bal) (hc : QK l = 0) (hk : m.k = 1) (hok : Qfc l s m = 0) (ha : El l 40000 s.acc) (hm : El l 40000 m.v) : GX Tryz.prog 42 [.ptr Qk 0, .agg (K0 m)] [(Qk, .var 131 (X6 l s Jz))] (.tup [QdL [Qm3 l s m], i64 0]) [(Qk, .var 131 (X6 l { s with acc := QD l s.acc m.v } Jz))] 2 := by
 have hH : JJ [(Qk, .var 131 (X6 l s Jz))] := JJ.of rfl
 have hj : El l 100000 (QD l s.acc m.v) := (ha.join (Xg hc) (by omega) hm).up (by decide)
 refine JH [4, 5] Tryz.func42 rfl rfl 156 Tryz.ntmps42 (Nat.le_of_ble_eq_true rfl) ?_
 intro E hN
 refine Jc ?_
 refine zP (JP hH (by have h := Qij l s Jz [] hH m; rwa [hok] at h) rfl rfl rfl (by repeat (first | exact hH.p0 | refine hH.pre rfl ?_))) ?_
 refine XM ?_; refine Qg 14 (by kernel_rfl) (by kernel_rfl) ?_; refine zm ?_; refine zp (QE rfl rfl rfl) ?_; refine QC ?_
 refine zp (Qca rfl (by kernel_rfl) rfl rfl (.inl ⟨rfl, rfl⟩) (.inr ⟨rfl, rfl⟩)) ?_; refine Jy ?_; change Ql _ _ _ _ _ _; refine Jc ?_
 refine zP (Q6 (b := true) rfl rfl rfl (by simpa using hk)) ?_; refine Qz ?_
 refine QhE [([0, 1, 2, 3, 4, 5, 6, 7, 8], 9)] [10] (by kernel_rfl) (by kernel_rfl) rfl ?_
 refine ⟨_, rfl, ?_⟩
 refine zm ?_; refine zp (QE rfl rfl rfl) ?_; refine Xk ?_; refine zp (Ko rfl rfl rfl) ?_
 change FK _ _ _ _ _ _
 refine Qii hN rfl rfl rfl rfl rfl rfl rfl ?_; change Ql _ _ _ _ _ _; refine Qx ?_; refine Qg 11 (by kernel_rfl) (by kernel_rfl) ?_
 refine zm ?_; refine zp (QE rfl rfl rfl) ?_; refine Qx ?_; refine zp (QE rfl rfl rfl) ?_; refine Qz ?_
 refine zp (Qb (Qe5 l hc ha.1 hm.1) rfl rfl rfl) ?_; change Ql _ _ _ _ _ _; refine Qx ?_
 refine Qg 12 (by kernel_rfl) (by kernel_rfl) ?_; refine Qx ?_; refine zp (QE rfl rfl rfl) ?_; refine Qz ?_
 refine zp (Kq rfl rfl rfl rfl (by exact rfl) (by decide) (by decide) (Qdj s.acc m.v)) ?_
 refine zp (JP hH (QbL l s Jz [] hH hc (ha.up (by decide)) (hm.up (by decide))) rfl rfl rfl (by repeat (first | exact hH.p0 | refine hH.pre rfl ?_))) ?_
 refine zp (QE rfl rfl rfl) ?_; refine zf ?_; change Ql _ _ _ _ _ _; refine Jf ?_
 refine zq ?_ ?_ <;> intro h26
 rotate_left
 ·
  have hle : Q0 l s.acc m.v = true := by simpa using h26
  refine Qz ?_; refine zP (QJ rfl rfl rfl rfl (by exact rfl) (by decide) (by decide)) ?_; refine Qx ?_; refine Qj ?_
  change (XP _ _).ntt = _ ∧ _
  refine Qci rfl ?_ rfl rfl rfl ⟨rfl, rfl, rfl, trivial⟩
  rw [Qm3, hle]; rfl
 have hle : Q0 l s.acc m.v = false := by simpa using h26
 refine Qx ?_; refine zP (QE rfl rfl rfl) ?_; refine QC ?_
 refine zP (Jb [] (Kz l { s with acc := QD l s.acc m.v } Jz [] (JJ.of rfl) hc hj) rfl rfl rfl rfl ⟨rfl, rfl, rfl, rfl, trivial⟩ rfl) ?_
 refine Jf ?_; refine zP (QJ rfl rfl rfl rfl (by exact rfl) (by decide) (by decide)) ?_; refine Qx ?_; refine Qj ?_
 change (XP _ _).ntt = _ ∧ _
 refine Qci rfl ?_ rfl rfl rfl ⟨rfl, rfl, rfl, trivial⟩
 rw [Qm3, hle]; rfl
theorem QkO (l : Qs) (s : Nd) (p : Pp) (m : Bal) (hc : QK l = 0) (hk : m.k = 2) (hok : Qfc l s m = 0) (h1 : 1 ≤ s.n) (h2 : s.n ≤ 12) (hmine : m.n = s.num) (hl : El l 100000 s.lrn) (hv : El l 100000 p.v) (hq : QiL s { p with ack := upN p.ack m.f.toNat true } = true) (hw : eqV s.wt (Qm l) = true) : GX Tryz.prog 42 [.ptr Qk 0, .agg (K0 m)] [(Qk, .var 131 (X6 l s (.ptr (Qk + 1) 0))), ((Qk + 1), .var 137 (Kn p))] (.tup [QdL (Qke (WF l s p)), i64 0]) [(Qk, .var 131 (X6 l (WF l s p) Jz)), ((Qk + 1), .var 137 (Kn { p with ack := upN p.ack m.f.toNat true }))] 3 := by
 have hH : JJ [(Qk, .var 131 (X6 l s (.ptr (Qk + 1) 0))), ((Qk + 1), .var 137 (Kn p))] := JJ.of rfl
 obtain ⟨-, -, f0, f1, -, -⟩ := Qhi hok
 have hf12 : m.f.toNat < 12 := by omega
 refine JH [4, 5] Tryz.func42 rfl rfl 156 Tryz.ntmps42 (Nat.le_of_ble_eq_true rfl) ?_
 intro E hN
 refine Jc ?_
 refine zP (JP hH (by have h := Qij l s (.ptr (Qk + 1) 0) [((Qk + 1), .var 137 (Kn p))] hH m; rwa [hok] at h) rfl rfl rfl (by repeat (first | exact hH.p0 | refine hH.pre rfl ?_))) ?_
 refine XM ?_; refine Qg 14 (by kernel_rfl) (by kernel_rfl) ?_; refine zm ?_; refine zp (QE rfl rfl rfl) ?_; refine QC ?_
 refine zp (Qca rfl (by kernel_rfl) rfl rfl (.inr ⟨_, _, _, _, rfl, rfl, rfl⟩) (.inr ⟨rfl, rfl⟩)) ?_; refine Qz ?_; refine zp (QE rfl rfl rfl) ?_
 refine QC ?_; refine zp (Q6 (b := true) rfl rfl rfl (by simpa using hmine)) ?_; refine Yb ?_; change Ql _ _ _ _ _ _; refine Jc ?_
 refine zP (Q6 (b := false) rfl rfl rfl (by simp [hk])) ?_; refine QA ?_; refine zP (Q6 (b := true) rfl rfl rfl (by simpa using hk)) ?_
 refine Jy ?_; refine Qg 9 (by kernel_rfl) (by kernel_rfl) ?_; refine zm ?_; refine zp (QE rfl rfl rfl) ?_; refine Qz ?_
 refine zp (QE rfl rfl rfl) ?_; refine zf ?_; refine zp (QkM rfl rfl rfl m.f.toNat (by omega) hf12 rfl rfl) ?_; change Ql _ _ _ _ _ _
 refine Qft rfl rfl rfl rfl rfl rfl (Qnk hf12) rfl rfl rfl (QkS hf12) ?_; refine Qz ?_
 refine Km hN [(Qk, Qk), ((Qk + 1), (Qk + 1))] (QmB l s { p with ack := upN p.ack m.f.toNat true } hc h1 h2 hl hv hq hw) (.fn _ _ _ _ rfl rfl) rfl rfl rfl ⟨rfl, rfl, rfl, rfl, rfl, rfl, trivial⟩ rfl ⟨rfl, rfl, trivial⟩ rfl rfl rfl rfl rfl rfl rfl rfl ?_
 refine Qx ?_; refine Qj ?_
 change (XP _ _).ntt = _ ∧ _
 refine Qci rfl ?_ rfl rfl rfl ⟨rfl, rfl, rfl, rfl, rfl, rfl, trivial⟩
 rfl
end Go.Proofs.YtnkkokmmeplbgaaGreat
namespace Go.Proofs.YtnkkokmmeplbgaaGreat
set_option maxRecDepth 100000
set_option maxHeartbeats 1000000
open Go.RowKit
theorem Qhb (l : Qs) : FC Tryz.prog 73 [.agg (QP l)] (.tup [.agg (QH (J2 l).1), i64 (J2 l).2]) := by
 refine X9 [.c 2 30 4 true, .t 3] ⟨⟨inferInstance, rfl⟩, trivial⟩ Tryz.func73 rfl rfl 10 Tryz.ntmps73 (Nat.le_of_ble_eq_true rfl) ?_
 intro E hN
 refine XM ?_; refine zP (Qb (Wv l) rfl rfl rfl) ?_; refine QC ?_
 refine zq ?_ ?_ <;> intro h6
 ·
  have h1 : ¬ QK l = 0 := by simpa using h6
  refine Xk ?_; refine Qj ?_
  change (resY _ _).bind AV.fzt = some _
  refine Xs rfl ?_
  rw [J2, if_neg h1]; rfl
 have h1 : QK l = 0 := by simpa using h6
 refine Qz ?_; refine zP (Qb (QbP l (Xg h1)) rfl rfl rfl) ?_; refine Qx ?_; refine Qj ?_
 change (resY _ _).bind AV.fzt = some _
 refine Xs rfl ?_
 rw [J2, if_pos h1]
end Go.Proofs.YtnkkokmmeplbgaaGreat
