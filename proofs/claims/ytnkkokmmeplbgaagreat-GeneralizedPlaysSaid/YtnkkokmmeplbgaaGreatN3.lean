/-
  Contracts: a new node; what a node without a proposal answer
-/
import Derived.Test.YtnkkokmmeplbgaaGreatN2
import Derived.Test.YtnkkokmmeplbgaaGreatA11
namespace Go.Proofs.YtnkkokmmeplbgaaGreat
set_option maxRecDepth 100000
set_option maxHeartbeats 1000000
open Go.RowKit
theorem Qk3 (l : Qv) (s : Nd) (R : List (Nat × Qs)) (hH : XD ((Qe, .var 131 (Xy l s Jv)) :: R)) : GC Tryz.prog 46 [.ptr Qe 0] ((Qe, .var 131 (Xy l s Jv)) :: R) (.tup [.agg (QF Qp.zero), i64 0, bl false]) ((Qe, .var 131 (Xy l s Jv)) :: R) := by
 refine YG [.c 2 30 4 true, .t 3, .t 4] ⟨⟨inferInstance, rfl⟩, trivial⟩ Tryz.func46 rfl rfl 24 Tryz.ntmps46 (Nat.le_of_ble_eq_true rfl) ?_
 intro E hN;refine WV ?_;refine zP (Yq rfl (by kernel_rfl) rfl rfl (.inl ⟨rfl, rfl⟩) (.inl ⟨rfl, rfl⟩)) ?_;refine X3 ?_;refine Qg ?_;change (resY _ _).bind AV.fzt = some _ ∧ _;refine K7 hH hH.pp rfl ?_
 rfl
theorem Qnr (l : Qv) (s : Nd) (R : List (Nat × Qs)) (hH : XD ((Qe, .var 131 (Xy l s Jv)) :: R)) : GC Tryz.prog 48 [.ptr Qe 0] ((Qe, .var 131 (Xy l s Jv)) :: R) (i64 0) ((Qe, .var 131 (Xy l s Jv)) :: R) := by
 refine XA [2] Tryz.func48 rfl rfl 15 Tryz.ntmps48 (Nat.le_of_ble_eq_true rfl) ?_
 intro E hN;refine Xn ?_;refine zP (Yq rfl (by kernel_rfl) rfl rfl (.inl ⟨rfl, rfl⟩) (.inl ⟨rfl, rfl⟩)) ?_;refine Xk ?_;refine Qg ?_;change (Q7 _ _).fzt = some _ ∧ _;refine Yt hH hH.pp rfl ?_
 rfl
theorem QqS (l : Qv) (s : Nd) (R : List (Nat × Qs)) (hH : XD ((Qe, .var 131 (Xy l s Jv)) :: R)) (hc : QB l = 0) (hw : WH s.lrn (Qn l) = true) : GC Tryz.prog 44 [.ptr Qe 0] ((Qe, .var 131 (Xy l s Jv)) :: R) (.sl [] none) ((Qe, .var 131 (Xy l s Jv)) :: R) := by
 refine XA [2] Tryz.func44 rfl rfl 73 Tryz.ntmps44 (Nat.le_of_ble_eq_true rfl) ?_
 intro E hN;refine QaL ?_;refine zD 13 ?_;refine zl ?_;refine zp (Yq rfl (by kernel_rfl) rfl rfl (.inl ⟨rfl, rfl⟩) (.inl ⟨rfl, rfl⟩)) ?_;refine X3 ?_;refine zp (Qd (fcb (QdB l s.lrn hc) hw) rfl rfl rfl) ?_;refine Xo ?_;refine Qg ?_;change (Q7 _ _).fzt = some _ ∧ _;refine Yt hH hH.pp rfl ?_
 rfl
theorem Qrn (l : Qv) (s : Nd) (p : Pp) (i : Nat) (hi : i < 12) : GC Tryz.prog 96 [i64 i, .ptr (Qe + 2) 0] [(Qe, .var 131 (Xy l s (.ptr (Qe + 1) 0))), ((Qe + 1), .var 137 (Jk p)), (Qe + 2, .var 129 [.ptr (Qe + 1) 0])] (bl (!p.ack i)) [(Qe, .var 131 (Xy l s (.ptr (Qe + 1) 0))), ((Qe + 1), .var 137 (Jk p)), (Qe + 2, .var 129 [.ptr (Qe + 1) 0])] := by
 have hH : XD [(Qe, .var 131 (Xy l s (.ptr (Qe + 1) 0))), ((Qe + 1), .var 137 (Jk p)), (Qe + 2, .var 129 [.ptr (Qe + 1) 0])] := XD.of rfl
 refine XA [3] Tryz.func96 rfl rfl 11 Tryz.ntmps96 (Nat.le_of_ble_eq_true rfl) ?_
 intro E hN;refine Xs ?_;refine zP (Qlf rfl rfl rfl i rfl hi rfl rfl) ?_;refine zP (QbE rfl rfl (QvO hi rfl) rfl rfl) ?_;refine QD ?_;refine Qg ?_;change (Q7 _ _).fzt = some _ ∧ _;refine Yt hH hH.pp rfl ?_
 rfl
theorem QkF (l : Qv) (s : Nd) (p : Pp) (hc : QB l = 0) (h1 : 1 ≤ s.n) (h2 : s.n ≤ 12) (hv : El l 100000 p.v) (hg : Qw p.g l = true) (hle : QJ l p.g p.v = true) : GC Tryz.prog 44 [.ptr Qe 0] [(Qe, .var 131 (Xy l s (.ptr (Qe + 1) 0))), ((Qe + 1), .var 137 (Jk p))] (Y4 (JD s p (fun i => !p.ack i))) [(Qe, .var 131 (Xy l s (.ptr (Qe + 1) 0))), ((Qe + 1), .var 137 (Jk p))] := by
 have hH : XD [(Qe, .var 131 (Xy l s (.ptr (Qe + 1) 0))), ((Qe + 1), .var 137 (Jk p))] := XD.of rfl
 refine XA [2] Tryz.func44 rfl rfl 73 Tryz.ntmps44 (Nat.le_of_ble_eq_true rfl) ?_
 intro E hN;refine QaL ?_;refine zD 13 ?_;refine zl ?_;refine zp (Yq rfl (by kernel_rfl) rfl rfl (.inr ⟨_, _, _, _, rfl, rfl, rfl⟩) (.inl ⟨rfl, rfl⟩)) ?_;refine Qd8 ?_;refine zP (Yq rfl (by kernel_rfl) rfl rfl (.inr ⟨_, _, _, _, rfl, rfl, rfl⟩) (.inl ⟨rfl, rfl⟩)) ?_;refine QC ?_;refine zD 13 ?_;refine Jx ?_;refine zp (Qd (fcb (KS l hc hg hv.1) hle) rfl rfl rfl) ?_;refine Xk ?_;refine zP (Qmp rfl rfl) ?_
 refine QN hN [(Qe, Qe), ((Qe + 1), (Qe + 1)), ((Qe + 2), 0)] (Qex l s p [(Qe + 2, .var 129 [.ptr (Qe + 1) 0])] (XD.of rfl) hc h1 h2 hv (fun i => !p.ack i) 96 [.ptr (Qe + 2) 0] (fun i hi => Qrn l s p i hi) rfl rfl rfl) (.fn _ _ _ _ rfl rfl) rfl rfl rfl ⟨rfl, rfl, rfl, rfl, rfl, rfl, rfl, rfl, rfl, trivial⟩ rfl ⟨Qi8 (Xc _), rfl, rfl, rfl, trivial⟩ rfl (Qrc (Xc _) rfl rfl rfl) rfl rfl rfl rfl rfl rfl ?_;refine zT ?_
 refine Qx (Xl 2 2 rfl rfl (by rw [List.length_map]) (JN _) (Xc _) rfl) ?_;refine Qg ?_;change (Q7 _ _).fzt = some _ ∧ _;refine QqM rfl ?_ rfl ?_ rfl rfl ?_ rfl
 all_goals rfl
def Qbb (l : Qv) (n self : Int) : Nd := ⟨n, self, Qn l, Qn l, Qn l, 0⟩
def Qi5 (n self : Int) : Nd := ⟨n, self, Qp.zero, Qp.zero, Qp.zero, 0⟩
theorem QjI (l : Qv) (n self : Int) (hc : QB l = 0) (h1 : 1 ≤ n) (h2 : n ≤ 12) (hs0 : 0 ≤ self) (hs1 : self < n) : FN Tryz.prog 38 [.agg (Q2 l), i64 n, i64 self] 131 (Xy l (Qbb l n self) Jv) (i64 0) := by
 refine Qpj 6 7 Tryz.func38 rfl rfl 50 Tryz.ntmps38 (Nat.le_of_ble_eq_true rfl) ?_
 intro E hN;refine Xs ?_;refine zP (Qd (QbG l) rfl rfl rfl) ?_;refine QH ?_
 refine zc 12 ?_ ?_ <;> intro h7
 ·refine QrA ?_;refine Qg ?_
  exfalso
  first | (simp_all; done) | (simp_all; omega)
 refine QC ?_
 refine zc 16 ?_ ?_ <;> intro h8
 ·refine Qes ?_;refine Qg ?_
  exfalso
  first | (simp_all; done) | (simp_all; omega)
 refine QC ?_
 refine zc 20 ?_ ?_ <;> intro h9
 ·refine QdK ?_;refine Qg ?_
  exfalso
  first | (simp_all; done) | (simp_all; omega)
 refine QC ?_
 refine zc 24 ?_ ?_ <;> intro h10
 ·refine Xn ?_;refine Qg ?_
  exfalso
  first | (simp_all; done) | (simp_all; omega)
 refine Qy ?_
 refine zq ?_ ?_ <;> intro h11
 ·refine Qy ?_;refine Qg ?_
  exfalso
  first | (simp_all; done) | (simp_all; omega)
 refine Xn ?_;refine Qx (QbR 1 (cs' := Xy l (Qi5 n self) Jv) rfl (by repeat (first | exact trivial | refine ⟨.inl rfl, ?_⟩ | refine ⟨.inr ⟨rfl, rfl⟩, ?_⟩))) ?_;refine Qy ?_;refine zP (Q0 [(Qe, 1)] (Qaq l (Qi5 n self) Jv [] (XD.of rfl) hc) rfl rfl rfl rfl ⟨rfl, rfl, rfl, rfl, trivial⟩ rfl) ?_;refine zM ?_;refine zP (Q0 [(Qe, 1)] (Qaq l (Qi5 n self) Jv [] (XD.of rfl) hc) rfl rfl rfl rfl ⟨rfl, rfl, rfl, rfl, trivial⟩ rfl) ?_;refine zM ?_
 refine zP (Q0 [(Qe, 1)] (Qaq l (Qi5 n self) Jv [] (XD.of rfl) hc) rfl rfl rfl rfl ⟨rfl, rfl, rfl, rfl, trivial⟩ rfl) ?_;refine QaL ?_;refine Qg ?_;exact ⟨1, _, _, rfl, rfl, rfl, rfl, rfl⟩
theorem Qss (l : Qv) (n self : Int) (hbad : ¬ QB l = 0 ∨ n < 1 ∨ 12 < n ∨ self < 0 ∨ n ≤ self) : FC Tryz.prog 38 [.agg (Q2 l), i64 n, i64 self] (.tup [.p (.pointer none), i64 1]) := by
 refine Qh [6, 7] Tryz.func38 rfl rfl 50 Tryz.ntmps38 (Nat.le_of_ble_eq_true rfl) ?_
 intro E hN;refine Xs ?_;refine zP (Qd (QbG l) rfl rfl rfl) ?_;refine QH ?_
 refine zc 12 ?_ ?_ <;> intro h7
 ·refine Qof ?_;refine zQ ?_
  rfl
 refine QC ?_
 refine zc 16 ?_ ?_ <;> intro h8
 ·refine Wn ?_;refine zQ ?_
  rfl
 refine QC ?_
 refine zc 20 ?_ ?_ <;> intro h9
 ·refine YI ?_;refine zQ ?_
  rfl
 refine QC ?_
 refine zc 24 ?_ ?_ <;> intro h10
 ·refine Xs ?_;refine zQ ?_
  rfl
 refine Qy ?_
 refine zq ?_ ?_ <;> intro h11
 ·refine QC ?_;refine zQ ?_
  rfl
 exfalso
 first | (simp_all; done) | (simp_all; omega)
theorem Qiv (l : Qv) (s : Nd) (v : Qp) (hc : QB l = 0) (h1 : 2 ≤ s.n) (h2 : s.n ≤ 12) (hs0 : 0 ≤ s.self) (hs1 : s.self < 12) (hn0 : 0 ≤ s.num) (hn1 : s.num ≤ 1000000) (ha : El l 50000 s.acc) (hw : El l 40000 s.wt) (hv : XR l v = true) (he : El l 1000 v) : GX Tryz.prog 40 [.ptr Qe 0, .agg (QF v)] [(Qe, .var 131 (Xy l s Jv))] (.tup [Y4 (JD (Xq l { s with wt := Qk l s.wt v }) (Q1 l { s with wt := Qk l s.wt v }) Xv), i64 0]) [(Qe, .var 131 (Xy l (Xq l { s with wt := Qk l s.wt v }) (.ptr 1 0))), (1, .var 137 (Jk (Q1 l { s with wt := Qk l s.wt v })))] 4 := by
 have hH : XD [(Qe, .var 131 (Xy l s Jv))] := XD.of rfl
 have hj : El l 50000 (Qk l s.wt v) := (hw.join (Xb hc) (by omega) he).up (by decide)
 refine QK [4, 5] Tryz.func40 rfl rfl 31 Tryz.ntmps40 (Nat.le_of_ble_eq_true rfl) ?_
 intro E hN;refine Xo ?_;refine zD 6 ?_;refine Qy ?_;refine zp (Qd (fcb (Qa6 l v) hv) rfl rfl rfl) ?_;refine Qy ?_;refine zD 11 ?_;refine Xg ?_;refine zp (J7 rfl rfl rfl rfl (by exact rfl) (by decide) (by decide) (QaI s.wt v)) ?_;refine zp (QE hH (Wt l s Jv [] hH hc (hw.up (by decide)) (he.up (by decide))) rfl rfl rfl hH.pp) ?_;refine Xn ?_;refine zP (Yq rfl (by kernel_rfl) rfl rfl (.inl ⟨rfl, rfl⟩) (.inr ⟨rfl, rfl⟩)) ?_;refine Xk ?_
 refine QN hN [(Qe, Qe)] (Qn4 l { s with wt := Qk l s.wt v } hc h1 h2 hs0 hs1 hn0 hn1 ha hj) (.fn _ _ _ _ rfl rfl) rfl rfl rfl ⟨rfl, rfl, rfl, trivial⟩ rfl ⟨rfl, rfl, trivial⟩ rfl rfl rfl rfl rfl rfl rfl rfl ?_;refine QD ?_;refine Qg ?_;change (Q7 _ _).ntt = _ ∧ _;refine Ja rfl ?_ rfl rfl rfl ⟨rfl, rfl, rfl, rfl, rfl, rfl, trivial⟩
 rfl
theorem WG {a b : Bool} (h : a = b) : some (bl a) = some (bl b) := by rw [h]
def cB1 (m : YB) : Bool := decide (m.k < 1) || decide (m.k > 4)
def cB2 (s : Nd) (m : YB) : Bool := decide (m.f < 0) || decide (m.f ≥ s.n) || (m.f == s.self) || (m.t != s.self)
def cB3 (m : YB) : Bool := (m.k == 4) && (m.n != 0)
def cB4 (m : YB) : Bool := (m.k != 4) && decide (m.n < 1)
def cB5 (m : YB) : Bool := (m.k == 2) && !WH m.v Qp.zero
def cB6 (l : Qv) (m : YB) : Bool := (m.k != 2) && !XR l m.v
def QcM (s : Nd) (m : YB) : Bool := cB1 m || cB2 s m || cB3 m || cB4 m || cB5 m
def J5 (l : Qv) (s : Nd) (m : YB) : Int := if QcM s m then 1 else if cB6 l m then 4 else 0
theorem QnF {l : Qv} {s : Nd} {m : YB} (h : J5 l s m = 0) : QcM s m = false ∧ cB6 l m = false := by
 unfold J5 at h
 cases h1 : QcM s m <;> cases h2 : cB6 l m <;> simp_all
theorem Y9 {l : Qv} {s : Nd} {m : YB} (h : J5 l s m = 0) : 1 ≤ m.k ∧ m.k ≤ 4 ∧ 0 ≤ m.f ∧ m.f < s.n ∧ m.f ≠ s.self ∧ m.t = s.self := by
 have h1 := (QnF h).1
 simp [QcM, cB1, cB2] at h1
 omega
theorem Qcs {l : Qv} {s : Nd} {m : YB} (h : J5 l s m = 0) (hk : m.k ≠ 2) : Qw m.v l = true := by
 have h1 := (QnF h).2
 simp [cB6, hk] at h1
 unfold XR at h1
 simp at h1
 exact h1.2
theorem KU (l : Qv) (s : Nd) (x : AV) (R : List (Nat × Qs)) (hH : XD ((Qe, .var 131 (Xy l s x)) :: R)) (m : YB) : GC Tryz.prog 83 [.ptr Qe 0, .agg (Jw m)] ((Qe, .var 131 (Xy l s x)) :: R) (i64 (J5 l s m)) ((Qe, .var 131 (Xy l s x)) :: R) := by
 refine XA [4] Tryz.func83 rfl rfl 84 Tryz.ntmps83 (Nat.le_of_ble_eq_true rfl) ?_
 intro E hN;refine Xg ?_;refine JT (⟨[(0, .ptr Qe 0), (3, .ptr 0 0), (5, bl (QcM s m))], (0, .var 54 (Jw m)) :: ((Qe, .var 131 (Xy l s x)) :: R), 1⟩) ?_ ?_
 ·refine JT (⟨[(0, .ptr Qe 0), (3, .ptr 0 0), (5, bl (cB1 m))], (0, .var 54 (Jw m)) :: ((Qe, .var 131 (Xy l s x)) :: R), 1⟩) ?_ ?_
  ·refine Qy ?_
   refine zc 9 ?_ ?_ <;> intro h6
   ·refine Qy ?_;refine Qb ?_;exact QI (pre := [(0, _)]) hH rfl rfl ⟨rfl, rfl, rfl, rfl, (WG (by simp_all [cB1] <;> (intros; omega))), rfl, trivial⟩ ⟨rfl, rfl, rfl, trivial⟩ hH.pp
   refine Qy ?_;refine Qb ?_;exact QI (pre := [(0, _)]) hH rfl rfl ⟨rfl, rfl, rfl, rfl, (WG (by simp_all [cB1] <;> (intros; omega))), rfl, trivial⟩ ⟨rfl, rfl, rfl, trivial⟩ hH.pp
  refine zq ?_ ?_ <;> intro h12
  ·refine QO ?_;exact QI (pre := [(0, _)]) hH rfl rfl ⟨rfl, rfl, rfl, rfl, (WG (by simp_all [QcM, cB5] <;> (intros; omega))), rfl, trivial⟩ ⟨rfl, rfl, rfl, trivial⟩ hH.pp
  refine JT (⟨[(0, .ptr Qe 0), (3, .ptr 0 0), (5, bl (cB2 s m))], (0, .var 54 (Jw m)) :: ((Qe, .var 131 (Xy l s x)) :: R), 1⟩) ?_ ?_
  ·refine zD 30 ?_;refine QC ?_
   refine zd 17 ?_ ?_ <;> intro h15
   ·refine QaZ ?_;refine QD ?_;refine Qb ?_;exact QI (pre := [(0, _)]) hH rfl rfl ⟨rfl, rfl, rfl, rfl, (WG (by simp_all [cB2] <;> (intros; omega))), rfl, trivial⟩ ⟨rfl, rfl, rfl, trivial⟩ hH.pp
   refine X3 ?_
   refine zd 26 ?_ ?_ <;> intro h20
   ·refine Wn ?_;refine Qb ?_;exact QI (pre := [(0, _)]) hH rfl rfl ⟨rfl, rfl, rfl, rfl, (WG (by simp_all [cB2] <;> (intros; omega))), rfl, trivial⟩ ⟨rfl, rfl, rfl, trivial⟩ hH.pp
   refine X3 ?_
   refine zd 35 ?_ ?_ <;> intro h25
   ·refine X3 ?_;refine Qb ?_;exact QI (pre := [(0, _)]) hH rfl rfl ⟨rfl, rfl, rfl, rfl, (WG (by simp_all [cB2] <;> (intros; omega))), rfl, trivial⟩ ⟨rfl, rfl, rfl, trivial⟩ hH.pp
   refine X3 ?_;refine Qb ?_;exact QI (pre := [(0, _)]) hH rfl rfl ⟨rfl, rfl, rfl, rfl, (WG (by simp_all [cB2] <;> (intros; omega))), rfl, trivial⟩ ⟨rfl, rfl, rfl, trivial⟩ hH.pp
  refine zq ?_ ?_ <;> intro h33
  ·refine QO ?_;exact QI (pre := [(0, _)]) hH rfl rfl ⟨rfl, rfl, rfl, rfl, (WG (by simp_all [QcM, cB5] <;> (intros; omega))), rfl, trivial⟩ ⟨rfl, rfl, rfl, trivial⟩ hH.pp
  refine JT (⟨[(0, .ptr Qe 0), (3, .ptr 0 0), (5, bl (cB3 m))], (0, .var 54 (Jw m)) :: ((Qe, .var 131 (Xy l s x)) :: R), 1⟩) ?_ ?_
  ·refine Qy ?_
   refine zc 47 ?_ ?_ <;> intro h36
   ·refine Qy ?_;refine Qb ?_;exact QI (pre := [(0, _)]) hH rfl rfl ⟨rfl, rfl, rfl, rfl, (WG (by simp_all [cB3] <;> (intros; omega))), rfl, trivial⟩ ⟨rfl, rfl, rfl, trivial⟩ hH.pp
   refine Qy ?_;refine Qb ?_;exact QI (pre := [(0, _)]) hH rfl rfl ⟨rfl, rfl, rfl, rfl, (WG (by simp_all [cB3] <;> (intros; omega))), rfl, trivial⟩ ⟨rfl, rfl, rfl, trivial⟩ hH.pp
  refine zq ?_ ?_ <;> intro h42
  ·refine QO ?_;exact QI (pre := [(0, _)]) hH rfl rfl ⟨rfl, rfl, rfl, rfl, (WG (by simp_all [QcM, cB5] <;> (intros; omega))), rfl, trivial⟩ ⟨rfl, rfl, rfl, trivial⟩ hH.pp
  refine JT (⟨[(0, .ptr Qe 0), (3, .ptr 0 0), (5, bl (cB4 m))], (0, .var 54 (Jw m)) :: ((Qe, .var 131 (Xy l s x)) :: R), 1⟩) ?_ ?_
  ·refine Qy ?_
   refine zc 55 ?_ ?_ <;> intro h45
   ·refine Qy ?_;refine Qb ?_;exact QI (pre := [(0, _)]) hH rfl rfl ⟨rfl, rfl, rfl, rfl, (WG (by simp_all [cB4] <;> (intros; omega))), rfl, trivial⟩ ⟨rfl, rfl, rfl, trivial⟩ hH.pp
   refine Qy ?_;refine Qb ?_;exact QI (pre := [(0, _)]) hH rfl rfl ⟨rfl, rfl, rfl, rfl, (WG (by simp_all [cB4] <;> (intros; omega))), rfl, trivial⟩ ⟨rfl, rfl, rfl, trivial⟩ hH.pp
  refine zq ?_ ?_ <;> intro h51
  ·refine QO ?_;exact QI (pre := [(0, _)]) hH rfl rfl ⟨rfl, rfl, rfl, rfl, (WG (by simp_all [QcM, cB5] <;> (intros; omega))), rfl, trivial⟩ ⟨rfl, rfl, rfl, trivial⟩ hH.pp
  refine Qy ?_
  refine zc 63 ?_ ?_ <;> intro h54
  ·refine QH ?_;refine uP (XO h54) (Kf rfl rfl rfl) ?_;refine uP (XO h54) (Qd (Qfu m.v Qp.zero) rfl rfl rfl) ?_;refine QD ?_;refine Qb ?_;exact QI (pre := [(0, _)]) hH rfl rfl ⟨rfl, rfl, rfl, rfl, (WG (by simp_all [QcM, cB5] <;> (intros; omega))), rfl, trivial⟩ ⟨rfl, rfl, rfl, trivial⟩ hH.pp
  refine Xg ?_;refine Qb ?_;exact QI (pre := [(0, _)]) hH rfl rfl ⟨rfl, rfl, rfl, rfl, (WG (by simp_all [QcM, cB5] <;> (intros; omega))), rfl, trivial⟩ ⟨rfl, rfl, rfl, trivial⟩ hH.pp
 refine zq ?_ ?_ <;> intro h61
 ·refine QC ?_;refine Qg ?_;change (Q7 _ _).fzt = some _ ∧ _;refine Yt hH hH.pp rfl ?_
  simp_all [J5]
 refine JT (⟨[(0, .ptr Qe 0), (3, .ptr 0 0), (70, bl (cB6 l m))], (0, .var 54 (Jw m)) :: ((Qe, .var 131 (Xy l s x)) :: R), 1⟩) ?_ ?_
 ·refine zD 13 ?_;refine QC ?_
  refine zd 74 ?_ ?_ <;> intro h64
  ·refine Xk ?_;refine vP (XO h64) (Qd (Qa6 l m.v) rfl rfl rfl) ?_;refine QD ?_;refine Qb ?_;exact QI (pre := [(0, _)]) hH rfl rfl ⟨rfl, rfl, rfl, rfl, (WG (by simp_all [cB6] <;> (intros; omega))), rfl, trivial⟩ ⟨rfl, rfl, rfl, trivial⟩ hH.pp
  refine Xs ?_;refine Qb ?_;exact QI (pre := [(0, _)]) hH rfl rfl ⟨rfl, rfl, rfl, rfl, (WG (by simp_all [cB6] <;> (intros; omega))), rfl, trivial⟩ ⟨rfl, rfl, rfl, trivial⟩ hH.pp
 refine zq ?_ ?_ <;> intro h72
 ·refine QC ?_;refine Qg ?_;change (Q7 _ _).fzt = some _ ∧ _;refine Yt hH hH.pp rfl ?_
  simp_all [J5]
 refine Qy ?_;refine Qg ?_;change (Q7 _ _).fzt = some _ ∧ _;refine Yt hH hH.pp rfl ?_
 simp_all [J5]
def QbV (l : Qv) (s : Nd) (m : YB) : YB := if QJ l s.acc m.v then ⟨2, s.self, m.f, m.n, Qp.zero⟩ else ⟨3, s.self, m.f, m.n, Qk l s.acc m.v⟩
theorem Qid (l : Qv) (s : Nd) (m : YB) (hc : QB l = 0) (hk : m.k = 1) (hok : J5 l s m = 0) (ha : El l 40000 s.acc) (hm : El l 40000 m.v) : GX Tryz.prog 42 [.ptr Qe 0, .agg (Jw m)] [(Qe, .var 131 (Xy l s Jv))] (.tup [Y4 [QbV l s m], i64 0]) [(Qe, .var 131 (Xy l { s with acc := Qk l s.acc m.v } Jv))] 2 := by
 have hH : XD [(Qe, .var 131 (Xy l s Jv))] := XD.of rfl
 have hj : El l 100000 (Qk l s.acc m.v) := (ha.join (Xb hc) (by omega) hm).up (by decide)
 refine QK [4, 5] Tryz.func42 rfl rfl 156 Tryz.ntmps42 (Nat.le_of_ble_eq_true rfl) ?_
 intro E hN;refine Xn ?_;refine zP (QE hH (by have h := KU l s Jv [] hH m; rwa [hok] at h) rfl rfl rfl hH.pp) ?_;refine Xs ?_;refine zD 14 ?_;refine QC ?_;refine zp (Yq rfl (by kernel_rfl) rfl rfl (.inl ⟨rfl, rfl⟩) (.inr ⟨rfl, rfl⟩)) ?_;refine Qdb ?_;refine zP (Ql (b := true) rfl rfl rfl (by simpa using hk)) ?_;refine QC ?_;refine Qcn [([0, 1, 2, 3, 4, 5, 6, 7, 8], 9)] [10] (by kernel_rfl) (by kernel_rfl) rfl ?_;refine ⟨_, rfl, ?_⟩;refine Xo ?_;refine zp (Kf rfl rfl rfl) ?_;change FK _ _ _ _ _ _;refine QeE hN rfl rfl rfl rfl rfl rfl rfl ?_
 change Q3 _ _ _ _ _ _;refine QD ?_;refine zD 11 ?_;refine Xs ?_;refine zp (Qd (KS l hc ha.1 hm.1) rfl rfl rfl) ?_;refine QD ?_;refine zD 12 ?_;refine Xo ?_;refine zp (J7 rfl rfl rfl rfl (by exact rfl) (by decide) (by decide) (QaI s.acc m.v)) ?_;refine zp (QE hH (Wt l s Jv [] hH hc (ha.up (by decide)) (hm.up (by decide))) rfl rfl rfl hH.pp) ?_;refine Xs ?_
 refine zq ?_ ?_ <;> intro h26
 rotate_left
 ·have hle : QJ l s.acc m.v = true := by simpa using h26
  refine QC ?_;refine zP (QG rfl rfl rfl rfl (by exact rfl) (by decide) (by decide)) ?_;refine QD ?_;refine Qg ?_;change (Q7 _ _).ntt = _ ∧ _;refine Ja rfl ?_ rfl rfl rfl ⟨rfl, rfl, rfl, trivial⟩
  rw [QbV, hle]; rfl
 have hle : QJ l s.acc m.v = false := by simpa using h26
 refine Xk ?_;refine zP (Q0 [] (JH l { s with acc := Qk l s.acc m.v } Jv [] (XD.of rfl) hc hj) rfl rfl rfl rfl ⟨rfl, rfl, rfl, rfl, trivial⟩ rfl) ?_;refine Xo ?_;refine zP (QG rfl rfl rfl rfl (by exact rfl) (by decide) (by decide)) ?_;refine QD ?_;refine Qg ?_;change (Q7 _ _).ntt = _ ∧ _;refine Ja rfl ?_ rfl rfl rfl ⟨rfl, rfl, rfl, trivial⟩
 rw [QbV, hle]; rfl
theorem Qlg (l : Qv) (s : Nd) (p : Pp) (m : YB) (hc : QB l = 0) (hk : m.k = 2) (hok : J5 l s m = 0) (h1 : 1 ≤ s.n) (h2 : s.n ≤ 12) (hmine : m.n = s.num) (hl : El l 100000 s.lrn) (hv : El l 100000 p.v) (hq : Kq s { p with ack := Yp p.ack m.f.toNat true } = true) (hw : WH s.wt (Qn l) = true) : GX Tryz.prog 42 [.ptr Qe 0, .agg (Jw m)] [(Qe, .var 131 (Xy l s (.ptr (Qe + 1) 0))), ((Qe + 1), .var 137 (Jk p))] (.tup [Y4 (W5 (QT l s p)), i64 0]) [(Qe, .var 131 (Xy l (QT l s p) Jv)), ((Qe + 1), .var 137 (Jk { p with ack := Yp p.ack m.f.toNat true }))] 3 := by
 have hH : XD [(Qe, .var 131 (Xy l s (.ptr (Qe + 1) 0))), ((Qe + 1), .var 137 (Jk p))] := XD.of rfl
 obtain ⟨-, -, f0, f1, -, -⟩ := Y9 hok;have hf12 : m.f.toNat < 12 := by omega
 refine QK [4, 5] Tryz.func42 rfl rfl 156 Tryz.ntmps42 (Nat.le_of_ble_eq_true rfl) ?_
 intro E hN;refine Xn ?_;refine zP (QE hH (by have h := KU l s (.ptr (Qe + 1) 0) [((Qe + 1), .var 137 (Jk p))] hH m; rwa [hok] at h) rfl rfl rfl hH.pp) ?_;refine Xs ?_;refine zD 14 ?_;refine QC ?_;refine zp (Yq rfl (by kernel_rfl) rfl rfl (.inr ⟨_, _, _, _, rfl, rfl, rfl⟩) (.inr ⟨rfl, rfl⟩)) ?_;refine Xg ?_;refine zp (Ql (b := true) rfl rfl rfl (by simpa using hmine)) ?_;refine Jx ?_;refine zP (Ql (b := false) rfl rfl rfl (by simp [hk])) ?_;refine Qy ?_;refine zP (Ql (b := true) rfl rfl rfl (by simpa using hk)) ?_;refine X3 ?_
 refine zD 9 ?_;refine Xo ?_;refine zp (Qlf rfl rfl rfl m.f.toNat (by omega) hf12 rfl rfl) ?_;refine Qcp rfl rfl rfl rfl rfl rfl (QnG hf12) rfl rfl rfl (QjD hf12) ?_;refine QC ?_;refine QN hN [(Qe, Qe), ((Qe + 1), (Qe + 1))] (QnP l s { p with ack := Yp p.ack m.f.toNat true } hc h1 h2 hl hv hq hw) (.fn _ _ _ _ rfl rfl) rfl rfl rfl ⟨rfl, rfl, rfl, rfl, rfl, rfl, trivial⟩ rfl ⟨rfl, rfl, trivial⟩ rfl rfl rfl rfl rfl rfl rfl rfl ?_;refine QD ?_;refine Qg ?_;change (Q7 _ _).ntt = _ ∧ _;refine Ja rfl ?_ rfl rfl rfl ⟨rfl, rfl, rfl, rfl, rfl, rfl, trivial⟩
 rfl
end Go.Proofs.YtnkkokmmeplbgaaGreat
