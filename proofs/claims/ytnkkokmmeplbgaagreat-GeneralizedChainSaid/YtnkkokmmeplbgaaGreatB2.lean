/-
  Contracts: descriptions of lattices are checked.
-/
import Derived.Test.YtnkkokmmeplbgaaGreatB1
namespace Go.Proofs.YtnkkokmmeplbgaaGreat
set_option maxRecDepth 100000
set_option maxHeartbeats 1000000
open Go.RowKit
def Yi (b:Bool)(e:Int):Int:=if b then e else 0
def Jm (k:Int):Bool:=k==4||k==8||k==5||k==6||k==10
def Jg (k:Int):Bool:=k==2||k==3
def Y6 (k:Int):Bool:=k==1||k==9||Jg k||Jm k||k==7
def Yb (l:Qv):Int:=if l.k=5 then 1 else if l.k=7 then 2 else if l.k=6 then l.nm.length else 0
def Wh (l:Qv):Bool:=((l.ps.length:Int) != Yb l)||(!Jm l.k&&decide ((l.nm.length:Int) > 0))||(!(l.k==10)&&decide ((l.rs.length:Int) > 0))||(!Jg l.k&&(l.lo != 0||l.hi != 0))
def YS (l:Qv):Bool:=(l.k==6||l.k==10)&&(l.nm.length:Int)==0
def XB (l:Qv):Int:=if Y6 l.k then Yi (Wh l||YS l) 1 else 1
def KO (k:Int):Int:=if k=6 then 8 else if k=10 then 12 else 32
def JS (l:Qv):Int:=Yi (decide ((l.nm.length:Int) > KO l.k)||decide ((l.rs.length:Int) > 32)) 6
def Je (l:Qv):Int:=Yi (decide (l.lo > l.hi)||decide (l.lo < -1000000000)||decide (l.lo > 1000000000)||decide (l.hi < -1000000000)||decide (l.hi > 1000000000)) 5
def chainB (l:Qv):Bool:=
 if l.k==1||l.k==2||l.k==3 then true
 else if l.k==7 then(match _h:l.ps with|[a,b]=>chainB a&&chainB b|_=>false)
 else false
termination_by l
decreasing_by all_goals exact Qv.sizeOf_ps (by rw[_h];simp)
theorem Qd7 {l a b:Qv}(hk:(l.k==7)=true)(h:l.ps=[a,b]):chainB l=(chainB a&&chainB b):=by
 have hk':l.k=7:=by simpa using hk
 conv=>lhs;rw[chainB]
 rw[if_neg (by rw[hk'];decide),if_pos hk]
 split
 ·rename_i c d h2;rw[h] at h2;cases h2;rfl
 rename_i h2;exact absurd h (h2 a b)
theorem YF {l:Qv}(h1:(l.k==1)=false)(h2:(l.k==2)=false)(h3:(l.k==3)=false)(h:(l.k==7)=false∨l.ps.length≠2):chainB l=false:=by
 rw[chainB,if_neg (by simp[h1,h2,h3])]
 rcases h with h|h
 ·rw[if_neg (by simp[h])]
 split
 ·split
  ·rename_i h4;rw[h4] at h;simp at h
  rfl
 rfl
theorem Qfu {l:Qv}(h:(l.k==1||l.k==2||l.k==3)=true):chainB l=true:=by rw[chainB,if_pos h]
def JA (l:Qv):Int:=Yi (l.k==7 && !(match l.ps with|a::_=>chainB a|[]=>false)) 4
def Qbc (l:Qv)(q:Nm×Nat):Bool:=XU q.1 && !(l.k==6&&JL (l.nm.take q.2) q.1)
def Qac (nm:List Nm)(r:Ru):Bool := !((r.i.length:Int)==0)&&QF r.i&&Yu r.i nm&&JL nm r.t
def Jx (l:Qv):Int:=if l.nm.zipIdx.all (Qbc l)&&(l.k==6||QF l.nm)&&l.rs.all (Qac l.nm) then 0 else 3
def orE:List Int→Int
 |[]=>0
 |x::l=>if x==0 then orE l else x
def JZ (f:Qv→Int→Int×Int):List Qv→Int→Int×Int
 |[],n=>(0,n)
 |q::r,n=>if (f q n).1==0 then JZ f r (f q n).2 else f q n
def Xk:Nat→Qv→Int→Int×Int
 |0,_,n=>(6,n)
 |f+1,l,n=>
  if n≥64 then(6,n)
  else if XB l != 0 then(XB l,n+1)
  else if orE [JS l,Jx l,Je l,JA l] != 0 then(orE [JS l,Jx l,Je l,JA l],n+1)
  else JZ (Xk f) l.ps (n+1)
def QJ (l:Qv):Int:=(Xk 6 l 0).1
theorem Qi9 {f:Qv→Int→Int×Int}(hf:∀q n,0≤n→0≤(f q n).2):∀(l:List Qv) (n:Int),0≤n→0≤(JZ f l n).2
 |[],n,h=>h
 |q::r,n,h=>by
  unfold JZ
  split
  ·exact Qi9 hf r _ (hf q n h)
  exact hf q n h
theorem QgB:∀(f:Nat) (l:Qv) (n:Int),0≤n→0≤(Xk f l n).2
 |0,_,_,h=>h
 |f+1,l,n,h=>by
  unfold Xk
  split
  ·exact h
  split
  ·show(0:Int)≤n+1;omega
  split
  ·show(0:Int)≤n+1;omega
  exact Qi9 (QgB f) _ _ (by omega)
theorem Qhi {l:List Nm}{k:Nat}{x:Nm}(h:l[k]?=some x):l.zipIdx[k]?=some (x,k):=by simp[h]
theorem Qaj (b:Bool)(e:Int):FC Tryz.prog 191 [bl b,i64 e] (i64 (Yi b e)):=by
 refine Qg [4] Tryz.func191 rfl rfl 7 Tryz.ntmps191 (Nat.le_of_ble_eq_true rfl) ?_
 intro E hN;refine J6 ?_
 refine zq ?_ ?_<;>intro h1
 ·refine QK ?_;refine zQ ?_;exact Q1 (by simp[Yi, *])
 refine QK ?_;refine zQ ?_;exact Q1 (by simp[Yi, *])
theorem Qtl (l:Qv):FC Tryz.prog 152 [.agg (Q7 l)] (i64 (XB l)):=by
 refine Qg [2] Tryz.func152 rfl rfl 89 Tryz.ntmps152 (Nat.le_of_ble_eq_true rfl) ?_
 intro E hN;refine JF ?_;refine QdV (⟨[(1,.ptr 0 0),(3,i64 (Yb l)),(4,bl (Jm l.k)),(5,bl (l.k==10)),(6,bl (Jg l.k))],[(0,.var 26 (Q7 l))],1⟩) (Y6 l.k=true) ?_ ?_
 ·refine JF ?_
  refine zq ?_ ?_<;>intro h5
  ·refine QR ?_;refine QM ?_;exact⟨(by simp_all [Y6,Jm,Jg]),Qa rfl (X2 ⟨(Y5 (by simp_all [Yb])),rfl,(KM (by simp_all [Jm])),rfl,(KM (by simp_all)),rfl,(KM (by simp_all [Jg])),rfl,trivial⟩) ⟨rfl,rfl,rfl,trivial⟩⟩
  refine QK ?_
  refine zq ?_ ?_<;>intro h6
  ·refine QM ?_;exact⟨(by simp_all [Y6,Jm,Jg]),Qa rfl (X2 ⟨(Y5 (by simp_all [Yb])),rfl,(KM (by simp_all [Jm])),rfl,(KM (by simp_all)),rfl,(KM (by simp_all [Jg])),rfl,trivial⟩) ⟨rfl,rfl,rfl,trivial⟩⟩
  refine XL ?_
  refine zq ?_ ?_<;>intro h7
  ·refine QK ?_;refine Qc ?_;exact⟨(by simp_all [Y6,Jm,Jg]),Qa rfl (X2 ⟨(Y5 (by simp_all [Yb])),rfl,(KM (by simp_all [Jm])),rfl,(KM (by simp_all)),rfl,(KM (by simp_all [Jg])),rfl,trivial⟩) ⟨rfl,rfl,rfl,trivial⟩⟩
  refine QK ?_
  refine zq ?_ ?_<;>intro h8
  ·refine QR ?_;refine Qc ?_;exact⟨(by simp_all [Y6,Jm,Jg]),Qa rfl (X2 ⟨(Y5 (by simp_all [Yb])),rfl,(KM (by simp_all [Jm])),rfl,(KM (by simp_all)),rfl,(KM (by simp_all [Jg])),rfl,trivial⟩) ⟨rfl,rfl,rfl,trivial⟩⟩
  refine XL ?_
  refine zq ?_ ?_<;>intro h9
  ·refine QK ?_;refine Qc ?_;exact⟨(by simp_all [Y6,Jm,Jg]),Qa rfl (X2 ⟨(Y5 (by simp_all [Yb])),rfl,(KM (by simp_all [Jm])),rfl,(KM (by simp_all)),rfl,(KM (by simp_all [Jg])),rfl,trivial⟩) ⟨rfl,rfl,rfl,trivial⟩⟩
  refine QK ?_
  refine zq ?_ ?_<;>intro h10
  ·refine QR ?_;refine Qc ?_;exact⟨(by simp_all [Y6,Jm,Jg]),Qa rfl (X2 ⟨(Y5 (by simp_all [Yb])),rfl,(KM (by simp_all [Jm])),rfl,(KM (by simp_all)),rfl,(KM (by simp_all [Jg])),rfl,trivial⟩) ⟨rfl,rfl,rfl,trivial⟩⟩
  refine QL ?_
  refine zq ?_ ?_<;>intro h11
  ·refine QI ?_;refine Qc ?_;exact⟨(by simp_all [Y6,Jm,Jg]),Qa rfl (X2 ⟨(Y5 (by simp_all [Yb])),rfl,(KM (by simp_all [Jm])),rfl,(KM (by simp_all)),rfl,(KM (by simp_all [Jg])),rfl,trivial⟩) ⟨rfl,rfl,rfl,trivial⟩⟩
  refine QL ?_
  refine zq ?_ ?_<;>intro h12
  ·refine QR ?_;refine Qc ?_;exact⟨(by simp_all [Y6,Jm,Jg]),Qa rfl (X2 ⟨(Y5 (by simp_all [Yb])),rfl,(KM (by simp_all [Jm])),rfl,(KM (by simp_all)),rfl,(KM (by simp_all [Jg])),rfl,trivial⟩) ⟨rfl,rfl,rfl,trivial⟩⟩
  refine QL ?_
  refine zq ?_ ?_<;>intro h13
  ·refine zD 4 ?_;refine QI ?_;refine zp (JO rfl rfl) ?_;refine zS ?_;refine Qc ?_;exact⟨(by simp_all [Y6,Jm,Jg]),Qa rfl (X2 ⟨(Y5 (by simp_all [Yb])),rfl,(KM (by simp_all [Jm])),rfl,(KM (by simp_all)),rfl,(KM (by simp_all [Jg])),rfl,trivial⟩) ⟨rfl,rfl,rfl,trivial⟩⟩
  refine QL ?_
  refine zq ?_ ?_<;>intro h17
  ·refine QI ?_;refine Qc ?_;exact⟨(by simp_all [Y6,Jm,Jg]),Qa rfl (X2 ⟨(Y5 (by simp_all [Yb])),rfl,(KM (by simp_all [Jm])),rfl,(KM (by simp_all)),rfl,(KM (by simp_all [Jg])),rfl,trivial⟩) ⟨rfl,rfl,rfl,trivial⟩⟩
  refine QI ?_;refine zQ ?_;exact Q1 (by simp_all [XB,Y6,Jm,Jg])
 intro hkn;refine JI (⟨[(1,.ptr 0 0),(7,bl (Wh l))],[(0,.var 26 (Q7 l))],1⟩) ?_ ?_
 ·refine Xy ?_
  refine zc 36 ?_ ?_<;>intro h25
  ·refine Qha ?_;refine XR ?_;refine Qc ?_;exact Qa rfl (X2 ⟨(KM (by simp_all [Wh])),rfl,trivial⟩) ⟨rfl,rfl,rfl,trivial⟩
  refine QI ?_
  refine zc 39 ?_ ?_<;>intro h19
  rotate_left
  ·refine QK ?_;refine uP (X3 h25) (XG rfl rfl (m1 (n0 h19)) rfl) ?_;refine QL ?_
   refine zc 49 ?_ ?_<;>intro h20
   rotate_left
   ·refine XR ?_
    refine zc 59 ?_ ?_<;>intro h21
    rotate_left
    ·refine X5 ?_;refine Qc ?_;exact Qa rfl (X2 ⟨(KM (by simp_all [Wh])),rfl,trivial⟩) ⟨rfl,rfl,rfl,trivial⟩
    refine QK ?_
    refine zc 63 ?_ ?_<;>intro h58
    ·refine QI ?_;refine uP (XT (m0 (n1 h21))) (XK rfl rfl h58 rfl) ?_;refine QI ?_;refine Qc ?_;exact Qa rfl (X2 ⟨(KM (by simp_all [Wh])),rfl,trivial⟩) ⟨rfl,rfl,rfl,trivial⟩
    refine QI ?_;refine uP (XT (m0 (n1 h21))) (XG rfl rfl h58 rfl) ?_;refine QI ?_;refine Qc ?_;exact Qa rfl (X2 ⟨(KM (by simp_all [Wh])),rfl,trivial⟩) ⟨rfl,rfl,rfl,trivial⟩
   refine Xy ?_
   refine zc 56 ?_ ?_<;>intro h49
   ·refine WT ?_;refine Qc ?_;exact Qa rfl (X2 ⟨(KM (by simp_all [Wh])),rfl,trivial⟩) ⟨rfl,rfl,rfl,trivial⟩
   refine QI ?_
   refine zc 59 ?_ ?_<;>intro h21
   rotate_left
   ·refine Jl ?_;refine uP (X3 h49) (XG rfl rfl (m1 (n0 h21)) rfl) ?_;refine QR ?_;refine Qc ?_;exact Qa rfl (X2 ⟨(KM (by simp_all [Wh])),rfl,trivial⟩) ⟨rfl,rfl,rfl,trivial⟩
   refine QK ?_
   refine zc 63 ?_ ?_<;>intro h52
   ·refine QI ?_;refine uP (XT (m0 (n1 h21))) (XK rfl rfl h52 rfl) ?_;refine uP (X3 h49) (XK rfl rfl (m0 (n1 h21)) rfl) ?_;refine QR ?_;refine Qc ?_;exact Qa rfl (X2 ⟨(KM (by simp_all [Wh])),rfl,trivial⟩) ⟨rfl,rfl,rfl,trivial⟩
   refine QI ?_;refine uP (XT (m0 (n1 h21))) (XG rfl rfl h52 rfl) ?_;refine uP (X3 h49) (XK rfl rfl (m0 (n1 h21)) rfl) ?_;refine QR ?_;refine Qc ?_;exact Qa rfl (X2 ⟨(KM (by simp_all [Wh])),rfl,trivial⟩) ⟨rfl,rfl,rfl,trivial⟩
  refine QK ?_;refine uP (X3 h25) (XK rfl rfl (m0 (n1 h19)) rfl) ?_;refine QR ?_
  refine zc 46 ?_ ?_<;>intro h29
  ·refine Qha ?_;refine Qc ?_;exact Qa rfl (X2 ⟨(KM (by simp_all [Wh])),rfl,trivial⟩) ⟨rfl,rfl,rfl,trivial⟩
  refine QI ?_
  refine zc 49 ?_ ?_<;>intro h20
  rotate_left
  ·refine QK ?_;refine uP (X3 h29) (XG rfl rfl (m1 (n0 h20)) rfl) ?_;refine QL ?_
   refine zc 59 ?_ ?_<;>intro h21
   rotate_left
   ·refine X5 ?_;refine Qc ?_;exact Qa rfl (X2 ⟨(KM (by simp_all [Wh])),rfl,trivial⟩) ⟨rfl,rfl,rfl,trivial⟩
   refine QK ?_
   refine zc 63 ?_ ?_<;>intro h42
   ·refine QI ?_;refine uP (XT (m0 (n1 h21))) (XK rfl rfl h42 rfl) ?_;refine QI ?_;refine Qc ?_;exact Qa rfl (X2 ⟨(KM (by simp_all [Wh])),rfl,trivial⟩) ⟨rfl,rfl,rfl,trivial⟩
   refine QI ?_;refine uP (XT (m0 (n1 h21))) (XG rfl rfl h42 rfl) ?_;refine QI ?_;refine Qc ?_;exact Qa rfl (X2 ⟨(KM (by simp_all [Wh])),rfl,trivial⟩) ⟨rfl,rfl,rfl,trivial⟩
  refine QK ?_;refine uP (X3 h29) (XK rfl rfl (m0 (n1 h20)) rfl) ?_;refine QR ?_
  refine zc 56 ?_ ?_<;>intro h33
  ·refine WT ?_;refine Qc ?_;exact Qa rfl (X2 ⟨(KM (by simp_all [Wh])),rfl,trivial⟩) ⟨rfl,rfl,rfl,trivial⟩
  refine QI ?_
  refine zc 59 ?_ ?_<;>intro h21
  rotate_left
  ·refine Jl ?_;refine uP (X3 h33) (XG rfl rfl (m1 (n0 h21)) rfl) ?_;refine QR ?_;refine Qc ?_;exact Qa rfl (X2 ⟨(KM (by simp_all [Wh])),rfl,trivial⟩) ⟨rfl,rfl,rfl,trivial⟩
  refine QK ?_
  refine zc 63 ?_ ?_<;>intro h36
  ·refine QI ?_;refine uP (XT (m0 (n1 h21))) (XK rfl rfl h36 rfl) ?_;refine uP (X3 h33) (XK rfl rfl (m0 (n1 h21)) rfl) ?_;refine QR ?_;refine Qc ?_;exact Qa rfl (X2 ⟨(KM (by simp_all [Wh])),rfl,trivial⟩) ⟨rfl,rfl,rfl,trivial⟩
  refine QI ?_;refine uP (XT (m0 (n1 h21))) (XG rfl rfl h36 rfl) ?_;refine uP (X3 h33) (XK rfl rfl (m0 (n1 h21)) rfl) ?_;refine QR ?_;refine Qc ?_;exact Qa rfl (X2 ⟨(KM (by simp_all [Wh])),rfl,trivial⟩) ⟨rfl,rfl,rfl,trivial⟩
 refine JI (⟨[(7,bl (Wh l)),(8,bl (YS l))],[],0⟩) ?_ ?_
 ·refine QL ?_
  refine zc 73 ?_ ?_<;>intro h65
  ·refine X5 ?_;refine Qc ?_;exact Qa rfl (X2 ⟨(KM (by simp_all [YS])),rfl,trivial⟩) trivial
  refine QL ?_
  refine zc 78 ?_ ?_<;>intro h72
  ·refine XL ?_;refine Qc ?_;exact Qa rfl (X2 ⟨(KM (by simp_all [YS])),rfl,trivial⟩) trivial
  refine XL ?_;refine Qc ?_;exact Qa rfl (X2 ⟨(KM (by simp_all [YS])),rfl,trivial⟩) trivial
 refine QK ?_
 refine zc 85 ?_ ?_<;>intro h62
 ·refine QR ?_;refine zP (Qd (Qaj _ _) rfl rfl rfl) ?_;refine zS ?_;refine zQ ?_;exact Q1 (by simp[XB, *])
 refine QR ?_;refine zP (Qd (Qaj _ _) rfl rfl rfl) ?_;refine zS ?_;refine zQ ?_;exact Q1 (by simp[XB, *])
theorem QpJ (l:Qv):FC Tryz.prog 154 [.agg (Q7 l)] (i64 (JS l)):=by
 refine Qg [2] Tryz.func154 rfl rfl 22 Tryz.ntmps154 (Nat.le_of_ble_eq_true rfl) ?_
 intro E hN;refine J6 ?_;refine JI (⟨[(1,.ptr 0 0),(3,i64 (KO l.k))],[(0,.var 26 (Q7 l))],1⟩) ?_ ?_
 ·refine X5 ?_
  refine zq ?_ ?_<;>intro h5
  ·refine QR ?_;refine Qc ?_;exact Qa rfl (X2 ⟨(Y5 (by simp_all [KO])),rfl,trivial⟩) ⟨rfl,rfl,rfl,trivial⟩
  refine QL ?_
  refine zq ?_ ?_<;>intro h6
  ·refine QR ?_;refine Qc ?_;exact Qa rfl (X2 ⟨(Y5 (by simp_all [KO])),rfl,trivial⟩) ⟨rfl,rfl,rfl,trivial⟩
  refine QM ?_;exact Qa rfl (X2 ⟨(Y5 (by simp_all [KO])),rfl,trivial⟩) ⟨rfl,rfl,rfl,trivial⟩
 refine Jl ?_
 refine zc 15 ?_ ?_<;>intro h11
 ·refine QL ?_;refine zP (Qd (Qaj _ _) rfl rfl rfl) ?_;refine zS ?_;refine zQ ?_;exact Q1 (by simp only[List.length_map] at *;simp only[JS, *];simp)
 refine QL ?_;refine zP (Qd (Qaj _ _) rfl rfl rfl) ?_;refine zS ?_;refine zQ ?_;exact Q1 (by simp only[List.length_map] at *;simp only[JS, *];simp)
theorem QpN (l:Qv):FC Tryz.prog 156 [.agg (Q7 l)] (i64 (Je l)):=by
 refine Qg [2] Tryz.func156 rfl rfl 29 Tryz.ntmps156 (Nat.le_of_ble_eq_true rfl) ?_
 intro E hN;refine Qbp ?_
 refine zc 8 ?_ ?_<;>intro h7
 ·refine QeV ?_;refine zP (Qd (Qaj _ _) rfl rfl rfl) ?_;refine zS ?_;refine zQ ?_;exact Q1 (by simp only[Je, *];simp)
 refine QL ?_
 refine zc 13 ?_ ?_<;>intro h11
 ·refine WT ?_;refine zP (Qd (Qaj _ _) rfl rfl rfl) ?_;refine zS ?_;refine zQ ?_;exact Q1 (by simp only[Je, *];simp)
 refine QL ?_
 refine zc 18 ?_ ?_<;>intro h15
 ·refine J6 ?_;refine zP (Qd (Qaj _ _) rfl rfl rfl) ?_;refine zS ?_;refine zQ ?_;exact Q1 (by simp only[Je, *];simp)
 refine QL ?_
 refine zc 23 ?_ ?_<;>intro h19
 ·refine QK ?_;refine zP (Qd (Qaj _ _) rfl rfl rfl) ?_;refine zS ?_;refine zQ ?_;exact Q1 (by simp only[Je, *];simp)
 refine QK ?_;refine zP (Qd (Qaj _ _) rfl rfl rfl) ?_;refine zS ?_;refine zQ ?_;exact Q1 (by simp only[Je, *];simp)
theorem QpK (n:Nat):∀l:Qv,SizeOf.sizeOf l<n→FC Tryz.prog 193 [.agg (Q7 l)] (bl (chainB l)):=by
 induction n with
 |zero=>intro l h;omega
 |succ n ih=>
 intro l hl
 refine Qg [2] Tryz.func193 rfl rfl 29 Tryz.ntmps193 (Nat.le_of_ble_eq_true rfl) ?_
 intro E hN;refine Qfe ?_
 refine zq ?_ ?_<;>intro h5
 ·refine QL ?_;refine zQ ?_;exact Qr (Qfu (by simp[*])).symm
 refine QL ?_
 refine zq ?_ ?_<;>intro h6
 ·refine QL ?_;refine zQ ?_;exact Qr (Qfu (by simp[*])).symm
 refine QK ?_
 refine zq ?_ ?_<;>intro h7
 ·refine QI ?_;refine zQ ?_;exact Qr (Qfu (by simp[*])).symm
 refine QL ?_
 refine zq ?_ ?_<;>intro h8
 rotate_left
 ·refine QK ?_;refine zQ ?_;exact Qr (YF (by assumption) (by assumption) (by assumption) (.inl (by assumption))).symm
 refine Xy ?_
 refine zc 15 ?_ ?_<;>intro h12
 rotate_left
 ·refine WT ?_;refine zQ ?_;exact Qr (by first|(rw[Qd7 (by assumption) hab];simp[*];done)|(rw[YF (by assumption) (by assumption) (by assumption) (.inr (by simp_all;omega))]))
 obtain⟨a,b,hab⟩:∃a b,l.ps=[a,b]:=by
  match hp:l.ps with
  |[a,b]=>exact⟨a,b,rfl⟩
  |[]=>simp_all
  |[_]=>simp_all
  |_::_::_::_=>simp_all;omega
 have ha:l.ps[0]?=some a:=by rw[hab];rfl
 have hb:l.ps[1]?=some b:=by rw[hab];rfl
 refine QR ?_;refine uP (XT h12) (Qh rfl rfl rfl 0 rfl _ (X9 ha) rfl) ?_;refine Yy ?_;refine uP (XT h12) (Qd (ih a (by have:=Qv.sizeOf_ps (List.mem_of_getElem? ha);omega)) rfl rfl rfl) ?_;refine QR ?_
 refine zc 22 ?_ ?_<;>intro h17
 ·refine QR ?_;refine uP (XT h17) (Qh rfl rfl rfl 1 rfl _ (X9 hb) rfl) ?_;refine Yy ?_;refine uP (XT h17) (Qd (ih b (by have:=Qv.sizeOf_ps (List.mem_of_getElem? hb);omega)) rfl rfl rfl) ?_;refine QR ?_;refine zQ ?_;exact Qr (by first|(rw[Qd7 (by assumption) hab];simp[*];done)|(rw[YF (by assumption) (by assumption) (by assumption) (.inr (by simp_all;omega))]))
 refine Xy ?_;refine zQ ?_;exact Qr (by first|(rw[Qd7 (by assumption) hab];simp[*];done)|(rw[YF (by assumption) (by assumption) (by assumption) (.inr (by simp_all;omega))]))
theorem Qsh (l:Qv):FC Tryz.prog 193 [.agg (Q7 l)] (bl (chainB l)):=QpK _ l (Nat.lt_succ_self _)
end Go.Proofs.YtnkkokmmeplbgaaGreat
