/-
  Contracts: the reference's comparison of values, their size;
-/
import Derived.Test.YtnkkokmmeplbgaaGreatB11
import Derived.Test.YtnkkokmmeplbgaaGreatA4
namespace Go.Proofs.YtnkkokmmeplbgaaGreat
set_option maxRecDepth 100000
set_option maxHeartbeats 1000000
open Go.RowKit
def Qbi (b:Bool):Int:=if b then -1 else 1
def Qh8 (m n:Nat):Int:=if m=n then 0 else Qbi (decide (m<n))
theorem Qsn {x y:Int}(h:x≠y):Lib.compareInt x y=Qbi (decide (x<y)):=by
 unfold Lib.compareInt Qbi
 rcases Int.lt_trichotomy x y with h1|h1|h1
 ·simp[h1]
 ·exact absurd h1 h
 have h2:¬x<y:=by omega
 simp[h1,h2]
theorem Qjr (x:Int):Lib.compareInt x x=0:=by unfold Lib.compareInt;simp
theorem Qry {x y:Nm}(h:x≠y):Lib.compareBytes x y=Qbi (Op.bytesLess x y):=by
 rw[YV]
 unfold Qbi
 cases h1:Op.bytesLess x y<;>simp[h]
theorem QeM (b:Bool):Qbi b≠0:=by unfold Qbi;split<;>decide
theorem tk_1 {x y:Tk}(h:x.1≠y.1):Qa0 x y=Qbi (decide (x.1<y.1)):=by
 rw[Qa0,Qg6,Qsn h,if_neg (QeM _)]
theorem tk_2 {x y:Tk}(h1:x.1=y.1)(h:x.2≠y.2):Qa0 x y=Qbi (decide (x.2<y.2)):=by
 rw[Qa0,Qg6,h1,Qjr,if_pos rfl,Qsn h]
theorem tk_0 {x y:Tk}(h1:x.1=y.1)(h:x.2=y.2):Qa0 x y=0:=by
 rw[Qa0,Qg6,h1,h,Qjr,Qjr];rfl
theorem en_1 {x y:En}(h:x.2≠y.2):JV x y=Qbi (Op.bytesLess x.2 y.2):=by
 rw[JV,Qg6,Qry h,if_neg (QeM _)]
theorem en_2 {x y:En}(h:x.2=y.2):JV x y=XD Qa0 x.1 y.1:=by
 rw[JV,Qg6,h,Yg.refl,if_pos rfl]
section
variable {α:Type}{c:α→α→Int}{a b:List α}{k:Nat}
theorem Qd0 (e:XD c (a.drop k) (b.drop k)=XD c a b)(hk:k≤a.length)(hk2:k≤b.length)(h:a.length≤k∨b.length≤k):XD c a b=Qh8 a.length b.length:=by
 have one:∀(l:List α),l.length=k→l.drop k=[]:=fun l h=>List.drop_of_length_le (by omega)
 unfold Qh8
 rcases Nat.lt_trichotomy a.length b.length with h1|h1|h1
 ·have:=one a (by omega)
  obtain⟨y,hy⟩:=Qw (show k<b.length by omega);rw[←e,this,XI hy,if_neg (by omega)]
  simp[XD,Qbi,h1]
 ·have:=one a (by omega)
  have:=one b (by omega)
  rw[←e,this,one a (by omega),if_pos h1];rfl
 have:=one b (by omega)
 obtain⟨y,hy⟩:=Qw (show k<a.length by omega);rw[←e,this,XI hy,if_neg (by omega)];have h2:¬a.length<b.length:=by omega
 simp[XD,Qbi,h2]
end
theorem Qxb {m n:Nat}(h:m=n):Qh8 m n=0:=by unfold Qh8;rw[if_pos h]
theorem QxK {m n:Nat}(h:m≠n):Qh8 m n≠0:=by unfold Qh8;rw[if_neg h];exact QeM _
theorem cv_1 {x y:Qz}(h:x.N≠y.N):JH x y=Qbi (decide (x.N<y.N)):=by
 rw[Wj,Qg6,Qsn h,if_neg (QeM _),if_pos (QeM _)]
theorem QxG {x y:Qz}(h:x.N=y.N)(h2:XD Lib.compareBytes x.nm y.nm≠0):JH x y=XD Lib.compareBytes x.nm y.nm:=by
 rw[Wj,Qg6,h,Qjr,if_pos rfl,if_pos h2]
theorem QxJ {x y:Qz}(h:x.N=y.N)(h2:XD Lib.compareBytes x.nm y.nm=0)(h3:XD JH x.ps y.ps≠0):JH x y=XD JH x.ps y.ps:=by
 rw[Wj,Qg6,h,Qjr,if_pos rfl,if_neg (by rw[h2];decide),if_pos h3]
theorem Qx5 {x y:Qz}(h:x.N=y.N)(h2:XD Lib.compareBytes x.nm y.nm=0)(h3:XD JH x.ps y.ps=0):JH x y=XD JV x.es y.es:=by
 rw[Wj,Qg6,h,Qjr,if_pos rfl,if_neg (by rw[h2];decide),if_neg (by rw[h3];decide)]
def Qb4 (es:List En):Nat:=(es.map (fun e=>1+e.1.length)).sum
mutual
def Wq:Qz→Nat
 | .mk _ nm ps es=>1+nm.length+Qb4 es+Yz ps
def Yz:List Qz→Nat
 |[]=>0
 |a::r=>Wq a+Yz r
end
theorem Qgn (x:Qz):Wq x=1+x.nm.length+Qb4 x.es+Yz x.ps:=by
 cases x with
 |mk N nm ps es=>rw[Wq];rfl
theorem Qcj:∀(a b:List Qz),Yz (a++b)=Yz a+Yz b
 |[],b=>by simp[Yz]
 |x::r,b=>by rw[List.cons_append,Yz,Yz,Qcj r b];omega
theorem QgU (a b:List En):Qb4 (a++b)=Qb4 a+Qb4 b:=by simp[Qb4]
theorem Qi1 {es:List En}{k:Nat}{e:En}(h:es[k]?=some e):Qb4 (es.take (k+1))=Qb4 (es.take k)+(1+e.1.length):=by
 obtain⟨hk,rfl⟩:=List.getElem?_eq_some_iff.1 h;rw[List.take_succ_eq_append_getElem hk,QgU]
 simp[Qb4]
theorem Ql8 {ps:List Qz}{k:Nat}{e:Qz}(h:ps[k]?=some e):Yz (ps.take (k+1))=Yz (ps.take k)+Wq e:=by
 obtain⟨hk,rfl⟩:=List.getElem?_eq_some_iff.1 h;rw[List.take_succ_eq_append_getElem hk,Qcj]
 simp[Yz]
theorem Qpm (es:List En)(k:Nat):Qb4 (es.take k)≤Qb4 es:=by
 have h:=QgU (es.take k) (es.drop k)
 rw[List.take_append_drop] at h
 omega
theorem Qq6 (ps:List Qz)(k:Nat):Yz (ps.take k)≤Yz ps:=by
 have h:=Qcj (ps.take k) (ps.drop k)
 rw[List.take_append_drop] at h
 omega
def QcU (x:Qz)(m:Int):Int:=if (Wq x:Int)≤m then m-Wq x else -1
theorem QcF {x:Qz}{m:Int}(h:m<Wq x):QcU x m = -1:=by unfold QcU;rw[if_neg (by omega)]
theorem QpL {x:Qz}{m:Int}(h:(Wq x:Int)≤m):QcU x m=m-Wq x:=by unfold QcU;rw[if_pos h]
def Wu (x:Qz)(m:Int):Bool:=decide ((Wq x:Int)≤m)
theorem Qev (b:Bool):FC Tryz.prog 113 [bl b] (i64 (Qbi b)):=by
 refine Qg [2] Tryz.func113 rfl rfl 4 Tryz.ntmps113 (Nat.le_of_ble_eq_true rfl) ?_
 intro E hN;refine J6 ?_
 refine zq ?_ ?_<;>intro h1
 ·refine QI ?_;refine zQ ?_;exact Q1 (by simp_all [Qbi])
 refine QK ?_;refine zQ ?_;exact Q1 (by simp_all [Qbi])
theorem QbT (m n:Nat):FC Tryz.prog 114 [i64 (m:Nat),i64 (n:Nat)] (i64 (Qh8 m n)):=by
 refine Qg [4] Tryz.func114 rfl rfl 12 Tryz.ntmps114 (Nat.le_of_ble_eq_true rfl) ?_
 intro E hN;refine X5 ?_
 refine zq ?_ ?_<;>intro h3
 ·have h1:m=n:=by
   have:(m:Int)=n:=by simpa using h3
   omega
  refine QI ?_;refine zQ ?_;exact Q1 (Qxb h1).symm
 have h1:m≠n:=by
  have:¬(m:Int)=n:=by simpa using h3
  omega
 refine XL ?_;refine zP (Qd (Qev _) rfl rfl rfl) ?_;refine zS ?_;refine zQ ?_;exact Q1 (by rw[Qh8,if_neg h1];simp)
theorem Qqy (a b:List Tk):FC Tryz.prog 146 [tks a,tks b] (i64 (XD Qa0 a b)):=by
 refine Qg [4] Tryz.func146 rfl rfl 69 Tryz.ntmps146 (Nat.le_of_ble_eq_true rfl) ?_
 intro E hN;refine Jq 0 rfl (fun hl0=>?_);refine XR ?_;refine Qq (fun x:{k:Nat // k≤(a).length∧k≤b.length∧XD Qa0 (a.drop k) (b.drop k)=XD Qa0 a b}=>⟨[(0,tks a),(1,tks b),(5,i64 (x.1:Nat))],[],0⟩) (fun x=>(a).length-x.1) (⟨0,Nat.zero_le _,by simp⟩) ?_ ?_
 ·exact Qa rfl (YG trivial) trivial
 rintro⟨k,hk,hg⟩;dsimp only;refine Jl ?_
 refine zc 10 ?_ ?_<;>intro h7
 rotate_left
 ·have hge:a.length≤k∨b.length≤k:=.inl (by simpa using h7)
  refine WT ?_;refine zP (Qd (QbT _ _) rfl rfl rfl) ?_;refine zS ?_;refine zQ ?_;exact Q1 (by rw[Qd0 hg.2 hk hg.1 hge,List.length_map,List.length_map])
 have hla:k<a.length:=by simpa using h7
 refine XL ?_
 refine zq ?_ ?_<;>intro h9
 rotate_left
 ·have hge:a.length≤k∨b.length≤k:=.inr (by simpa using h9)
  refine Xy ?_;refine zP (Qd (QbT _ _) rfl rfl rfl) ?_;refine zS ?_;refine zQ ?_;exact Q1 (by rw[Qd0 hg.2 hk hg.1 hge,List.length_map,List.length_map])
 have hlb:k<b.length:=by simpa using h9
 obtain⟨x,hx⟩:=Qw hla;obtain⟨y,hy⟩:=Qw hlb;refine QL ?_;refine zD 10 ?_;refine QR ?_;refine zp (Qh rfl rfl rfl k rfl _ (Qt hx) rfl) ?_;refine QK ?_;refine zp (Qh rfl rfl rfl k rfl _ (Qt hy) rfl) ?_;refine QK ?_
 refine zq ?_ ?_<;>intro h16
 ·have h4:x.1≠y.1:=by simpa using h16
  refine Yy ?_;refine zD 12 ?_;refine QR ?_;refine zp (Qh rfl rfl rfl k rfl _ (Qt hx) rfl) ?_;refine QK ?_;refine zp (Qh rfl rfl rfl k rfl _ (Qt hy) rfl) ?_;refine QI ?_;refine zp (Qd (Qev _) rfl rfl rfl) ?_;refine zS ?_;refine zQ ?_;exact Q1 (by rw[Kl hg.2 hx hy,tk_1 h4,if_neg (QeM _)])
 have h4:x.1=y.1:=by simpa using h16
 refine QR ?_;refine zD 10 ?_;refine QR ?_;refine zp (Qh rfl rfl rfl k rfl _ (Qt hx) rfl) ?_;refine QK ?_;refine zp (Qh rfl rfl rfl k rfl _ (Qt hy) rfl) ?_;refine QK ?_
 refine zq ?_ ?_<;>intro h31
 rotate_left
 ·have h6:x.2=y.2:=by simpa using h31
  refine QL ?_;refine Qc ?_;exact⟨⟨k+1,hla,hlb,by rw[Kl hg.2 hx hy,if_pos (tk_0 h4 h6)]⟩,Qa rfl (Yw ⟨JC,rfl,trivial⟩) trivial,by dsimp only;omega⟩
 have h6:x.2≠y.2:=by simpa using h31
 refine Yy ?_;refine zD 12 ?_;refine QR ?_;refine zp (Qh rfl rfl rfl k rfl _ (Qt hx) rfl) ?_;refine QK ?_;refine zp (Qh rfl rfl rfl k rfl _ (Qt hy) rfl) ?_;refine QI ?_;refine zp (Qd (Qev _) rfl rfl rfl) ?_;refine zS ?_;refine zQ ?_;exact Q1 (by rw[Kl hg.2 hx hy,tk_2 h4 h6,if_neg (QeM _)])
theorem Qj0 (x y:En):FC Tryz.prog 115 [.agg (enC x),.agg (enC y)] (i64 (JV x y)):=by
 refine Qg [4] Tryz.func115 rfl rfl 21 Tryz.ntmps115 (Nat.le_of_ble_eq_true rfl) ?_
 intro E hN;refine QgC ?_
 refine zq ?_ ?_<;>intro h9
 ·have h1:x.2≠y.2:=by simpa using h9
  refine Xy ?_;refine zP (Qd (Qev _) rfl rfl rfl) ?_;refine zS ?_;refine zQ ?_;exact Q1 (en_1 h1).symm
 have h1:x.2=y.2:=by simpa using h9
 refine Xy ?_;refine zP (Qd (Qqy _ _) rfl rfl rfl) ?_;refine zS ?_;refine zQ ?_;exact Q1 (en_2 h1).symm
theorem QwZ (x0 y0:Qz)(ih:∀u∈x0.ps,∀v,FC Tryz.prog 66 [.agg (QO u),.agg (QO v)] (i64 (JH u v))):FC Tryz.prog 66 [.agg (QO x0),.agg (QO y0)] (i64 (JH x0 y0)):=by
 refine Qg [4] Tryz.func66 rfl rfl 149 Tryz.ntmps66 (Nat.le_of_ble_eq_true rfl) ?_
 intro E hN;refine QgC ?_
 refine zq ?_ ?_<;>intro h9
 ·have hN':x0.N≠y0.N:=by simpa using h9
  refine Xy ?_;refine zP (Qd (Qev _) rfl rfl rfl) ?_;refine zS ?_;refine zQ ?_;exact Q1 (cv_1 hN').symm
 have hNe:x0.N=y0.N:=by simpa using h9
 refine zW ?_;refine QdV (⟨[(2,.ptr 0 0),(3,.ptr 1 0)],[(0,.var 30 (QO x0)),(1,.var 30 (QO y0))],2⟩) (XD Lib.compareBytes x0.nm y0.nm=Qh8 x0.nm.length y0.nm.length) ?_ ?_
 ·refine QL ?_;refine Qq (fun x:{k:Nat // k≤(x0.nm).length∧k≤y0.nm.length∧XD Lib.compareBytes (x0.nm.drop k) (y0.nm.drop k)=XD Lib.compareBytes x0.nm y0.nm}=>⟨[(2,.ptr 0 0),(3,.ptr 1 0),(5,i64 (x.1:Nat))],[(0,.var 30 (QO x0)),(1,.var 30 (QO y0))],2⟩) (fun x=>(x0.nm).length-x.1) (⟨0,Nat.zero_le _,by simp⟩) ?_ ?_
  ·exact Qa rfl (YG trivial) ⟨rfl,rfl,rfl,rfl,rfl,rfl,trivial⟩
  rintro⟨k,hk,hg⟩;dsimp only;refine J6 ?_
  refine zc 26 ?_ ?_<;>intro h22
  rotate_left
  ·have hge:x0.nm.length≤k∨y0.nm.length≤k:=.inl (by simpa using h22)
   refine Jl ?_;refine Qah ?_;exact⟨(by exact Qd0 hg.2 hk hg.1 hge),Qa rfl (Yw trivial) ⟨rfl,rfl,rfl,rfl,rfl,rfl,trivial⟩⟩
  have hla:k<x0.nm.length:=by simpa using h22
  refine Xy ?_
  refine zq ?_ ?_<;>intro h26
  rotate_left
  ·have hge:x0.nm.length≤k∨y0.nm.length≤k:=.inr (by simpa using h26)
   refine Qah ?_;exact⟨(by exact Qd0 hg.2 hk hg.1 hge),Qa rfl (Yw trivial) ⟨rfl,rfl,rfl,rfl,rfl,rfl,trivial⟩⟩
  have hlb:k<y0.nm.length:=by simpa using h26
  obtain⟨x,hx⟩:=Qw hla;obtain⟨y,hy⟩:=Qw hlb;refine QK ?_;refine zD 10 ?_;refine QI ?_;refine zp (Qh rfl rfl rfl k rfl _ (Qt hx) rfl) ?_;refine QK ?_;refine zp (Qh rfl rfl rfl k rfl _ (Qt hy) rfl) ?_;refine QI ?_
  refine zq ?_ ?_<;>intro h35
  ·have h0:x≠y:=by simpa using h35
   refine Yy ?_;refine zD 12 ?_;refine QI ?_;refine zp (Qh rfl rfl rfl k rfl _ (Qt hx) rfl) ?_;refine QK ?_;refine zp (Qh rfl rfl rfl k rfl _ (Qt hy) rfl) ?_;refine QR ?_;refine zp (Qd (Qev _) rfl rfl rfl) ?_;refine zS ?_;refine zQ ?_;exact Q1 (by rw[QxG hNe (by rw[Kl hg.2 hx hy,Qry h0,if_neg (QeM _)];exact QeM _),Kl hg.2 hx hy,Qry h0,if_neg (QeM _)])
  have h0:Lib.compareBytes x y=0:=by rw[show x=y by simpa using h35];exact Yg.refl y
  refine Yy ?_;refine Jq 23 rfl (fun hl23=>?_);refine QK ?_;refine Qc ?_;exact⟨⟨k+1,hla,hlb,by rw[Kl hg.2 hx hy,if_pos h0]⟩,Qa rfl (Yw ⟨JC,rfl,trivial⟩) ⟨rfl,rfl,rfl,rfl,rfl,rfl,trivial⟩,by dsimp only;omega⟩
 intro hFnm;refine X5 ?_
 refine zq ?_ ?_<;>intro h55
 ·have h8:x0.nm.length≠y0.nm.length:=by
   have:¬(x0.nm.length:Int)=y0.nm.length:=by simpa using h55
   omega
  refine Jl ?_;refine zP (Qd (QbT _ _) rfl rfl rfl) ?_;refine zS ?_;refine zQ ?_;exact Q1 (by rw[QxG hNe (by rw[hFnm];exact QxK h8),hFnm,List.length_map,List.length_map])
 have h8:x0.nm.length=y0.nm.length:=by
  have:(x0.nm.length:Int)=y0.nm.length:=by simpa using h55
  omega
 have h8z:=hFnm.trans (Qxb h8)
 refine zW ?_;refine QdV (⟨[(2,.ptr 0 0),(3,.ptr 1 0)],[(0,.var 30 (QO x0)),(1,.var 30 (QO y0))],2⟩) (XD JH x0.ps y0.ps=Qh8 x0.ps.length y0.ps.length) ?_ ?_
 ·refine QL ?_;refine Qq (fun x:{k:Nat // k≤(x0.ps).length∧k≤y0.ps.length∧XD JH (x0.ps.drop k) (y0.ps.drop k)=XD JH x0.ps y0.ps}=>⟨[(2,.ptr 0 0),(3,.ptr 1 0),(6,i64 (x.1:Nat))],[(0,.var 30 (QO x0)),(1,.var 30 (QO y0))],2⟩) (fun x=>(x0.ps).length-x.1) (⟨0,Nat.zero_le _,by simp⟩) ?_ ?_
  ·exact Qa rfl (YG trivial) ⟨rfl,rfl,rfl,rfl,rfl,rfl,trivial⟩
  rintro⟨k,hk,hg⟩;dsimp only;refine J6 ?_
  refine zc 77 ?_ ?_<;>intro h69
  rotate_left
  ·have hge:x0.ps.length≤k∨y0.ps.length≤k:=.inl (by simpa using h69)
   refine Jl ?_;refine Qah ?_;exact⟨(by exact Qd0 hg.2 hk hg.1 hge),Qa rfl (Yw trivial) ⟨rfl,rfl,rfl,rfl,rfl,rfl,trivial⟩⟩
  have hla:k<x0.ps.length:=by simpa using h69
  refine Xy ?_
  refine zq ?_ ?_<;>intro h73
  rotate_left
  ·have hge:x0.ps.length≤k∨y0.ps.length≤k:=.inr (by simpa using h73)
   refine Qah ?_;exact⟨(by exact Qd0 hg.2 hk hg.1 hge),Qa rfl (Yw trivial) ⟨rfl,rfl,rfl,rfl,rfl,rfl,trivial⟩⟩
  have hlb:k<y0.ps.length:=by simpa using h73
  obtain⟨x,hx⟩:=Qw hla;obtain⟨y,hy⟩:=Qw hlb;refine QK ?_;refine zD 11 ?_;refine QI ?_;refine zp (Qh rfl rfl rfl k rfl _ (Q8 hx) rfl) ?_;refine QK ?_;refine zp (Qh rfl rfl rfl k rfl _ (Q8 hy) rfl) ?_;refine zl ?_;refine zp (Qd (ih x (List.mem_of_getElem? hx) y) rfl rfl rfl) ?_;refine Xy ?_
  refine zq ?_ ?_<;>intro h83
  ·have h0:JH x y≠0:=by simpa using h83
   refine QK ?_;refine zQ ?_;exact Q1 (by rw[QxJ hNe h8z (by rw[Kl hg.2 hx hy,if_neg h0];exact h0),Kl hg.2 hx hy,if_neg h0])
  have h0:JH x y=0:=by simpa using h83
  refine Yy ?_;refine Jq 74 rfl (fun hl74=>?_);refine QK ?_;refine Qc ?_;exact⟨⟨k+1,hla,hlb,by rw[Kl hg.2 hx hy,if_pos h0]⟩,Qa rfl (Yw ⟨JC,rfl,trivial⟩) ⟨rfl,rfl,rfl,rfl,rfl,rfl,trivial⟩,by dsimp only;omega⟩
 intro hFps;refine X5 ?_
 refine zq ?_ ?_<;>intro h93
 ·have h16:x0.ps.length≠y0.ps.length:=by
   have:¬(x0.ps.length:Int)=y0.ps.length:=by simpa using h93
   omega
  refine Jl ?_;refine zP (Qd (QbT _ _) rfl rfl rfl) ?_;refine zS ?_;refine zQ ?_;exact Q1 (by rw[QxJ hNe h8z (by rw[hFps];exact QxK h16),hFps,List.length_map,List.length_map])
 have h16:x0.ps.length=y0.ps.length:=by
  have:(x0.ps.length:Int)=y0.ps.length:=by simpa using h93
  omega
 have h16z:=hFps.trans (Qxb h16)
 refine zW ?_;refine QdV (⟨[(2,.ptr 0 0),(3,.ptr 1 0)],[(0,.var 30 (QO x0)),(1,.var 30 (QO y0))],2⟩) (XD JV x0.es y0.es=Qh8 x0.es.length y0.es.length) ?_ ?_
 ·refine QL ?_;refine Qq (fun x:{k:Nat // k≤(x0.es).length∧k≤y0.es.length∧XD JV (x0.es.drop k) (y0.es.drop k)=XD JV x0.es y0.es}=>⟨[(2,.ptr 0 0),(3,.ptr 1 0),(8,i64 (x.1:Nat))],[(0,.var 30 (QO x0)),(1,.var 30 (QO y0))],2⟩) (fun x=>(x0.es).length-x.1) (⟨0,Nat.zero_le _,by simp⟩) ?_ ?_
  ·exact Qa rfl (YG trivial) ⟨rfl,rfl,rfl,rfl,rfl,rfl,trivial⟩
  rintro⟨k,hk,hg⟩;dsimp only;refine J6 ?_
  refine zc 119 ?_ ?_<;>intro h107
  rotate_left
  ·have hge:x0.es.length≤k∨y0.es.length≤k:=.inl (by simpa using h107)
   refine Jl ?_;refine Qah ?_;exact⟨(by exact Qd0 hg.2 hk hg.1 hge),Qa rfl (Yw trivial) ⟨rfl,rfl,rfl,rfl,rfl,rfl,trivial⟩⟩
  have hla:k<x0.es.length:=by simpa using h107
  refine Xy ?_
  refine zq ?_ ?_<;>intro h111
  rotate_left
  ·have hge:x0.es.length≤k∨y0.es.length≤k:=.inr (by simpa using h111)
   refine Qah ?_;exact⟨(by exact Qd0 hg.2 hk hg.1 hge),Qa rfl (Yw trivial) ⟨rfl,rfl,rfl,rfl,rfl,rfl,trivial⟩⟩
  have hlb:k<y0.es.length:=by simpa using h111
  obtain⟨x,hx⟩:=Qw hla;obtain⟨y,hy⟩:=Qw hlb;refine QK ?_;refine zD 11 ?_;refine QI ?_;refine zp (Qh rfl rfl rfl k rfl _ (Qt hx) rfl) ?_;refine QK ?_;refine zp (Qh rfl rfl rfl k rfl _ (Qt hy) rfl) ?_;refine zl ?_;refine zp (Qd (Qj0 x y) rfl rfl rfl) ?_;refine Xy ?_
  refine zq ?_ ?_<;>intro h121
  ·have h0:JV x y≠0:=by simpa using h121
   refine QK ?_;refine zQ ?_;exact Q1 (by rw[Qx5 hNe h8z h16z,Kl hg.2 hx hy,if_neg h0])
  have h0:JV x y=0:=by simpa using h121
  refine Yy ?_;refine Jq 116 rfl (fun hl116=>?_);refine QK ?_;refine Qc ?_;exact⟨⟨k+1,hla,hlb,by rw[Kl hg.2 hx hy,if_pos h0]⟩,Qa rfl (Yw ⟨JC,rfl,trivial⟩) ⟨rfl,rfl,rfl,rfl,rfl,rfl,trivial⟩,by dsimp only;omega⟩
 intro hFes;refine Jl ?_;refine zP (Qd (QbT _ _) rfl rfl rfl) ?_;refine zS ?_;refine zQ ?_;exact Q1 (by rw[Qx5 hNe h8z h16z,hFes,List.length_map,List.length_map])
theorem Qpe (x y:Qz):FC Tryz.prog 66 [.agg (QO x),.agg (QO y)] (i64 (JH x y)):=QwZ x y (fun u _ v=>Qpe u v)
termination_by x
decreasing_by exact Qz.sizeOf_ps ‹_›
theorem QcR (x y:Qz):FC Tryz.prog 21 [.agg (QO x),.agg (QO y)] (bl (eqV x y)):=by
 refine Qg [4] Tryz.func21 rfl rfl 9 Tryz.ntmps21 (Nat.le_of_ble_eq_true rfl) ?_
 intro E hN;refine XR ?_;refine zP (Qd (Qpe x y) rfl rfl rfl) ?_;refine QR ?_;refine zQ ?_
 rfl
theorem QuP {x:Qz}{m:Int}(h:QcU x m<0):m<Wq x:=by unfold QcU at h;split at h<;>omega
theorem Quk {x:Qz}{m:Int}(h:¬QcU x m<0):(Wq x:Int)≤m∧QcU x m=m-Wq x:=by unfold QcU at h ⊢;split at h<;>simp_all
theorem Qxi (x0:Qz)(ih:∀u∈x0.ps,∀m,0≤m→m≤1000000→FC Tryz.prog 58 [.agg (QO u),i64 m] (i64 (QcU u m)))(m:Int)(h0:0≤m)(h1:m≤1000000):FC Tryz.prog 58 [.agg (QO x0),i64 m] (i64 (QcU x0 m)):=by
 have hnd:=Qgn x0
 refine Qg [4] Tryz.func58 rfl rfl 71 Tryz.ntmps58 (Nat.le_of_ble_eq_true rfl) ?_
 intro E hN;refine X5 ?_
 refine zc 9 ?_ ?_<;>intro h4
 ·have h1a:=of_decide_eq_true h4
  try rw[List.length_map] at h1a
  refine JF ?_;refine zQ ?_;exact Q1 (QcF (by omega)).symm
 have h1a:=of_decide_eq_false h4
 try rw[List.length_map] at h1a
 refine QK ?_;refine uP (X3 h4) (KV rfl rfl rfl (by(try simp only[List.length_map]);omega)) ?_;refine QI ?_
 refine zq ?_ ?_<;>intro h9
 ·have h1b:=of_decide_eq_true h9
  try rw[List.length_map] at h1b
  refine QI ?_;refine zQ ?_;exact Q1 (QcF (by omega)).symm
 have h1b:=of_decide_eq_false h9
 try rw[List.length_map] at h1b
 refine Xy ?_;refine zP (WM rfl rfl rfl (by(try simp only[List.length_map]);omega)) ?_;refine zP (KV rfl rfl rfl (by(try simp only[List.length_map]);omega)) ?_;refine Jl ?_;refine Qq (fun x:{k:Nat // k≤(x0.es).length∧(1+(x0.nm.length:Int)+(Qb4 (x0.es.take k):Int))≤m}=>⟨[(2,.ptr 0 0),(1,i64 (m-(1+(x0.nm.length:Int))-(Qb4 (x0.es.take x.1):Int))),(5,i64 (x.1:Nat))],[(0,.var 30 (QO x0))],1⟩) (fun x=>(x0.es).length-x.1) (⟨0,Nat.zero_le _,by simp[Qb4];omega⟩) ?_ ?_
 ·exact Qa rfl (X2 ⟨(Y5 (by simp[Qb4])),rfl,(X2 trivial)⟩) ⟨rfl,rfl,rfl,trivial⟩
 rintro⟨k,hk,hg⟩;dsimp only;refine J6 ?_
 refine zq ?_ ?_<;>intro h21
 ·have hlt:k<(x0.es).length:=by simpa using h21
  obtain⟨x,hx⟩:=Qw hlt
  have e1:=Qi1 hx
  have e2:=Qpm x0.es (k+1)
  refine J6 ?_
  refine zc 32 ?_ ?_<;>intro h22
  ·have h7a:=of_decide_eq_true h22
   try rw[List.length_map] at h7a
   refine QbP ?_;refine zQ ?_;exact Q1 (QcF (by omega)).symm
  have h7a:=of_decide_eq_false h22
  try rw[List.length_map] at h7a
  refine QI ?_;refine uP (X3 h22) (Qh rfl rfl rfl k rfl _ (Qt hx) rfl) ?_;refine QK ?_;refine uP (X3 h22) (KV rfl rfl rfl (by(try simp only[List.length_map]);omega)) ?_;refine QI ?_
  refine zq ?_ ?_<;>intro h30
  ·have h7b:=of_decide_eq_true h30
   try rw[List.length_map] at h7b
   refine QI ?_;refine zQ ?_;exact Q1 (QcF (by omega)).symm
  have h7b:=of_decide_eq_false h30
  try rw[List.length_map] at h7b
  refine XL ?_;refine zP (Qh rfl rfl rfl k rfl _ (Qt hx) rfl) ?_;refine QI ?_;refine zP (WM rfl rfl rfl (by(try simp only[List.length_map]);omega)) ?_;refine zP (KV rfl rfl rfl (by(try simp only[List.length_map]);omega)) ?_;refine QR ?_;refine Jq 25 rfl (fun hl25=>?_);refine QR ?_;refine zP (WM rfl rfl rfl (by(try simp only[List.length_map]);omega)) ?_;refine zS ?_;refine Qc ?_;exact⟨⟨k+1,hlt,by omega⟩,Qa rfl (X2 ⟨(Y5 (by rw[e1,List.length_map];omega)),rfl,JC,rfl,trivial⟩) ⟨rfl,rfl,rfl,trivial⟩,by dsimp only;omega⟩
 have hge:(x0.es).length≤k:=by simpa using h21
 rw[List.take_of_length_le hge] at hg ⊢
 refine Xy ?_;refine Qq (fun x:{k:Nat // k≤(x0.ps).length∧(1+(x0.nm.length:Int)+(Qb4 x0.es:Int)+(Yz (x0.ps.take k):Int))≤m}=>⟨[(2,.ptr 0 0),(1,i64 (m-(1+(x0.nm.length:Int))-(Qb4 x0.es:Int)-(Yz (x0.ps.take x.1):Int))),(6,i64 (x.1:Nat))],[(0,.var 30 (QO x0))],1⟩) (fun x=>(x0.ps).length-x.1) (⟨0,Nat.zero_le _,by simp[Yz];omega⟩) ?_ ?_
 ·exact Qa rfl (X2 ⟨(Y5 (by simp[Yz])),rfl,(X2 trivial)⟩) ⟨rfl,rfl,rfl,trivial⟩
 rintro⟨k,hk,hg⟩;dsimp only;refine J6 ?_
 refine zq ?_ ?_<;>intro h46
 rotate_left
 ·have hge:(x0.ps).length≤k:=by simpa using h46
  rw[List.take_of_length_le hge] at hg ⊢
  refine QL ?_;refine zQ ?_;exact Q1 (by rw[QpL (by omega)];omega)
 have hlt:k<(x0.ps).length:=by simpa using h46
 obtain⟨x,hx⟩:=Qw hlt
 have e1:=Ql8 hx
 have e2:=Qq6 x0.ps (k+1)
 refine Jl ?_;refine zP (Qh rfl rfl rfl k rfl _ (Q8 hx) rfl) ?_;refine QR ?_;refine zP (Qd (ih x (List.mem_of_getElem? hx) _ (by omega) (by omega)) rfl rfl rfl) ?_;refine Xy ?_
 refine zq ?_ ?_<;>intro h52
 ·have h14:=QuP (of_decide_eq_true h52)
  refine QI ?_;refine zQ ?_;exact Q1 (QcF (by omega)).symm
 have hrv:=Quk (of_decide_eq_false h52)
 refine Yy ?_;refine Jq 56 rfl (fun hl56=>?_);refine QR ?_;refine zP (WM rfl rfl rfl (by(try simp only[List.length_map]);omega)) ?_;refine zS ?_;refine Qc ?_;exact⟨⟨k+1,hlt,by have:=hrv.1;omega⟩,Qa rfl (X2 ⟨(Y5 (hrv.2.trans (by dsimp only;rw[e1];omega))),rfl,JC,rfl,trivial⟩) ⟨rfl,rfl,rfl,trivial⟩,by dsimp only;omega⟩
theorem QpF (x:Qz)(m:Int)(h0:0≤m)(h1:m≤1000000):FC Tryz.prog 58 [.agg (QO x),i64 m] (i64 (QcU x m)):=Qxi x (fun u _ m h0 h1=>QpF u m h0 h1) m h0 h1
termination_by x
decreasing_by exact Qz.sizeOf_ps ‹_›
theorem QpU (x:Qz)(m:Int)(h0:0≤m)(h1:m≤1000000):FC Tryz.prog 15 [.agg (QO x),i64 m] (bl (Wu x m)):=by
 refine Qg [4] Tryz.func15 rfl rfl 9 Tryz.ntmps15 (Nat.le_of_ble_eq_true rfl) ?_
 intro E hN;refine J6 ?_;refine zP (Qd (QpF x m h0 h1) rfl rfl rfl) ?_;refine QR ?_;refine zQ ?_;exact Qr (by unfold Wu QcU;split<;>simp<;>omega)
end Go.Proofs.YtnkkokmmeplbgaaGreat
