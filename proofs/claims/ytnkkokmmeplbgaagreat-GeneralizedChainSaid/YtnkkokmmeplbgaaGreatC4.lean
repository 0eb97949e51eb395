/-
  Contracts of the reference: Check.
-/
import Derived.Test.YtnkkokmmeplbgaaGreatC3
import Derived.Test.YtnkkokmmeplbgaaGreatA3
namespace Go.Proofs.YtnkkokmmeplbgaaGreat
set_option maxRecDepth 100000
set_option maxHeartbeats 1000000
open Go.RowKit
theorem QhL {l:List Nm}{k:Nat}{x:Nm}(h:l[k]?=some x):l.zipIdx[k]?=some (x,k):=by simp[h]
def QlJ (l:Qv)(q:Nm×Nat):Bool:=XU q.1 && !JL (l.nm.take q.2) q.1
def QdP (nm:List Nm)(r:Ru):Bool := !((r.i.length:Int)==0)&&QdB r.i&&JL nm r.t
theorem Qfy {nm:List Nm}{r:Ru}:QhO nm r=(QdP nm r&&r.i.all (JL nm)):=rfl
theorem QmL (l:Qv):FC Tryz.prog 177 [.agg (Q7 l)] (bl (Qbe l)):=by
 refine Qg [2] Tryz.func177 rfl rfl 86 Tryz.ntmps177 (Nat.le_of_ble_eq_true rfl) ?_
 intro E hN;refine JF ?_
 refine zq ?_ ?_<;>intro h5
 ·have h6:(l.k==6)=true:=h5
  refine XL ?_;refine Qq (fun x:{k:Nat // k≤(l.nm).length∧(l.nm.zipIdx.drop k).all (QlJ l)=l.nm.zipIdx.all (QlJ l)}=>⟨[(1,.ptr 0 0),(3,i64 (x.1:Nat))],[(0,.var 26 (Q7 l))],1⟩) (fun x=>(l.nm).length-x.1) (⟨0,Nat.zero_le _,by simp⟩) ?_ ?_
  ·exact Qa rfl (Yw trivial) ⟨rfl,rfl,rfl,trivial⟩
  rintro⟨k,hk,hg⟩;dsimp only;refine J6 ?_
  refine zq ?_ ?_<;>intro h11
  rotate_left
  ·have hge:(l.nm).length≤k:=by simpa using h11
   refine QK ?_;refine zQ ?_;exact Qr (by unfold Qbe;rw[if_pos h6];exact(Jf hg (by simpa using hge)).symm)
  refine Jq 12 rfl (fun hlen=>?_)
  have hlt:k<(l.nm).length:=by simpa using h11
  obtain⟨x,hx⟩:=Qw hlt;refine QK ?_;refine zD 18 ?_;refine QI ?_;refine zp (Qh rfl rfl rfl k rfl _ (Qt hx) rfl) ?_;refine zl ?_;refine zp (Qd (Qjf x) rfl rfl rfl) ?_;refine QR ?_
  refine zd 24 ?_ ?_<;>intro h16
  ·have ho0:QlJ l (x,k)=false:=by unfold QlJ;rw[n1 h16];rfl
   refine QbP ?_;refine zQ ?_;exact Qr (by unfold Qbe;rw[if_pos h6];exact(Xe hg (QhL hx) ho0).symm)
  have hv1:XU x=true:=n0 h16
  refine QI ?_;refine vP (X3 (m1 (n0 h16))) (Qvw rfl rfl rfl k rfl (by omega) (by exact fun _=>rfl)) ?_;refine QI ?_;refine vP (X3 (m1 (n0 h16))) (Qh rfl rfl rfl k rfl _ (Qt hx) rfl) ?_;refine Yy ?_;refine vP (X3 (m1 (n0 h16))) (Qd (QkF (l.nm.take k) x) rfl rfl rfl) ?_;refine QR ?_
  refine zq ?_ ?_<;>intro h24
  ·have ho0:QlJ l (x,k)=false:=by unfold QlJ;rw[hv1];simp only[Bool.true_and,Bool.not_eq_false'];exact h24
   refine QI ?_;refine zQ ?_;exact Qr (by unfold Qbe;rw[if_pos h6];exact(Xe hg (QhL hx) ho0).symm)
  have ho1:QlJ l (x,k)=true:=by unfold QlJ;rw[hv1];simp only[Bool.true_and,Bool.not_eq_true'];exact h24
  refine QL ?_;refine Qc ?_;exact⟨⟨k+1,hlt,XO hg (QhL hx) ho1⟩,Qa rfl (X2 ⟨JC,rfl,trivial⟩) ⟨rfl,rfl,rfl,trivial⟩,by dsimp only;omega⟩
 have h6:(l.k==6)=false:=h5
 refine XL ?_;refine zP (Qd (QoK l.nm) rfl rfl rfl) ?_;refine QR ?_
 refine zq ?_ ?_<;>intro h28
 ·have h8:=n1 h28
  refine QI ?_;refine zQ ?_;exact Qr (by unfold Qbe;rw[h6,h8];rfl)
 have h8:=n0 h28
 refine Xy ?_;refine Qq (fun x:{k:Nat // k≤(l.rs).length∧(l.rs.drop k).all (QhO l.nm)=l.rs.all (QhO l.nm)}=>⟨[(1,.ptr 0 0),(4,i64 (x.1:Nat))],[(0,.var 26 (Q7 l))],1⟩) (fun x=>(l.rs).length-x.1) (⟨0,Nat.zero_le _,by simp⟩) ?_ ?_
 ·exact Qa rfl (Yw trivial) ⟨rfl,rfl,rfl,trivial⟩
 rintro⟨k,hk,hg⟩;dsimp only;refine J6 ?_
 refine zq ?_ ?_<;>intro h34
 rotate_left
 ·have hge:(l.rs).length≤k:=by simpa using h34
  refine QK ?_;refine zQ ?_;exact Qr (by unfold Qbe;rw[h6,h8,Jf hg hge];rfl)
 refine Jq 42 rfl (fun hlen=>?_)
 have hlt:k<(l.rs).length:=by simpa using h34
 obtain⟨x,hx⟩:=Qw hlt;refine Jl ?_;refine zP (Qh rfl rfl rfl k rfl _ (Qt hx) rfl) ?_;refine JF ?_
 refine zc 56 ?_ ?_<;>intro h44
 ·refine Qfe ?_;refine zQ ?_;exact Qr (by unfold Qbe;rw[h6,h8,Xe hg hx (by rw[Qfy,show QdP l.nm x=false by first|exact hra|(unfold QdP;simp_all)];rfl)];rfl)
 refine QR ?_;refine uP (X3 h44) (Qd (QoK x.i) rfl rfl rfl) ?_;refine QI ?_
 refine zc 62 ?_ ?_<;>intro h47
 ·refine JF ?_;refine zQ ?_;exact Qr (by unfold Qbe;rw[h6,h8,Xe hg hx (by rw[Qfy,show QdP l.nm x=false by first|exact hra|(unfold QdP;simp_all)];rfl)];rfl)
 refine QK ?_;refine uP (X3 (m1 (n0 h47))) (Qd (QkF l.nm x.t) rfl rfl rfl) ?_;refine QI ?_
 refine zq ?_ ?_<;>intro h52
 ·have hra:QdP l.nm x=false:=by unfold QdP;simp_all
  refine QI ?_;refine zQ ?_;exact Qr (by unfold Qbe;rw[h6,h8,Xe hg hx (by rw[Qfy,show QdP l.nm x=false by first|exact hra|(unfold QdP;simp_all)];rfl)];rfl)
 have hra:QdP l.nm x=true:=by unfold QdP;simp_all
 refine XL ?_;refine Qq (fun z:{j:Nat // j≤x.i.length∧(x.i.drop j).all (JL l.nm)=x.i.all (JL l.nm)}=>⟨[(1,.ptr 0 0),(4,i64 (k:Nat)),(5,.ptr 1 0),(6,i64 (z.1:Nat))],[(0,.var 26 (Q7 l)),(1,.var 188 (ruC x))],2⟩) (fun z=>x.i.length-z.1) (⟨0,Nat.zero_le _,rfl⟩) ?_ ?_
 ·exact Qa rfl (Ks trivial) ⟨rfl,rfl,rfl,rfl,rfl,rfl,trivial⟩
 rintro⟨j,hj,hgj⟩;dsimp only
 skip
 refine J6 ?_
 refine zq ?_ ?_<;>intro h60
 rotate_left
 ·have hje:x.i.length≤j:=by have e:=h60;simp at e;omega
  refine QL ?_;refine Qc ?_;exact⟨⟨k+1,hlt,XO hg hx (by rw[Qfy,hra,Jf hgj hje];rfl)⟩,Qa rfl (X2 ⟨JC,rfl,trivial⟩) ⟨rfl,rfl,rfl,trivial⟩,by dsimp only;omega⟩
 refine Jq 72 rfl (fun hlen=>?_)
 have hjl:j<x.i.length:=by have e:=h60;simp at e;omega
 obtain⟨y,hy⟩:=Qw hjl;refine QK ?_;refine zD 8 ?_;refine QL ?_;refine zp (Qh rfl rfl rfl j rfl _ (Qt hy) rfl) ?_;refine zl ?_;refine zp (Qd (QkF l.nm y) rfl rfl rfl) ?_;refine QR ?_
 refine zq ?_ ?_<;>intro h67
 ·have h19:=n1 h67
  refine QI ?_;refine zQ ?_;exact Qr (by unfold Qbe;rw[h6,h8,Xe hg hx (by rw[Qfy,hra,Xe hgj hy h19];rfl)];rfl)
 have h19:=h67
 refine QL ?_;refine Qc ?_;exact⟨⟨j+1,hjl,XO hgj hy (n0 h19)⟩,Qa rfl (YG ⟨JC,rfl,trivial⟩) ⟨rfl,rfl,rfl,rfl,rfl,rfl,trivial⟩,by dsimp only;omega⟩
def Qas (l:Qv)(d n:Int):Int:=if d > 6∨n≥64 then 6 else if XB l≠0 then 1 else orE [JS l,Jx l,Je l,JA l]
section
variable {l:Qv}{d n:Int}
theorem Qhy (h:d > 6∨n≥64):Qas l d n=6:=by unfold Qas;rw[if_pos h]
theorem Qmf (h:¬(d > 6∨n≥64))(hs:(XB l==0)=false):Qas l d n=1:=by unfold Qas;rw[if_neg h,if_pos (by simpa using hs)]
theorem Qat (h:¬(d > 6∨n≥64))(hs:XB l=0):Qas l d n=orE [JS l,Jx l,Je l,JA l]:=by unfold Qas;rw[if_neg h,if_neg (by rw[hs];decide)]
theorem Qt9 {a b c e:Int}(h:a≠0):orE [a,b,c,e]=a:=by simp[orE,h]
theorem Qx0 {a b c e:Int}(h1:a=0)(h:b≠0):orE [a,b,c,e]=b:=by simp[orE,h,h1]
theorem Qp7 {a b c e:Int}(h1:a=0)(h2:b=0)(h:c≠0):orE [a,b,c,e]=c:=by simp[orE,h,h1,h2]
theorem QqC {a b c e:Int}(h1:a=0)(h2:b=0)(h3:c=0):orE [a,b,c,e]=e:=by
 by_cases h:e=0<;>simp[orE,h,h1,h2,h3]
theorem Qg3 (h:((decide ((l.nm.length:Int) > KO l.k))||decide ((l.rs.length:Int) > 32))=true):JS l=6:=by unfold JS;rw[h];rfl
theorem QvS (h:((decide ((l.nm.length:Int) > KO l.k))||decide ((l.rs.length:Int) > 32))=false):JS l=0:=by unfold JS;rw[h];rfl
theorem Qea:Je l=Yi (decide (l.lo > l.hi)||decide (l.lo < -1000000000)||decide (l.hi > 1000000000)) 5:=by
 unfold Je
 congr 1
 by_cases h1:l.lo > l.hi
 ·simp[h1]
 by_cases h2:l.lo < -1000000000
 ·simp[h2]
 by_cases h3:l.hi > 1000000000
 ·simp[h3]
 have h4:¬l.lo > 1000000000:=by omega
 have h5:¬l.hi < -1000000000:=by omega
 simp[h1,h2,h3,h4,h5]
end
theorem QoA (l:Qv)(d n:Int):FC Tryz.prog 142 [.agg (Q7 l),i64 d,i64 n] (i64 (Qas l d n)):=by
 refine Qg [6] Tryz.func142 rfl rfl 69 Tryz.ntmps142 (Nat.le_of_ble_eq_true rfl) ?_
 intro E hN;refine QbP ?_
 refine zq ?_ ?_<;>intro h7
 ·refine QI ?_;refine JI (⟨[(1,i64 d),(2,i64 n),(3,.ptr 0 0),(7,i64 (KO l.k))],[(0,.var 26 (Q7 l))],1⟩) ?_ ?_
  ·refine XL ?_
   refine zq ?_ ?_<;>intro h10
   ·refine QR ?_;refine Qc ?_;exact Qa rfl (YG ⟨(Y5 (by unfold KO;simp_all)),rfl,trivial⟩) ⟨rfl,rfl,rfl,trivial⟩
   refine QM ?_;exact Qa rfl (YG ⟨(Y5 (by unfold KO;simp_all)),rfl,trivial⟩) ⟨rfl,rfl,rfl,trivial⟩
  refine Xy ?_
  refine zc 17 ?_ ?_<;>intro h13
  ·refine J6 ?_;refine zQ ?_;exact Q1 (Qhy (by first|(left;simp_all;done)|(right;simp_all;done))).symm
  refine QL ?_
  refine zq ?_ ?_<;>intro h14
  ·have hb:d > 6∨n≥64:=by first|(left;simp_all;done)|(right;simp_all;done)
   refine QI ?_;refine zQ ?_;exact Q1 (Qhy (by first|(left;simp_all;done)|(right;simp_all;done))).symm
  have hb:¬(d > 6∨n≥64):=by first|(simp_all;done)|(simp_all;omega)
  refine QI ?_;refine zP (Qd (Qik l) rfl rfl rfl) ?_;refine QI ?_
  refine zq ?_ ?_<;>intro h16
  ·have hs:=n1 h16
   refine QI ?_;refine zQ ?_;exact Q1 (Qmf hb hs).symm
  have hs:XB l=0:=by simpa using n0 h16
  refine Jl ?_
  refine zc 31 ?_ ?_<;>intro h20
  ·refine X5 ?_;refine zQ ?_;exact Q1 (by rw[Qat hb hs,Qt9 (by rw[Qg3 (by simp_all)];decide),Qg3 (by simp_all)])
  refine Xy ?_
  refine zq ?_ ?_<;>intro h24
  ·refine QI ?_;refine zQ ?_;exact Q1 (by rw[Qat hb hs,Qt9 (by rw[Qg3 (by simp_all)];decide),Qg3 (by simp_all)])
  have hlim:((decide ((l.nm.length:Int) > KO l.k))||decide ((l.rs.length:Int) > 32))=false:=by simp_all
  have hl0:=QvS hlim
  have hl1:(l.nm.length:Int)≤KO l.k∧(l.rs.length:Int)≤32:=by simp at hlim;omega
  refine QI ?_;refine zP (Qd (QmL l) rfl rfl rfl) ?_;refine QI ?_
  refine zq ?_ ?_<;>intro h26
  ·have hsp:Jx l=3:=by
    have e:=n1 h26
    rw[Qel hs] at e
    unfold Jx at e ⊢
    split
    ·rename_i h;rw[if_pos h] at e;cases e
    rfl
   refine QI ?_;refine zQ ?_;exact Q1 (by rw[Qat hb hs,Qx0 hl0 (by rw[hsp];decide),hsp])
  have hsp:Jx l=0:=by
   have e:=n0 h26
   rw[Qel hs] at e
   simpa using e
  refine Jl ?_
  refine zc 47 ?_ ?_<;>intro h31
  ·refine QgC ?_;refine zQ ?_;exact Q1 (by have e:Je l=5:=(by rw[Qea];(first|(simp_all;done)|simp_all [Yi]));rw[Qat hb hs,Qp7 hl0 hsp (by rw[e];decide),e])
  refine QL ?_
  refine zc 52 ?_ ?_<;>intro h34
  ·refine XR ?_;refine zQ ?_;exact Q1 (by have e:Je l=5:=(by rw[Qea];(first|(simp_all;done)|simp_all [Yi]));rw[Qat hb hs,Qp7 hl0 hsp (by rw[e];decide),e])
  refine XL ?_
  refine zq ?_ ?_<;>intro h37
  ·refine QI ?_;refine zQ ?_;exact Q1 (by have e:Je l=5:=(by rw[Qea];(first|(simp_all;done)|simp_all [Yi]));rw[Qat hb hs,Qp7 hl0 hsp (by rw[e];decide),e])
  have hrg:Je l=0:=by rw[Qea];(first|(simp_all;done)|simp_all [Yi])
  refine XL ?_
  refine zc 61 ?_ ?_<;>intro h40
  rotate_left
  ·refine WT ?_;refine zQ ?_;exact Q1 (by rw[Qat hb hs,QqC hl0 hsp hrg];unfold JA;(first|(simp_all;done)|simp_all [Yi]))
  have h7:l.k=7:=by simpa using h40
  obtain⟨a,r,hps⟩:=Qk9 hs h7
  have ha:l.ps[0]?=some a:=by rw[hps];rfl
  refine QR ?_;refine uP (XT h40) (Qh rfl rfl rfl 0 rfl _ (X9 ha) rfl) ?_;refine Yy ?_;refine uP (XT h40) (Qd (Qe0 a) rfl rfl rfl) ?_;refine QK ?_
  refine zq ?_ ?_<;>intro h45
  ·refine QI ?_;refine zQ ?_;exact Q1 (by rw[Qat hb hs,QqC hl0 hsp hrg];unfold JA;rw[hps];(first|(simp_all;done)|simp_all [Yi]))
  refine QK ?_;refine zQ ?_;exact Q1 (by rw[Qat hb hs,QqC hl0 hsp hrg];unfold JA;(first|(simp_all;done)|simp_all [Yi]))
 refine zW ?_;refine JI (⟨[(1,i64 d),(2,i64 n),(3,.ptr 0 0),(7,i64 (KO l.k))],[(0,.var 26 (Q7 l))],1⟩) ?_ ?_
 ·refine XL ?_
  refine zq ?_ ?_<;>intro h48
  ·refine QR ?_;refine Qc ?_;exact Qa rfl (YG ⟨(Y5 (by unfold KO;simp_all)),rfl,trivial⟩) ⟨rfl,rfl,rfl,trivial⟩
  refine QM ?_;exact Qa rfl (YG ⟨(Y5 (by unfold KO;simp_all)),rfl,trivial⟩) ⟨rfl,rfl,rfl,trivial⟩
 refine Xy ?_
 refine zc 17 ?_ ?_<;>intro h51
 ·refine J6 ?_;refine zQ ?_;exact Q1 (Qhy (by first|(left;simp_all;done)|(right;simp_all;done))).symm
 refine QL ?_
 refine zq ?_ ?_<;>intro h52
 ·have hb:d > 6∨n≥64:=by first|(left;simp_all;done)|(right;simp_all;done)
  refine QI ?_;refine zQ ?_;exact Q1 (Qhy (by first|(left;simp_all;done)|(right;simp_all;done))).symm
 have hb:¬(d > 6∨n≥64):=by first|(simp_all;done)|(simp_all;omega)
 refine QI ?_;refine zP (Qd (Qik l) rfl rfl rfl) ?_;refine QI ?_
 refine zq ?_ ?_<;>intro h54
 ·have hs:=n1 h54
  refine QI ?_;refine zQ ?_;exact Q1 (Qmf hb hs).symm
 have hs:XB l=0:=by simpa using n0 h54
 refine Jl ?_
 refine zc 31 ?_ ?_<;>intro h58
 ·refine X5 ?_;refine zQ ?_;exact Q1 (by rw[Qat hb hs,Qt9 (by rw[Qg3 (by simp_all)];decide),Qg3 (by simp_all)])
 refine Xy ?_
 refine zq ?_ ?_<;>intro h62
 ·refine QI ?_;refine zQ ?_;exact Q1 (by rw[Qat hb hs,Qt9 (by rw[Qg3 (by simp_all)];decide),Qg3 (by simp_all)])
 have hlim:((decide ((l.nm.length:Int) > KO l.k))||decide ((l.rs.length:Int) > 32))=false:=by simp_all
 have hl0:=QvS hlim
 have hl1:(l.nm.length:Int)≤KO l.k∧(l.rs.length:Int)≤32:=by simp at hlim;omega
 refine QI ?_;refine zP (Qd (QmL l) rfl rfl rfl) ?_;refine QI ?_
 refine zq ?_ ?_<;>intro h64
 ·have hsp:Jx l=3:=by
   have e:=n1 h64
   rw[Qel hs] at e
   unfold Jx at e ⊢
   split
   ·rename_i h;rw[if_pos h] at e;cases e
   rfl
  refine QI ?_;refine zQ ?_;exact Q1 (by rw[Qat hb hs,Qx0 hl0 (by rw[hsp];decide),hsp])
 have hsp:Jx l=0:=by
  have e:=n0 h64
  rw[Qel hs] at e
  simpa using e
 refine Jl ?_
 refine zc 47 ?_ ?_<;>intro h69
 ·refine QgC ?_;refine zQ ?_;exact Q1 (by have e:Je l=5:=(by rw[Qea];(first|(simp_all;done)|simp_all [Yi]));rw[Qat hb hs,Qp7 hl0 hsp (by rw[e];decide),e])
 refine QL ?_
 refine zc 52 ?_ ?_<;>intro h72
 ·refine XR ?_;refine zQ ?_;exact Q1 (by have e:Je l=5:=(by rw[Qea];(first|(simp_all;done)|simp_all [Yi]));rw[Qat hb hs,Qp7 hl0 hsp (by rw[e];decide),e])
 refine XL ?_
 refine zq ?_ ?_<;>intro h75
 ·refine QI ?_;refine zQ ?_;exact Q1 (by have e:Je l=5:=(by rw[Qea];(first|(simp_all;done)|simp_all [Yi]));rw[Qat hb hs,Qp7 hl0 hsp (by rw[e];decide),e])
 have hrg:Je l=0:=by rw[Qea];(first|(simp_all;done)|simp_all [Yi])
 refine XL ?_
 refine zc 61 ?_ ?_<;>intro h78
 rotate_left
 ·refine WT ?_;refine zQ ?_;exact Q1 (by rw[Qat hb hs,QqC hl0 hsp hrg];unfold JA;(first|(simp_all;done)|simp_all [Yi]))
 have h7:l.k=7:=by simpa using h78
 obtain⟨a,r,hps⟩:=Qk9 hs h7
 have ha:l.ps[0]?=some a:=by rw[hps];rfl
 refine QR ?_;refine uP (XT h78) (Qh rfl rfl rfl 0 rfl _ (X9 ha) rfl) ?_;refine Yy ?_;refine uP (XT h78) (Qd (Qe0 a) rfl rfl rfl) ?_;refine QK ?_
 refine zq ?_ ?_<;>intro h83
 ·refine QI ?_;refine zQ ?_;exact Q1 (by rw[Qat hb hs,QqC hl0 hsp hrg];unfold JA;rw[hps];(first|(simp_all;done)|simp_all [Yi]))
 refine QK ?_;refine zQ ?_;exact Q1 (by rw[Qat hb hs,QqC hl0 hsp hrg];unfold JA;(first|(simp_all;done)|simp_all [Yi]))
def Qmn (v:Int×Int):AV:=.tup [if v.1=0 then i64 v.2 else .bot,i64 v.1]
theorem QhJ {v:Int×Int}{e:Int}(h:v.1=e)(he:e≠0):AV.tup [.bot,i64 e]=Qmn v:=by unfold Qmn;rw[h,if_neg he]
theorem Qvj {v:Int×Int}{m:Int}(h:(0,m)=v):AV.tup [i64 m,i64 0]=Qmn v:=by unfold Qmn;rw[←h,if_pos rfl]
section
variable {f:Nat}{l:Qv}{n d:Int}
theorem QpT (hd:d≤6)(h:Qas l d n≠0):(Xk (f+1) l n).1=Qas l d n:=by
 unfold Qas at h ⊢
 by_cases h1:n≥64
 ·rw[QlS h1,if_pos (.inr h1)]
 rw[if_neg (by omega)] at h ⊢
 cases h2:XB l != 0 with
 |true=>
  rw[QfH (by omega) h2,if_pos (by simpa using h2)]
  show XB l=1
  have:XB l≠0:=by simpa using h2
  unfold XB at this ⊢
  split
  ·rename_i hk;rw[if_pos hk] at this;unfold Yi at this ⊢;split
   ·rfl
   rename_i hb;rw[if_neg hb] at this;exact absurd rfl this
  rfl
 |false=>
  have h3:XB l=0:=by simpa using h2
  rw[if_neg (by rw[h3];decide)] at h ⊢
  rw[Qr4 (by omega) h2 (by simpa using h)]
theorem QrB (hd:d≤6)(h:Qas l d n=0):Xk (f+1) l n=JZ (Xk f) l.ps (n+1):=by
 unfold Qas at h
 by_cases h1:n≥64
 ·rw[if_pos (.inr h1)] at h;cases h
 rw[if_neg (by omega)] at h
 by_cases h2:XB l=0
 ·rw[if_neg (by rw[h2];decide)] at h
  exact Qc5 (by omega) (by rw[h2];rfl) (by rw[h];rfl)
 rw[if_pos h2] at h;cases h
end
theorem Qwr (l:Qv)(n d:Int)(hd:d=7):FC Tryz.prog 111 [.agg (Q7 l),i64 d,i64 n] (Qmn (Xk 0 l n)):=by
 have hE:Qas l d n=6:=Qhy (.inl (by omega))
 refine Qg [6,7] Tryz.func111 rfl rfl 48 Tryz.ntmps111 (Nat.le_of_ble_eq_true rfl) ?_
 intro E hN;refine JF ?_;refine zP (Qd (QoA l d n) rfl rfl rfl) ?_;refine QL ?_;refine zP (QD (b:=true) rfl rfl rfl (by rw[hE];rfl)) ?_;refine J6 ?_;refine QC (st':=⟨[(7,i64 (Qas l d n))],[],1⟩) (Qa rfl (X2 trivial) trivial) ?_;refine zR ?_
 rw[hE];exact QhJ rfl (by decide)
theorem Qxk (f:Nat)(hf:f+1≤6)(ih:∀(l:Qv) (n d:Int),d=7-(f:Int)→0≤n→FC Tryz.prog 111 [.agg (Q7 l),i64 d,i64 n] (Qmn (Xk f l n)))(l:Qv)(n d:Int)(hd:d=7-((f+1:Nat):Int))(hn:0≤n):FC Tryz.prog 111 [.agg (Q7 l),i64 d,i64 n] (Qmn (Xk (f+1) l n)):=by
 refine Qg [6,7] Tryz.func111 rfl rfl 48 Tryz.ntmps111 (Nat.le_of_ble_eq_true rfl) ?_
 intro E hN;refine JF ?_;refine zP (Qd (QoA l d n) rfl rfl rfl) ?_;refine Xy ?_
 refine zq ?_ ?_<;>intro h7
 ·have h2:Qas l d n≠0:=by simpa using h7
  refine Xy ?_;refine QC (st':=⟨[(7,i64 (Qas l d n))],[],1⟩) (Qa rfl (X2 trivial) trivial) ?_;refine zR ?_;exact QhJ (QpT (by omega) h2) h2
 have h2:Qas l d n=0:=by simpa using h7
 have hn64:n<64:=by
  unfold Qas at h2
  by_cases h1:n≥64
  ·rw[if_pos (.inr h1)] at h2;cases h2
  omega
 have hvo:=QrB (f:=f) (l:=l) (n:=n) (d:=d) (by omega) h2
 refine Qbp ?_;refine Qq (fun z:{q:Nat×Int // q.1≤l.ps.length∧0≤q.2∧JZ (Xk f) (l.ps.drop q.1) q.2=JZ (Xk f) l.ps (n+1)}=>⟨[(1,i64 d),(3,.ptr 0 0),(9,i64 z.1.2),(10,i64 (z.1.1:Nat))],[(0,.var 26 (Q7 l))],1⟩) (fun z=>l.ps.length-z.1.1) (⟨(0,n+1),Nat.zero_le _,by show 0≤n+1;omega,by simp⟩) ?_ ?_
 ·exact Qa rfl (Ks trivial) ⟨rfl,rfl,rfl,trivial⟩
 rintro⟨⟨k,m⟩,hk,hm,hg⟩;dsimp only at hk hm hg ⊢;refine J6 ?_
 refine zq ?_ ?_<;>intro h16
 rotate_left
 ·have hge:(l.ps).length≤k:=by simpa using h16
  refine XL ?_;refine zQ ?_;exact Qvj (by rw[hvo];exact Qn7 hg hge)
 refine Jq 25 rfl (fun hlen=>?_)
 have hlt:k<(l.ps).length:=by simpa using h16
 obtain⟨x,hx⟩:=Qw hlt;refine Jl ?_;refine zP (Qh rfl rfl rfl k rfl _ (X9 hx) rfl) ?_;refine QK ?_;refine zP (Qd (ih x m _ (by omega) hm) rfl rfl rfl) ?_;refine JF ?_
 refine zq ?_ ?_<;>intro h25
 ·have he:(Xk f x m).1≠0:=by simpa using h25
  refine Xy ?_;refine QC (st':=⟨[(7,i64 ((Xk f x m).1))],[],1⟩) (Qa rfl (X2 trivial) trivial) ?_;refine zR ?_;exact QhJ (by rw[hvo,←Qj2 hg hx (by simpa using he)]) he
 have he:(Xk f x m).1=0:=by simpa using h25
 rw[if_pos he];refine J6 ?_;refine Qc ?_;exact⟨⟨(k+1,(Xk f x m).2),hlt,QgB _ _ _ hm,Qv3 hg hx (by rw[he];rfl)⟩,Qa rfl (YG ⟨JC,rfl,trivial⟩) ⟨rfl,rfl,rfl,trivial⟩,by dsimp only;omega⟩
theorem Qmh:∀(f:Nat) (l:Qv) (n d:Int),f≤6→d=7-(f:Int)→0≤n→FC Tryz.prog 111 [.agg (Q7 l),i64 d,i64 n] (Qmn (Xk f l n))
 |0,l,n,d,_,hd,_=>Qwr l n d (by simpa using hd)
 |f+1,l,n,d,hf,hd,hn=>Qxk f hf (fun l n d h1 h2=>Qmh f l n d (by omega) h1 h2) l n d hd hn
theorem Qia (l:Qv):FC Tryz.prog 64 [.agg (Q7 l)] (i64 (QJ l)):=by
 refine Qg [2] Tryz.func64 rfl rfl 11 Tryz.ntmps64 (Nat.le_of_ble_eq_true rfl) ?_
 intro E hN;refine Jl ?_;refine zP (Qd (Qmh 6 l 0 1 (by decide) rfl (by decide)) rfl rfl rfl) ?_;refine XR ?_;refine zQ ?_
 rfl
end Go.Proofs.YtnkkokmmeplbgaaGreat
