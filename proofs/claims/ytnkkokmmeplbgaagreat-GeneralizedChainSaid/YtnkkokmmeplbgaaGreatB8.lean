/-
  Contracts: the order of a lattice's elements.
-/
import Derived.Test.YtnkkokmmeplbgaaGreatB7
import Derived.Test.YtnkkokmmeplbgaaGreatA3
namespace Go.Proofs.YtnkkokmmeplbgaaGreat
set_option maxRecDepth 100000
set_option maxHeartbeats 1000000
open Go.RowKit
def Qdc (p q:En):Bool:=if QfI p.1 q.1==1 then true else if QfI p.1 q.1==0 then p.2==q.2 else false
def J9 (l:List En)(p:En):Bool:=l.any (Qdc p)
def QhU {α:Type}(q:α→Bool):List α→Nat→Int
 |[],_ => -1
 |x::l,i=>if q x then(i:Int) else QhU q l (i+1)
theorem Qlw {α:Type}(q:α→Bool):∀(l:List α) (i:Nat),decide (QhU q l i≥0)=l.any q
 |[],i=>by simp[QhU]
 |x::l,i=>by
  unfold QhU
  by_cases h:q x=true
  ·rw[if_pos h,List.any_cons,h];simp
  ·rw[if_neg h,List.any_cons,Qlw q l (i+1)];simp[h]
theorem Qsj {f:FuncId}[Xl Tryz.prog f]{cs:List AV}{q:En→Bool}(l:List En)(hc:∀y∈l,FC Tryz.prog f [.agg (enC y),.el cs] (bl (q y))):FC Tryz.prog 222 [ens l,.fn f [.el cs]] (i64 (QhU q l 0)):=by
 refine Qg [4] Tryz.func222 rfl rfl 19 Tryz.ntmps222 (Nat.le_of_ble_eq_true rfl) ?_
 intro E hN;refine Jq 0 rfl (fun hl0=>?_);refine JF ?_;refine Qq (fun x:{k:Nat // k≤(l).length∧QhU q (l.drop k) k=QhU q l 0}=>⟨[(0,ens l),(1,.fn f [.el cs]),(7,i64 l.length),(8,i64 (x.1:Nat))],[],0⟩) (fun x=>(l).length-x.1) (⟨0,Nat.zero_le _,by simp⟩) ?_ ?_
 ·exact Qa rfl (Yw ⟨(Y5 (by simp)),rfl,(X2 trivial)⟩) trivial
 rintro⟨k,hk,hg⟩;dsimp only;refine QL ?_
 refine zq ?_ ?_<;>intro h8
 rotate_left
 ·have hge:(l).length≤k:=by simpa using h8
  refine QK ?_;refine zQ ?_;exact Q1 (by rw[←hg,List.drop_of_length_le hge];rfl)
 have hlt:k<(l).length:=by simpa using h8
 obtain⟨x,hx⟩:=Qw hlt
 have hs:QhU q l 0=if q x then(k:Int) else QhU q (l.drop (k+1)) (k+1):=by rw[←hg,XI hx];rfl
 refine Qbp ?_;refine zP (Qh rfl rfl rfl k rfl _ (Qt hx) rfl) ?_;refine zL ?_;refine zP (QaO (hc x (List.mem_of_getElem? hx)) rfl rfl rfl rfl) ?_;refine zN ?_
 refine zq ?_ ?_<;>intro h11
 ·have h4:=h11
  refine QK ?_;refine zQ ?_;exact Q1 (by rw[hs,if_pos (by simp_all)])
 have hn:QhU q (l.drop (k+1)) (k+1)=QhU q l 0:=by rw[hs,if_neg (by simp_all)]
 refine QK ?_;refine Qc ?_;exact⟨⟨k+1,hlt,hn⟩,Qa rfl (YG ⟨JC,rfl,trivial⟩) trivial,by dsimp only;omega⟩
theorem QlZ {f:FuncId}[Xl Tryz.prog f]{cs:List AV}{q:En→Bool}(l:List En)(hc:∀y∈l,FC Tryz.prog f [.agg (enC y),.el cs] (bl (q y))):FC Tryz.prog 199 [ens l,.fn f [.el cs]] (bl (l.any q)):=by
 refine Qg [4] Tryz.func199 rfl rfl 9 Tryz.ntmps199 (Nat.le_of_ble_eq_true rfl) ?_
 intro E hN;refine Jl ?_;refine zP (Qd (Qsj l hc) rfl rfl rfl) ?_;refine QR ?_;refine zQ ?_;exact Qr (Qlw q l 0)
theorem Qtq (x y:En):FC Tryz.prog 201 [.agg (enC x),.agg (enC y)] (bl (Qdc x y)):=by
 refine Qg [4] Tryz.func201 rfl rfl 19 Tryz.ntmps201 (Nat.le_of_ble_eq_true rfl) ?_
 intro E hN;refine Qbp ?_;refine zP (Qd (Qhe _ _) rfl rfl rfl) ?_;refine Xy ?_
 refine zq ?_ ?_<;>intro h10
 ·refine QI ?_;refine zQ ?_;exact Qr (by simp_all [Qdc])
 refine QL ?_
 refine zq ?_ ?_<;>intro h11
 ·refine Jl ?_;refine zQ ?_;exact Qr (by simp_all [Qdc])
 refine QK ?_;refine zQ ?_;exact Qr (by simp_all [Qdc])
theorem Ql9 (x y:En):FC Tryz.prog 200 [.agg (enC y),.el (enC x)] (bl (Qdc x y)):=by
 refine Qg [3] Tryz.func200 rfl rfl 7 Tryz.ntmps200 (Nat.le_of_ble_eq_true rfl) ?_
 intro E hN;refine J6 ?_;refine zP (Qd (Qtq x y) rfl rfl rfl) ?_;refine zS ?_;refine zQ ?_
 rfl
theorem Qh2 (x:En)(l:List En):FC Tryz.prog 164 [.agg (enC x),ens l] (bl (J9 l x)):=by
 refine Qg [4] Tryz.func164 rfl rfl 8 Tryz.ntmps164 (Nat.le_of_ble_eq_true rfl) ?_
 intro E hN;refine XL ?_;refine QC (QaU 2 0 rfl rfl rfl rfl) ?_;refine QR ?_;refine zP (QnB rfl rfl) ?_;refine zP (Qd (QlZ l (fun y _=>Ql9 x y)) rfl rfl rfl) ?_;refine zS ?_;refine zQ ?_
 rfl
theorem QsN (l:Qv):FC Tryz.prog 158 [.agg (Q7 l)] (.agg (QO (Qcf l).1)):=by
 refine Km [.c 2 30 4 true] ⟨⟨inferInstance,rfl⟩,trivial⟩ Tryz.func158 rfl rfl 11 Tryz.ntmps158 (Nat.le_of_ble_eq_true rfl) ?_
 intro E hN;refine Jl ?_;refine zP (Qd (Qj1 l) rfl rfl rfl) ?_;refine JF ?_;refine Qu ?_;change (resY _ _).bind AV.fzt=some _;refine Yl rfl ?_
 rfl
def YB (b:Qz)(s:Nm):Option Qz:=if XN s b.nm 0<0 then none else b.ps[(XN s b.nm 0).toNat]?
theorem Qex (s:Nm):∀(l:List Nm) (i:Nat),XN s l i = -1∨∃j,i≤j∧j<i+l.length∧XN s l i=(j:Int)
 |[],i=>.inl rfl
 |x::l,i=>by
  unfold XN
  by_cases h:(s==x)=true
  ·rw[if_pos h];exact .inr ⟨i,Nat.le_refl _,by simp,rfl⟩
  rw[if_neg h]
  rcases Qex s l (i+1) with h1|⟨j,h1,h2,h3⟩
  ·exact .inl h1
  exact .inr ⟨j,by omega,by simp only[List.length_cons];omega,h3⟩
theorem Qec {b:Qz}{s:Nm}{j:Nat}{y:Qz}(h:XN s b.nm 0=(j:Int))(hy:b.ps[j]?=some y):YB b s=some y:=by
 unfold YB;rw[h,if_neg (by omega)];simpa using hy
theorem Qcg {b:Qz}{s:Nm}(h:XN s b.nm 0<0):YB b s=none:=by
 unfold YB;rw[if_pos h]
mutual
def QE:Qv→Qz→Qz→Bool
 | .mk k _ _ _ ps _,a,b=>
  if k==1||k==2 then decide (a.N≤b.N)
  else if k==3 then decide (a.N≥b.N)
  else if k==4||k==10 then Yu a.nm b.nm
  else if k==5 then QuS ps (a.nm.zip a.ps) b
  else if k==6 then Qdj ps a.ps b.ps
  else if k==7 then Qrk ps a.ps b.ps
  else if k==8 then a.N==0||b.N==2||eqV a b
  else a.es.all (J9 b.es)
def QuS:List Qv→List (Nm×Qz)→Qz→Bool
 |[],_,_=>false
 |q::_,l,b=>l.all fun x=>match YB b x.1 with|some y=>QE q x.2 y|none=>false
def Qdj:List Qv→List Qz→List Qz→Bool
 |[],_,_=>true
 |q::r,x::a,y::b=>QE q x y&&Qdj r a b
 |_::_,_,_=>false
def Qrk:List Qv→List Qz→List Qz→Bool
 |[p,q],[x1,x2],[y1,y2]=>if eqV x1 y1 then QE q x2 y2 else QE p x1 y1
 |_,_,_=>false
end
def Qe1 (q:Qv)(b:Qz)(x:Nm×Qz):Bool:=match YB b x.1 with|some y=>QE q x.2 y|none=>false
theorem Qie (q:Qv)(r:List Qv)(l:List (Nm×Qz))(b:Qz):QuS (q::r) l b=l.all (Qe1 q b):=by rw[QuS];rfl
theorem X1 (l:Qv)(a b:Qz):QE l a b =
  if l.k==1||l.k==2 then decide (a.N≤b.N)
  else if l.k==3 then decide (a.N≥b.N)
  else if l.k==4||l.k==10 then Yu a.nm b.nm
  else if l.k==5 then QuS l.ps (a.nm.zip a.ps) b
  else if l.k==6 then Qdj l.ps a.ps b.ps
  else if l.k==7 then Qrk l.ps a.ps b.ps
  else if l.k==8 then a.N==0||b.N==2||eqV a b
  else a.es.all (J9 b.es):=by
 cases l with
 |mk k lo hi nm ps rs=>rw[QE];rfl
section
variable {ls:List Qv}{xs ys:List Qz}{k:Nat}{q:Qv}{x y:Qz}{b:Bool}
theorem QvN (hg:Qdj (ls.drop k) (xs.drop k) (ys.drop k)=b)(hq:ls[k]?=some q)(hx:xs[k]?=some x)(hy:ys[k]?=some y):b=(QE q x y&&Qdj (ls.drop (k+1)) (xs.drop (k+1)) (ys.drop (k+1))):=by
 rw[←hg,XI hq,XI hx,XI hy,Qdj]
theorem Qrh (hg:Qdj (ls.drop k) (xs.drop k) (ys.drop k)=b)(h:ls.length≤k):b=true:=by
 rw[←hg,List.drop_of_length_le h,Qdj]
theorem Jo:∀ {xs:List Qz} {ls:List Qv} {k:Nat} {x:Qz} {q:Qv},Ku xs ls=true→xs[k]?=some x→ls[k]?=some q→QA x q=true
 |[],_,_,_,_,_,hx,_=>by simp at hx
 |_::_,[],_,_,_,_,_,hq=>by simp at hq
 |a::r,p::s,0,x,q,h,hx,hq=>by
  rw[Ku,Bool.and_eq_true] at h
  simp at hx hq;subst hx hq;exact h.1
 |a::r,p::s,k+1,x,q,h,hx,hq=>by
  rw[Ku,Bool.and_eq_true] at h;exact Jo h.2 (by simpa using hx) (by simpa using hq)
end
theorem Qvt {v:Qz}{l:Qv}{q:Qv}{r:List Qv}(h:QA v l=true)(hk:l.k=5)(hp:l.ps=q::r):v.nm.length=v.ps.length∧∀p∈v.ps,QA p q=true:=by
 rw[Qx,hk,hp] at h
 simp[Qbw,Qbg] at h
 exact⟨by omega,fun p hp=>(h.2 p hp).1⟩
theorem Qqi {v:Qz}{l:Qv}(h:QA v l=true)(hk:l.k=6∨l.k=7):v.ps.length=l.ps.length∧Ku v.ps l.ps=true:=by
 rw[Qx] at h
 rcases hk with hk|hk<;>rw[hk] at h<;>simp at h<;>exact⟨by omega,h.2⟩
theorem Wz {l:Qv}(h:XB l=0)(hk:l.k=7):∃a b,l.ps=[a,b]:=by
 unfold XB at h
 rw[if_pos (by rw[hk];decide)] at h
 have hb:Wh l=false:=by
  cases hb:Wh l
  ·rfl
  rw[hb] at h;simp[Yi] at h
 have h2:l.ps.length=2:=by
  simp only[Wh,Yb,hk] at hb
  simp at hb
  omega
 match hl:l.ps,h2 with
 |[a,b],_=>exact⟨a,b,rfl⟩
theorem Kc {l:Qv}{v:Qz}{a b:Qv}(h:QA v l=true)(hk:l.k=7)(hp:l.ps=[a,b]):∃x y,v.ps=[x,y]∧QA x a=true∧QA y b=true:=by
 obtain⟨h1,h2⟩:=Qqi h (.inr hk);rw[hp] at h1 h2
 match hl:v.ps,h1 with
 |[x,y],_=>
  rw[hl] at h2
  simp only[Ku,Bool.and_eq_true] at h2
  exact⟨x,y,rfl,h2.1,h2.2.1⟩
theorem Qbz {l:List Nm}{m:List Qz}{k:Nat}{x:Nm}{p:Qz}(h1:l[k]?=some x)(h2:m[k]?=some p):(l.zip m)[k]?=some (x,p):=by
 rw[List.getElem?_zip_eq_some];exact⟨h1,h2⟩
theorem Qx9 (l:Qv)(hO:Yv l)(ih:∀q∈l.ps,∀x y,QA x q=true→QA y q=true→FC Tryz.prog 130 [.agg (Q7 q),.agg (QO x),.agg (QO y)] (bl (QE q x y)))(a b:Qz)(ha:QA a l=true)(hb:QA b l=true):FC Tryz.prog 130 [.agg (Q7 l),.agg (QO a),.agg (QO b)] (bl (QE l a b)):=by
 refine Qg [6] Tryz.func130 rfl rfl 163 Tryz.ntmps130 (Nat.le_of_ble_eq_true rfl) ?_
 intro E hN;refine Qf2 ?_
 refine zq ?_ ?_<;>intro h9
 ·refine XR ?_;refine zQ ?_;exact Qr (by rw[X1];simp_all)
 refine QK ?_
 refine zq ?_ ?_<;>intro h15
 ·refine Jl ?_;refine zQ ?_;exact Qr (by rw[X1];simp_all)
 refine QL ?_
 refine zq ?_ ?_<;>intro h21
 ·refine Jl ?_;refine zQ ?_;exact Qr (by rw[X1];simp_all)
 refine XL ?_
 refine zq ?_ ?_<;>intro h27
 ·refine Jl ?_;refine zP (Qd (Qem _ _) rfl rfl rfl) ?_;refine zS ?_;refine zQ ?_;exact Qr (by rw[X1];simp_all)
 refine QK ?_
 refine zq ?_ ?_<;>intro h33
 ·refine XL ?_;refine zP (Qd (Qem _ _) rfl rfl rfl) ?_;refine zS ?_;refine zQ ?_;exact Qr (by rw[X1];simp_all)
 refine QL ?_
 refine zq ?_ ?_<;>intro h39
 ·refine J6 ?_;obtain⟨q,r,hps⟩:=Qhr hO.shape (by simp_all)
  have hk5:l.k=5:=by simp_all
  have hqm:q∈l.ps:=by rw[hps];exact List.mem_cons_self
  have hq0:l.ps[0]?=some q:=by rw[hps];rfl
  obtain⟨hla,hea⟩:=Qvt ha hk5 hps;obtain⟨hlb,heb⟩:=Qvt hb hk5 hps
  have hE:QE l a b=(a.nm.zip a.ps).all (Qe1 q b):=by rw[X1,hk5,hps];simp[Qie]
  refine Qq (fun x:{k:Nat // k≤(a.nm).length∧((a.nm.zip a.ps).drop k).all (Qe1 q b)=(a.nm.zip a.ps).all (Qe1 q b)}=>⟨[(3,.ptr 0 0),(4,.ptr 1 0),(5,.ptr 2 0),(42,Jz a.nm),(43,i64 a.nm.length),(44,i64 (x.1:Nat))],[(0,.var 26 (Q7 l)),(1,.var 30 (QO a)),(2,.var 30 (QO b))],3⟩) (fun x=>(a.nm).length-x.1) (⟨0,Nat.zero_le _,by simp⟩) ?_ ?_
  ·exact Qa rfl (Ks ⟨(Y5 (by simp)),rfl,(X2 trivial)⟩) ⟨rfl,rfl,rfl,rfl,rfl,rfl,rfl,rfl,rfl,trivial⟩
  rintro⟨k,hk,hg⟩;dsimp only;refine Jq 42 rfl (fun hl8=>?_);refine QL ?_
  refine zq ?_ ?_<;>intro h49
  rotate_left
  ·have hge:(a.nm).length≤k:=by simpa using h49
   refine QK ?_;refine zQ ?_;exact Qr (by rw[hE,Jf hg (by simp;omega)])
  have hlt:k<(a.nm).length:=by simpa using h49
  obtain⟨x,hx⟩:=Qw hlt;obtain⟨p,hp⟩:=Qw (show k<a.ps.length by omega);refine XL ?_;refine zP (Qh rfl rfl rfl k rfl _ (Qt hx) rfl) ?_;refine J6 ?_;refine zP (Qd (Qfr _ _) rfl rfl rfl) ?_;refine QI ?_;refine zD 19 ?_;refine QI ?_
  refine zd 55 ?_ ?_<;>intro h55
  ·have hpo:=Qcg (s:=x) (b:=b) (by simpa using h55)
   refine QpI ?_;refine zQ ?_;exact Qr (by rw[hE,Xe hg (Qbz hx hp) (by simp only[Qe1,hpo];first|done|simp_all)])
  obtain⟨j,hj,hjl⟩:∃j:Nat,XN x b.nm 0=(j:Int)∧j<b.ps.length:=by
   rcases Qex x b.nm 0 with h1|⟨j,-,h2,h3⟩
   ·simp[h1] at h55
   exact⟨j,h3,by omega⟩
  obtain⟨y,hy⟩:=Qw hjl
  have hpo:=Qec hj hy
  refine QR ?_;refine vP (X3 h55) (Qh rfl rfl rfl 0 rfl _ (X9 hq0) rfl) ?_;refine QK ?_;refine vP (X3 h55) (Qh rfl rfl rfl k rfl _ (Q8 hp) rfl) ?_;refine QK ?_;refine vP (X3 h55) (Qh rfl rfl rfl j hj _ (Q8 hy) rfl) ?_;refine Yy ?_;refine vP (X3 h55) (Qd (ih q hqm p y (hea p (List.mem_of_getElem? hp)) (heb y (List.mem_of_getElem? hy))) rfl rfl rfl) ?_;refine QI ?_
  refine zq ?_ ?_<;>intro h68
  ·refine QI ?_;refine zQ ?_;exact Qr (by rw[hE,Xe hg (Qbz hx hp) (by simp only[Qe1,hpo];first|done|simp_all)])
  refine QK ?_;refine Qc ?_;exact⟨⟨k+1,hlt,XO hg (Qbz hx hp) (by simp only[Qe1,hpo];simp_all)⟩,Qa rfl (Ks (X2 ⟨JC,rfl,trivial⟩)) ⟨rfl,rfl,rfl,rfl,rfl,rfl,rfl,rfl,rfl,trivial⟩,by dsimp only;omega⟩
 refine QL ?_
 refine zq ?_ ?_<;>intro h70
 ·refine J6 ?_
  have hk6:l.k=6:=by simp_all
  obtain⟨hla,hza⟩:=Qqi ha (.inl hk6);obtain⟨hlb,hzb⟩:=Qqi hb (.inl hk6)
  have hE:QE l a b=Qdj l.ps a.ps b.ps:=by rw[X1,hk6];rfl
  refine Qq (fun x:{k:Nat // k≤(l.ps).length∧Qdj (l.ps.drop k) (a.ps.drop k) (b.ps.drop k)=Qdj l.ps a.ps b.ps}=>⟨[(3,.ptr 0 0),(4,.ptr 1 0),(5,.ptr 2 0),(77,QiL l.ps),(78,i64 l.ps.length),(79,i64 (x.1:Nat))],[(0,.var 26 (Q7 l)),(1,.var 30 (QO a)),(2,.var 30 (QO b))],3⟩) (fun x=>(l.ps).length-x.1) (⟨0,Nat.zero_le _,by simp⟩) ?_ ?_
  ·exact Qa rfl (Ks ⟨(Y5 (by simp)),rfl,(X2 trivial)⟩) ⟨rfl,rfl,rfl,rfl,rfl,rfl,rfl,rfl,rfl,trivial⟩
  rintro⟨k,hk,hg⟩;dsimp only;refine Jq 77 rfl (fun hl8=>?_);refine QL ?_
  refine zq ?_ ?_<;>intro h80
  rotate_left
  ·have hge:(l.ps).length≤k:=by simpa using h80
   refine QK ?_;refine zQ ?_;exact Qr (by rw[hE,Qrh hg hge])
  have hlt:k<l.ps.length:=by simpa using h80
  obtain⟨q,hq⟩:=Qw hlt;obtain⟨x,hx⟩:=Qw (show k<a.ps.length by omega);obtain⟨y,hy⟩:=Qw (show k<b.ps.length by omega)
  have hqm:q∈l.ps:=List.mem_of_getElem? hq
  have hs:=QvN hg hq hx hy
  refine XL ?_;refine zP (Qh rfl rfl rfl k rfl _ (X9 hq) rfl) ?_;refine XL ?_;refine zD 12 ?_;refine QK ?_;refine zp (Qh rfl rfl rfl k rfl _ (Q8 hx) rfl) ?_;refine QK ?_;refine zp (Qh rfl rfl rfl k rfl _ (Q8 hy) rfl) ?_;refine zl ?_;refine zp (Qd (ih q hqm x y (Jo hza hx hq) (Jo hzb hy hq)) rfl rfl rfl) ?_;refine QR ?_
  refine zq ?_ ?_<;>intro h94
  ·refine QI ?_;refine zQ ?_;exact Qr (by rw[hE,hs];simp_all)
  refine QK ?_;refine Qc ?_;exact⟨⟨k+1,hlt,by simp_all⟩,Qa rfl (Ks (X2 ⟨JC,rfl,trivial⟩)) ⟨rfl,rfl,rfl,rfl,rfl,rfl,rfl,rfl,rfl,trivial⟩,by dsimp only;omega⟩
 refine QL ?_
 refine zq ?_ ?_<;>intro h96
 ·refine QR ?_
  have hk7:l.k=7:=by simp_all
  obtain⟨q1,q2,hps⟩:=Wz hO.shape hk7;obtain⟨x1,x2,hpa,hx1,hx2⟩:=Kc ha hk7 hps;obtain⟨y1,y2,hpb,hy1,hy2⟩:=Kc hb hk7 hps
  have hE:QE l a b=if eqV x1 y1 then QE q2 x2 y2 else QE q1 x1 y1:=by rw[X1,hk7,hps,hpa,hpb];simp[Qrk]
  have hq1':l.ps[0]?=some q1:=by rw[hps];rfl
  have hq2':l.ps[1]?=some q2:=by rw[hps];rfl
  have hx1':a.ps[0]?=some x1:=by rw[hpa];rfl
  have hx2':a.ps[1]?=some x2:=by rw[hpa];rfl
  have hy1':b.ps[0]?=some y1:=by rw[hpb];rfl
  have hy2':b.ps[1]?=some y2:=by rw[hpb];rfl
  refine zD 8 ?_;refine QR ?_;refine zp (Qh rfl rfl rfl 0 rfl _ (Q8 hx1') rfl) ?_;refine QI ?_;refine zp (Qh rfl rfl rfl 0 rfl _ (Q8 hy1') rfl) ?_;refine zl ?_;refine zP (Qd (Qgo _ _) rfl rfl rfl) ?_;refine zN ?_
  refine zq ?_ ?_<;>intro h105
  ·have h28:=h105
   refine Yy ?_;refine zD 13 ?_;refine QR ?_;refine zp (Qh rfl rfl rfl 1 rfl _ (X9 hq2') rfl) ?_;refine QI ?_;refine zp (Qh rfl rfl rfl 1 rfl _ (Q8 hx2') rfl) ?_;refine QI ?_;refine zp (Qh rfl rfl rfl 1 rfl _ (Q8 hy2') rfl) ?_;refine zl ?_;refine zp (Qd (ih q2 (by rw[hps];simp) x2 y2 hx2 hy2) rfl rfl rfl) ?_;refine zS ?_;refine zQ ?_;exact Qr (by rw[hE,if_pos h28])
  have h28:=h105
  refine QR ?_;refine zD 13 ?_;refine QR ?_;refine zp (Qh rfl rfl rfl 0 rfl _ (X9 hq1') rfl) ?_;refine QI ?_;refine zp (Qh rfl rfl rfl 0 rfl _ (Q8 hx1') rfl) ?_;refine QI ?_;refine zp (Qh rfl rfl rfl 0 rfl _ (Q8 hy1') rfl) ?_;refine zl ?_;refine zp (Qd (ih q1 (by rw[hps];simp) x1 y1 hx1 hy1) rfl rfl rfl) ?_;refine zS ?_;refine zQ ?_;exact Qr (by rw[hE,if_neg (by simp[h28])])
 refine QL ?_
 refine zq ?_ ?_<;>intro h132
 ·refine XL ?_
  refine zc 140 ?_ ?_<;>intro h135
  ·refine XR ?_;refine zQ ?_;exact Qr (by rw[X1];simp_all)
  refine QL ?_
  refine zc 145 ?_ ?_<;>intro h138
  ·refine QL ?_;refine zQ ?_;exact Qr (by rw[X1];simp_all)
  refine QR ?_;refine uP (X3 h138) (Qd (Qgo _ _) rfl rfl rfl) ?_;refine QR ?_;refine zQ ?_;exact Qr (by rw[X1];simp_all)
 refine XR ?_
 have hE:QE l a b=a.es.all (J9 b.es):=by rw[X1];simp_all
 refine Qq (fun x:{k:Nat // k≤(a.es).length∧(a.es.drop k).all (J9 b.es)=a.es.all (J9 b.es)}=>⟨[(3,.ptr 0 0),(4,.ptr 1 0),(5,.ptr 2 0),(151,ens a.es),(152,i64 a.es.length),(153,i64 (x.1:Nat))],[(0,.var 26 (Q7 l)),(1,.var 30 (QO a)),(2,.var 30 (QO b))],3⟩) (fun x=>(a.es).length-x.1) (⟨0,Nat.zero_le _,by simp⟩) ?_ ?_
 ·exact Qa rfl (Ks ⟨(Y5 (by simp)),rfl,(X2 trivial)⟩) ⟨rfl,rfl,rfl,rfl,rfl,rfl,rfl,rfl,rfl,trivial⟩
 rintro⟨k,hk,hg⟩;dsimp only;refine Jq 151 rfl (fun hl8=>?_);refine QL ?_
 refine zq ?_ ?_<;>intro h151
 rotate_left
 ·have hge:(a.es).length≤k:=by simpa using h151
  refine QK ?_;refine zQ ?_;exact Qr (by rw[hE,Jf hg hge])
 have hlt:k<(a.es).length:=by simpa using h151
 obtain⟨x,hx⟩:=Qw hlt;refine QL ?_;refine zP (Qh rfl rfl rfl k rfl _ (Qt hx) rfl) ?_;refine J6 ?_;refine zP (Qd (Qh2 _ _) rfl rfl rfl) ?_;refine QR ?_
 refine zq ?_ ?_<;>intro h159
 ·refine QI ?_;refine zQ ?_;exact Qr (by rw[hE,Xe hg hx (by simp_all)])
 refine QK ?_;refine Qc ?_;exact⟨⟨k+1,hlt,XO hg hx (by simp_all)⟩,Qa rfl (Ks (X2 ⟨JC,rfl,trivial⟩)) ⟨rfl,rfl,rfl,rfl,rfl,rfl,rfl,rfl,rfl,trivial⟩,by dsimp only;omega⟩
theorem Qgw (l:Qv)(hO:Yv l)(a b:Qz)(ha:QA a l=true)(hb:QA b l=true):FC Tryz.prog 130 [.agg (Q7 l),.agg (QO a),.agg (QO b)] (bl (QE l a b)):=Qx9 l hO (fun q hq x y hx hy=>Qgw q (hO.part q hq) x y hx hy) a b ha hb
termination_by l
decreasing_by exact Qv.sizeOf_ps ‹_›
def QaC (l:Qv)(vs:List Qz):Bool:=vs.all (Xr l)
def JP (l:Qv)(vs:List Qz):Int:=if QJ l != 0 then 1 else if QaC l vs then 0 else 4
theorem Qgh {l:Qv}{vs:List Qz}(h:JP l vs=0):QJ l=0∧∀v∈vs,QA v l=true:=by
 unfold JP at h
 split at h
 ·cases h
 rename_i h1
 split at h
 ·rename_i h2
  refine⟨by simpa using h1,fun v hv=>?_⟩
  have:=List.all_eq_true.1 h2 v hv
  simp only[Xr,Bool.and_eq_true] at this
  exact this.2
 cases h
def QeI (l:Qv)(a b:Qz):Bool:=JP l [a,b]==0&&QE l a b
theorem Qm1 (l:Qv)(vs:List Qz):FC Tryz.prog 161 [.agg (Q7 l),Ki vs] (bl (QaC l vs)):=by
 refine Qg [4] Tryz.func161 rfl rfl 18 Tryz.ntmps161 (Nat.le_of_ble_eq_true rfl) ?_
 intro E hN;refine Jq 1 rfl (fun hl1=>?_);refine Qbp ?_;refine Qq (fun x:{k:Nat // k≤(vs).length∧(vs.drop k).all (Xr l)=vs.all (Xr l)}=>⟨[(2,.ptr 0 0),(7,Ki vs),(8,i64 vs.length),(9,i64 (x.1:Nat))],[(0,.var 26 (Q7 l))],1⟩) (fun x=>(vs).length-x.1) (⟨0,Nat.zero_le _,by simp⟩) ?_ ?_
 ·exact Qa rfl (Yw ⟨(Y5 (by simp)),rfl,(X2 trivial)⟩) ⟨rfl,rfl,rfl,trivial⟩
 rintro⟨k,hk,hg⟩;dsimp only;refine QL ?_
 refine zq ?_ ?_<;>intro h9
 rotate_left
 ·have hge:(vs).length≤k:=by simpa using h9
  refine QK ?_;refine zQ ?_;exact Qr (Jf hg hge).symm
 have hlt:k<(vs).length:=by simpa using h9
 obtain⟨x,hx⟩:=Qw hlt;refine QL ?_;refine zP (Qh rfl rfl rfl k rfl _ (Q8 hx) rfl) ?_;refine Jl ?_;refine zP (Qd (QcS _ _) rfl rfl rfl) ?_;refine QR ?_
 refine zq ?_ ?_<;>intro h16
 ·refine QI ?_;refine zQ ?_;exact Qr (Xe hg hx (by simp_all)).symm
 refine QK ?_;refine Qc ?_;exact⟨⟨k+1,hlt,XO hg hx (by simp_all)⟩,Qa rfl (YG ⟨JC,rfl,trivial⟩) ⟨rfl,rfl,rfl,trivial⟩,by dsimp only;omega⟩
theorem QjM (l:Qv)(vs:List Qz):FC Tryz.prog 129 [.agg (Q7 l),Ki vs] (i64 (JP l vs)):=by
 refine Qg [4] Tryz.func129 rfl rfl 12 Tryz.ntmps129 (Nat.le_of_ble_eq_true rfl) ?_
 intro E hN;refine J6 ?_;refine zP (Qd (QcB l) rfl rfl rfl) ?_;refine QR ?_
 refine zq ?_ ?_<;>intro h6
 ·refine QI ?_;refine zQ ?_;exact Q1 (by simp_all [JP])
 refine XL ?_;refine zP (Qd (Qm1 l vs) rfl rfl rfl) ?_;refine QR ?_
 refine zq ?_ ?_<;>intro h8
 ·refine QI ?_;refine zQ ?_;exact Q1 (by simp_all [JP])
 refine QK ?_;refine zQ ?_;exact Q1 (by simp_all [JP])
theorem Qcp (a b:Qz):QT 4 2 [i64 a.N,Jz a.nm,Ki a.ps,ens a.es,i64 b.N,Jz b.nm,Ki b.ps,ens b.es]=[a,b].map Ym:=by
 show[QO a,QO b]=_
 simp[KK]
theorem Quj (l:Qv)(a b:Qz):FC Tryz.prog 84 [.agg (Q7 l),.agg (QO a),.agg (QO b)] (bl (QeI l a b)):=by
 refine Qg [6] Tryz.func84 rfl rfl 19 Tryz.ntmps84 (Nat.le_of_ble_eq_true rfl) ?_
 intro E hN;refine JF ?_;refine zP (XH rfl rfl rfl rfl (by exact rfl) (by decide) (by decide) (Qcp a b)) ?_;refine zP (Qd (QjM l [a,b]) rfl rfl rfl) ?_;refine QR ?_
 refine zc 13 ?_ ?_<;>intro h12
 ·have hok:=Qgh (by simpa using h12)
  refine QI ?_;refine uP (XT h12) (Qd (Qgw l (Q9 hok.1) a b (hok.2 a (by simp)) (hok.2 b (by simp))) rfl rfl rfl) ?_;refine QR ?_;refine zQ ?_;exact Qr (by simp_all [QeI])
 refine XL ?_;refine zQ ?_;exact Qr (by simp_all [QeI])
end Go.Proofs.YtnkkokmmeplbgaaGreat
