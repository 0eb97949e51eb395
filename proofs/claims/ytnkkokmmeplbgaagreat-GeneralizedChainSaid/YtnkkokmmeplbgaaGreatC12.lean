/-
  Plain laws: the reference's chains (the least of the rest fi
-/
import Derived.Test.YtnkkokmmeplbgaaGreatC6
import Derived.Test.YtnkkokmmeplbgaaGreatB14
import Derived.Test.YtnkkokmmeplbgaaGreatB16
import Derived.Test.YtnkkokmmeplbgaaGreatC8
import Derived.Test.YtnkkokmmeplbgaaGreatC2
import Derived.Test.YtnkkokmmeplbgaaGreatB23
import Derived.Test.YtnkkokmmeplbgaaGreatC1
import Derived.Test.YtnkkokmmeplbgaaGreatB18
namespace Go.Proofs.YtnkkokmmeplbgaaGreat
set_option maxRecDepth 100000
set_option maxHeartbeats 1000000
open Go.RowKit
theorem Qp9 (x y:En):FC Tryz.prog 148 [.agg (enC x),.agg (enC y)] (bl (Qc4 x y)):=by
 refine Qg [4] Tryz.func148 rfl rfl 24 Tryz.ntmps148 (Nat.le_of_ble_eq_true rfl) ?_
 intro E hN;refine WT ?_
 refine zc 10 ?_ ?_<;>intro h9
 rotate_left
 ·refine X5 ?_;refine zP (Qd (Qeq _ _) rfl rfl rfl) ?_;refine QR ?_;refine zQ ?_;exact Qr (by simp_all [Qc4])
 refine QK ?_;refine uP (XT h9) (Qd (QqZ _ _) rfl rfl rfl) ?_;refine QR ?_
 refine zc 17 ?_ ?_<;>intro h14
 ·refine Xy ?_;refine zQ ?_;exact Qr (by simp_all [Qc4])
 refine QK ?_;refine uP (X3 h14) (Qd (Qeq _ _) rfl rfl rfl) ?_;refine QR ?_;refine zQ ?_;exact Qr (by simp_all [Qc4])
theorem Qt3 (v:Qz)(s:Nm):FC Tryz.prog 136 [.agg (QO v),sv s] (i64 (XN s v.nm 0)):=by
 refine Qg [4] Tryz.func136 rfl rfl 21 Tryz.ntmps136 (Nat.le_of_ble_eq_true rfl) ?_
 intro E hN;refine X5 ?_;refine Qq (fun x:{k:Nat // k≤(v.nm).length∧XN s (v.nm.drop k) k=XN s v.nm 0}=>⟨[(1,sv s),(2,.ptr 0 0),(5,i64 (x.1:Nat))],[(0,.var 30 (QO v))],1⟩) (fun x=>(v.nm).length-x.1) (⟨0,Nat.zero_le _,by simp⟩) ?_ ?_
 ·exact Qa rfl (YG trivial) ⟨rfl,rfl,rfl,trivial⟩
 rintro⟨k,hk,hg⟩;dsimp only;refine J6 ?_
 refine zq ?_ ?_<;>intro h10
 rotate_left
 ·have hge:(v.nm).length≤k:=by simpa using h10
  refine QK ?_;refine zQ ?_;exact Q1 (by rw[←hg,List.drop_of_length_le hge];rfl)
 refine Jq 8 rfl (fun hl8=>?_)
 have hlt:k<(v.nm).length:=by simpa using h10
 obtain⟨x,hx⟩:=Qw hlt
 have hs:XN s v.nm 0=if s==x then(k:Int) else XN s (v.nm.drop (k+1)) (k+1):=by rw[←hg,XI hx];rfl
 refine Jl ?_;refine zP (Qh rfl rfl rfl k rfl _ (Qt hx) rfl) ?_;refine QK ?_
 refine zq ?_ ?_<;>intro h15
 ·have hxs:x=s:=by simpa using h15
  refine QK ?_;refine zQ ?_;exact Q1 (by rw[hs,if_pos (by simp[hxs])])
 have hn:XN s (v.nm.drop (k+1)) (k+1)=XN s v.nm 0:=by
  have hxs:x≠s:=by simpa using h15
  rw[hs,if_neg (by simp[Ne.symm hxs])]
 refine QL ?_;refine Qc ?_;exact⟨⟨k+1,hlt,hn⟩,Qa rfl (Yw ⟨JC,rfl,trivial⟩) ⟨rfl,rfl,rfl,trivial⟩,by dsimp only;omega⟩
theorem QpV (e:En)(l:List En)(hx0:Q2 (-1) e.1=true)(hl0:∀y∈l,Q2 (-1) y.1=true):FC Tryz.prog 137 [.agg (enC e),ens l] (bl (J9 l e)):=by
 refine Qg [4] Tryz.func137 rfl rfl 18 Tryz.ntmps137 (Nat.le_of_ble_eq_true rfl) ?_
 intro E hN;refine Jq 1 rfl (fun hl1=>?_);rw[←Qqg hx0 hl0];refine X5 ?_;refine Qq (fun x:{k:Nat // k≤(l).length∧(l.drop k).any (Qc4 e)=l.any (Qc4 e)}=>⟨[(1,ens l),(2,.ptr 0 0),(5,i64 (x.1:Nat))],[(0,.var 149 (enC e))],1⟩) (fun x=>(l).length-x.1) (⟨0,Nat.zero_le _,by simp⟩) ?_ ?_
 ·exact Qa rfl (YG trivial) ⟨rfl,rfl,rfl,trivial⟩
 rintro⟨k,hk,hg⟩;dsimp only;refine Jl ?_
 refine zq ?_ ?_<;>intro h8
 rotate_left
 ·have hge:(l).length≤k:=by simpa using h8
  refine QK ?_;refine zQ ?_;exact Qr (Qhd hg hge).symm
 have hlt:k<l.length:=by simpa using h8
 obtain⟨y,hy⟩:=Qw hlt;refine QK ?_;refine zD 5 ?_;refine QI ?_;refine zp (Qh rfl rfl rfl k rfl _ (Qt hy) rfl) ?_;refine zl ?_;refine zP (Qd (Qp9 e y) rfl rfl rfl) ?_;refine zN ?_
 refine zq ?_ ?_<;>intro h12
 ·have h4:=h12
  refine QI ?_;refine zQ ?_;exact Qr (Qhp hg hy h4).symm
 have h4:=h12
 refine QL ?_;refine Qc ?_;exact⟨⟨k+1,hlt,QkK hg hy h4⟩,Qa rfl (Yw ⟨JC,rfl,trivial⟩) ⟨rfl,rfl,rfl,trivial⟩,by dsimp only;omega⟩
theorem Qw1 (l:Qv)(hO:Yv l)(ih:∀q∈l.ps,∀x y,QA x q=true→QA y q=true→SmV 1000000 x→FC Tryz.prog 105 [.agg (Q7 q),.agg (QO x),.agg (QO y)] (bl (QE q x y)))(a b:Qz)(ha:QA a l=true)(hb:QA b l=true)(sa:SmV 1000000 a):FC Tryz.prog 105 [.agg (Q7 l),.agg (QO a),.agg (QO b)] (bl (QE l a b)):=by
 refine Qg [6] Tryz.func105 rfl rfl 166 Tryz.ntmps105 (Nat.le_of_ble_eq_true rfl) ?_
 intro E hN;refine Qf2 ?_
 refine zq ?_ ?_<;>intro h9
 ·refine XR ?_;refine zQ ?_;exact Qr (by rw[X1];simp_all)
 refine QK ?_
 refine zq ?_ ?_<;>intro h15
 ·refine Jl ?_;refine zQ ?_;exact Qr (by rw[X1];simp_all)
 refine QL ?_
 refine zq ?_ ?_<;>intro h21
 ·refine Jl ?_;refine zQ ?_;exact Qr (by rw[X1];simp_all)
 refine XL ?_
 refine zq ?_ ?_<;>intro h27
 ·refine Jl ?_;refine zP (Qd (Qfi _ _ sa.nm) rfl rfl rfl) ?_;refine zS ?_;refine zQ ?_;exact Qr (by rw[X1];simp_all)
 refine QK ?_
 refine zq ?_ ?_<;>intro h33
 ·refine XL ?_;refine zP (Qd (Qfi _ _ sa.nm) rfl rfl rfl) ?_;refine zS ?_;refine zQ ?_;exact Qr (by rw[X1];simp_all)
 refine QL ?_
 refine zq ?_ ?_<;>intro h39
 ·refine XL ?_
  refine zc 41 ?_ ?_<;>intro h42
  ·refine XR ?_;refine zQ ?_;exact Qr (by rw[X1];simp_all)
  refine QL ?_
  refine zc 46 ?_ ?_<;>intro h45
  ·refine QL ?_;refine zQ ?_;exact Qr (by rw[X1];simp_all)
  refine QR ?_;refine uP (X3 h45) (Qd (QcR _ _) rfl rfl rfl) ?_;refine QR ?_;refine zQ ?_;exact Qr (by rw[X1];simp_all)
 refine QL ?_
 refine zq ?_ ?_<;>intro h49
 ·refine QR ?_
  have hk7:l.k=7:=by simp_all
  obtain⟨q1,q2,hps⟩:=Wz hO.shape hk7;obtain⟨x1,x2,hpa,hx1,hx2⟩:=Kc ha hk7 hps;obtain⟨y1,y2,hpb,hy1,hy2⟩:=Kc hb hk7 hps
  have hE:QE l a b=if eqV x1 y1 then QE q2 x2 y2 else QE q1 x1 y1:=by rw[X1,hk7,hps,hpa,hpb];simp[Qrk]
  have hq1':l.ps[0]?=some q1:=by rw[hps];rfl
  have hq2':l.ps[1]?=some q2:=by rw[hps];rfl
  have hx1':a.ps[0]?=some x1:=by rw[hpa];rfl
  have hx2':a.ps[1]?=some x2:=by rw[hpa];rfl
  have hy1':b.ps[0]?=some y1:=by rw[hpb];rfl
  have hy2':b.ps[1]?=some y2:=by rw[hpb];rfl
  refine zD 8 ?_;refine QR ?_;refine zp (Qh rfl rfl rfl 0 rfl _ (Q8 hx1') rfl) ?_;refine QI ?_;refine zp (Qh rfl rfl rfl 0 rfl _ (Q8 hy1') rfl) ?_;refine zl ?_;refine zP (Qd (QcR _ _) rfl rfl rfl) ?_;refine zN ?_
  refine zq ?_ ?_<;>intro h58
  ·have h13:=h58
   refine Yy ?_;refine zD 13 ?_;refine QR ?_;refine zp (Qh rfl rfl rfl 1 rfl _ (X9 hq2') rfl) ?_;refine QI ?_;refine zp (Qh rfl rfl rfl 1 rfl _ (Q8 hx2') rfl) ?_;refine QI ?_;refine zp (Qh rfl rfl rfl 1 rfl _ (Q8 hy2') rfl) ?_;refine zl ?_;refine zp (Qd (ih q2 (by rw[hps];simp) x2 y2 hx2 hy2 (sa.part x2 (by rw[hpa];simp))) rfl rfl rfl) ?_;refine zS ?_;refine zQ ?_;exact Qr (by rw[hE,if_pos h13])
  have h13:=h58
  refine QR ?_;refine zD 13 ?_;refine QR ?_;refine zp (Qh rfl rfl rfl 0 rfl _ (X9 hq1') rfl) ?_;refine QI ?_;refine zp (Qh rfl rfl rfl 0 rfl _ (Q8 hx1') rfl) ?_;refine QI ?_;refine zp (Qh rfl rfl rfl 0 rfl _ (Q8 hy1') rfl) ?_;refine zl ?_;refine zp (Qd (ih q1 (by rw[hps];simp) x1 y1 hx1 hy1 (sa.part x1 (by rw[hpa];simp))) rfl rfl rfl) ?_;refine zS ?_;refine zQ ?_;exact Qr (by rw[hE,if_neg (by simp[h13])])
 refine QL ?_
 refine zq ?_ ?_<;>intro h85
 ·refine XL ?_
  have hk5:l.k=5:=by simp_all
  obtain⟨q,r,hps⟩:=Qhr hO.shape hk5
  have hqm:q∈l.ps:=by rw[hps];exact List.mem_cons_self
  have hq0:l.ps[0]?=some q:=by rw[hps];rfl
  obtain⟨hla,hea⟩:=Qvt ha hk5 hps;obtain⟨hlb,heb⟩:=Qvt hb hk5 hps
  have hE:QE l a b=(a.nm.zip a.ps).all (Qe1 q b):=by rw[X1,hk5,hps];simp[Qie]
  refine Qq (fun x:{k:Nat // k≤(a.nm).length∧((a.nm.zip a.ps).drop k).all (Qe1 q b)=(a.nm.zip a.ps).all (Qe1 q b)}=>⟨[(3,.ptr 0 0),(4,.ptr 1 0),(5,.ptr 2 0),(7,i64 (x.1:Nat))],[(0,.var 26 (Q7 l)),(1,.var 30 (QO a)),(2,.var 30 (QO b))],3⟩) (fun x=>(a.nm).length-x.1) (⟨0,Nat.zero_le _,by simp⟩) ?_ ?_
  ·exact Qa rfl (Ks trivial) ⟨rfl,rfl,rfl,rfl,rfl,rfl,rfl,rfl,rfl,trivial⟩
  rintro⟨k,hk,hg⟩;dsimp only;refine J6 ?_
  refine zq ?_ ?_<;>intro h93
  rotate_left
  ·have hge:(a.nm).length≤k:=by simpa using h93
   refine QK ?_;refine zQ ?_;exact Qr (by rw[hE,Jf hg (by simp;omega)])
  refine Jq 92 rfl (fun hl8=>?_)
  have hlt:k<(a.nm).length:=by simpa using h93
  obtain⟨x,hx⟩:=Qw hlt;obtain⟨p,hp⟩:=Qw (show k<a.ps.length by omega);refine QK ?_;refine zD 7 ?_;refine QK ?_;refine zp (Qh rfl rfl rfl k rfl _ (Qt hx) rfl) ?_;refine zl ?_;refine zp (Qd (Qt3 b x) rfl rfl rfl) ?_;refine QI ?_;refine zD 19 ?_;refine QI ?_
  refine zd 106 ?_ ?_<;>intro h100
  ·have hpo:=Qcg (s:=x) (b:=b) (by simpa using h100)
   refine QpI ?_;refine zQ ?_;exact Qr (by rw[hE,Xe hg (Qbz hx hp) (by simp only[Qe1,hpo];first|done|simp_all)])
  obtain⟨j,hj,hjl⟩:∃j:Nat,XN x b.nm 0=(j:Int)∧j<b.ps.length:=by
   rcases Qex x b.nm 0 with h1|⟨j,-,h2,h3⟩
   ·simp[h1] at h100
   exact⟨j,h3,by omega⟩
  obtain⟨y,hy⟩:=Qw hjl
  have hpo:=Qec hj hy
  refine QR ?_;refine vP (X3 h100) (Qh rfl rfl rfl 0 rfl _ (X9 hq0) rfl) ?_;refine QK ?_;refine vP (X3 h100) (Qh rfl rfl rfl k rfl _ (Q8 hp) rfl) ?_;refine QK ?_;refine vP (X3 h100) (Qh rfl rfl rfl j hj _ (Q8 hy) rfl) ?_;refine Yy ?_;refine vP (X3 h100) (Qd (ih q hqm p y (hea p (List.mem_of_getElem? hp)) (heb y (List.mem_of_getElem? hy)) (sa.part p (List.mem_of_getElem? hp))) rfl rfl rfl) ?_;refine QI ?_
  refine zq ?_ ?_<;>intro h113
  ·refine QI ?_;refine zQ ?_;exact Qr (by rw[hE,Xe hg (Qbz hx hp) (by simp only[Qe1,hpo];first|done|simp_all)])
  refine QL ?_;refine Qc ?_;exact⟨⟨k+1,hlt,XO hg (Qbz hx hp) (by simp only[Qe1,hpo];simp_all)⟩,Qa rfl (YG ⟨JC,rfl,trivial⟩) ⟨rfl,rfl,rfl,rfl,rfl,rfl,rfl,rfl,rfl,trivial⟩,by dsimp only;omega⟩
 refine QL ?_
 refine zq ?_ ?_<;>intro h115
 ·refine XL ?_
  have hk6:l.k=6:=by simp_all
  obtain⟨hla,hza⟩:=Qqi ha (.inl hk6);obtain⟨hlb,hzb⟩:=Qqi hb (.inl hk6)
  have hE:QE l a b=Qdj l.ps a.ps b.ps:=by rw[X1,hk6];rfl
  refine Qq (fun x:{k:Nat // k≤(a.ps).length∧Qdj (l.ps.drop k) (a.ps.drop k) (b.ps.drop k)=Qdj l.ps a.ps b.ps}=>⟨[(3,.ptr 0 0),(4,.ptr 1 0),(5,.ptr 2 0),(9,i64 (x.1:Nat))],[(0,.var 26 (Q7 l)),(1,.var 30 (QO a)),(2,.var 30 (QO b))],3⟩) (fun x=>(a.ps).length-x.1) (⟨0,Nat.zero_le _,by simp⟩) ?_ ?_
  ·exact Qa rfl (Ks trivial) ⟨rfl,rfl,rfl,rfl,rfl,rfl,rfl,rfl,rfl,trivial⟩
  rintro⟨k,hk,hg⟩;dsimp only;refine J6 ?_
  refine zq ?_ ?_<;>intro h123
  rotate_left
  ·have hge:(a.ps).length≤k:=by simpa using h123
   refine QK ?_;refine zQ ?_;exact Qr (by rw[hE,Qrh hg (by omega)])
  refine Jq 128 rfl (fun hl8=>?_)
  have hlt:k<a.ps.length:=by simpa using h123
  obtain⟨q,hq⟩:=Qw (show k<l.ps.length by omega);obtain⟨x,hx⟩:=Qw (show k<a.ps.length by omega);obtain⟨y,hy⟩:=Qw (show k<b.ps.length by omega)
  have hqm:q∈l.ps:=List.mem_of_getElem? hq
  have hs:=QvN hg hq hx hy
  refine QK ?_;refine zD 16 ?_;refine QI ?_;refine zp (Qh rfl rfl rfl k rfl _ (X9 hq) rfl) ?_;refine QK ?_;refine zp (Qh rfl rfl rfl k rfl _ (Q8 hx) rfl) ?_;refine QK ?_;refine zp (Qh rfl rfl rfl k rfl _ (Q8 hy) rfl) ?_;refine zl ?_;refine zp (Qd (ih q hqm x y (Jo hza hx hq) (Jo hzb hy hq) (sa.part x (List.mem_of_getElem? hx))) rfl rfl rfl) ?_;refine QR ?_
  refine zq ?_ ?_<;>intro h136
  ·refine QI ?_;refine zQ ?_;exact Qr (by rw[hE,hs];simp_all)
  refine QL ?_;refine Qc ?_;exact⟨⟨k+1,hlt,by simp_all⟩,Qa rfl (YG ⟨JC,rfl,trivial⟩) ⟨rfl,rfl,rfl,rfl,rfl,rfl,rfl,rfl,rfl,trivial⟩,by dsimp only;omega⟩
 refine Xy ?_
 have hk9:l.k=9:=by
  have:=QfN hO
  simp only[beq_eq_false_iff_ne] at *
  omega
 have rga:=(WU ha hk9).2.2.2
 have rgb:=(WU hb hk9).2.2.2
 have hE:QE l a b=a.es.all (J9 b.es):=by rw[X1,hk9];rfl
 refine Qq (fun x:{k:Nat // k≤(a.es).length∧(a.es.drop k).all (J9 b.es)=a.es.all (J9 b.es)}=>⟨[(3,.ptr 0 0),(4,.ptr 1 0),(5,.ptr 2 0),(10,i64 (x.1:Nat))],[(0,.var 26 (Q7 l)),(1,.var 30 (QO a)),(2,.var 30 (QO b))],3⟩) (fun x=>(a.es).length-x.1) (⟨0,Nat.zero_le _,by simp⟩) ?_ ?_
 ·exact Qa rfl (Ks trivial) ⟨rfl,rfl,rfl,rfl,rfl,rfl,rfl,rfl,rfl,trivial⟩
 rintro⟨k,hk,hg⟩;dsimp only;refine J6 ?_
 refine zq ?_ ?_<;>intro h145
 rotate_left
 ·have hge:(a.es).length≤k:=by simpa using h145
  refine QK ?_;refine zQ ?_;exact Qr (by rw[hE,Jf hg hge])
 refine Jq 152 rfl (fun hl8=>?_)
 have hlt:k<(a.es).length:=by simpa using h145
 obtain⟨x,hx⟩:=Qw hlt;refine QK ?_;refine zD 8 ?_;refine QI ?_;refine zp (Qh rfl rfl rfl k rfl _ (Qt hx) rfl) ?_;refine QI ?_;refine zp (Qd (QpV x b.es (rga.valid x (List.mem_of_getElem? hx)) rgb.valid) rfl rfl rfl) ?_;refine QR ?_
 refine zq ?_ ?_<;>intro h152
 ·refine QI ?_;refine zQ ?_;exact Qr (by rw[hE,Xe hg hx (by simp_all)])
 refine QL ?_;refine Qc ?_;exact⟨⟨k+1,hlt,XO hg hx (by simp_all)⟩,Qa rfl (YG ⟨JC,rfl,trivial⟩) ⟨rfl,rfl,rfl,rfl,rfl,rfl,rfl,rfl,rfl,trivial⟩,by dsimp only;omega⟩
theorem Qho (l:Qv)(hO:Yv l)(a b:Qz)(ha:QA a l=true)(hb:QA b l=true)(sa:SmV 1000000 a):FC Tryz.prog 105 [.agg (Q7 l),.agg (QO a),.agg (QO b)] (bl (QE l a b)):=Qw1 l hO (fun q hq x y hx hy sx=>Qho q (hO.part q hq) x y hx hy sx) a b ha hb sa
termination_by l
decreasing_by exact Qv.sizeOf_ps ‹_›
theorem QmT (l:Qv)(a b:Qz):(JP l [a,b]==0)=(Xr l a&&Xr l b):=by
 unfold JP QaC Xr
 cases h:QJ l==0
 ·simp_all
 have h0:QJ l=0:=by simpa using h
 simp[h0]
 cases QA a l<;>cases QA b l<;>simp
theorem QfG (l:Qv)(a b:Qz):QeI l a b=(Xr l a&&Xr l b&&QE l a b):=by rw[QeI,QmT]
theorem Qpu (l:Qv)(a b:Qz):QiN l a b=(QeI l a b||QeI l b a):=by
 rw[QfG,QfG,QiN,QmT]
 cases Xr l a<;>cases Xr l b<;>rfl
theorem QiK {l:Qv}{a:Qz}(h:Xr l a=true):Yv l∧QA a l=true:=by
 unfold Xr at h
 rw[Bool.and_eq_true] at h;exact⟨Q9 (by simpa using h.1),h.2⟩
theorem QlE (l:Qv)(a b:Qz)(sa:SmV 1000000 a):FC Tryz.prog 56 [.agg (Q7 l),.agg (QO a),.agg (QO b)] (bl (QeI l a b)):=by
 refine Qg [6] Tryz.func56 rfl rfl 21 Tryz.ntmps56 (Nat.le_of_ble_eq_true rfl) ?_
 intro E hN;refine X5 ?_;refine zP (Qd (QbJ _ _) rfl rfl rfl) ?_;refine zM ?_
 refine zc 10 ?_ ?_<;>intro h9
 rotate_left
 ·refine X5 ?_;refine zQ ?_;exact Qr (by rw[QfG];simp_all)
 refine QR ?_;refine uP (XT h9) (Qd (QbJ _ _) rfl rfl rfl) ?_;refine QR ?_
 refine zc 15 ?_ ?_<;>intro h12
 ·have hok:Yv l∧QA a l=true∧QA b l=true:=by
   have h1:Xr l a=true∧Xr l b=true:=by simp_all
   exact⟨(QiK h1.1).1,(QiK h1.1).2,(QiK h1.2).2⟩
  refine QI ?_;refine uP (XT h12) (Qd (Qho l hok.1 a b hok.2.1 hok.2.2 sa) rfl rfl rfl) ?_;refine QR ?_;refine zQ ?_;exact Qr (by rw[QfG];simp_all)
 refine XL ?_;refine zQ ?_;exact Qr (by rw[QfG];simp_all)
theorem Qtj (l:Qv)(a b:Qz)(sa:SmV 1000000 a)(sb:SmV 1000000 b):FC Tryz.prog 71 [.agg (Q7 l),.agg (QO a),.agg (QO b)] (bl (QiN l a b)):=by
 refine Qg [6] Tryz.func71 rfl rfl 17 Tryz.ntmps71 (Nat.le_of_ble_eq_true rfl) ?_
 intro E hN;refine JF ?_;refine zP (Qd (QlE l a b sa) rfl rfl rfl) ?_;refine zM ?_
 refine zc 11 ?_ ?_<;>intro h10
 ·refine XL ?_;refine zQ ?_;exact Qr (by rw[Qpu];simp_all)
 refine QI ?_;refine uP (X3 h10) (Qd (QlE l b a sb) rfl rfl rfl) ?_;refine QR ?_;refine zQ ?_;exact Qr (by rw[Qpu];simp_all)
end Go.Proofs.YtnkkokmmeplbgaaGreat
namespace Go.Proofs.YtnkkokmmeplbgaaGreat
open Go.RowKit
end Go.Proofs.YtnkkokmmeplbgaaGreat
namespace Go.Proofs.YtnkkokmmeplbgaaGreat
set_option maxRecDepth 100000
set_option maxHeartbeats 1000000
open Go.RowKit
section
variable {up:Bool}{q:Qv}{a b:Qz}{s:Nm}{x y:Qz}
end
section
variable {f:Nm→Option Qz}{u:List Nm}{k:Nat}{s:Nm}{v:Qz}
end
theorem QqD (l:Qv)(vs:List Qz):FC Tryz.prog 72 [.agg (Q7 l),Ki vs] (i64 (JP l vs)):=by
 refine Qg [4] Tryz.func72 rfl rfl 22 Tryz.ntmps72 (Nat.le_of_ble_eq_true rfl) ?_
 intro E hN;refine Jq 1 rfl (fun hl1=>?_);refine J6 ?_;refine zP (Qd (Qia l) rfl rfl rfl) ?_;refine QR ?_
 refine zq ?_ ?_<;>intro h6
 ·have h1:¬QJ l=0:=by simpa using h6
  refine QI ?_;refine zQ ?_;exact Q1 (by unfold JP;simp[h1])
 have h1:QJ l=0:=by simpa using h6
 refine Xy ?_;refine Qq (fun x:{k:Nat // k≤(vs).length∧(vs.drop k).all (Xr l)=vs.all (Xr l)}=>⟨[(1,Ki vs),(2,.ptr 0 0),(5,i64 (x.1:Nat))],[(0,.var 26 (Q7 l))],1⟩) (fun x=>(vs).length-x.1) (⟨0,Nat.zero_le _,by simp⟩) ?_ ?_
 ·exact Qa rfl (YG trivial) ⟨rfl,rfl,rfl,trivial⟩
 rintro⟨k,hk,hg⟩;dsimp only;refine Jl ?_
 refine zq ?_ ?_<;>intro h10
 rotate_left
 ·have hge:(vs).length≤k:=by simpa using h10
  refine QK ?_;refine zQ ?_;exact Q1 (by unfold JP QaC;rw[Jf hg hge];simp[h1])
 have hlt:k<(vs).length:=by simpa using h10
 obtain⟨x,hx⟩:=Qw hlt;refine QK ?_;refine zD 6 ?_;refine QI ?_;refine zp (Qh rfl rfl rfl k rfl _ (Q8 hx) rfl) ?_;refine zl ?_;refine zp (Qd (QbJ l x) rfl rfl rfl) ?_;refine QR ?_
 refine zq ?_ ?_<;>intro h14
 ·refine QI ?_;refine zQ ?_;exact Q1 (by unfold JP QaC;rw[Xe hg hx (by simp_all)];simp[h1])
 refine QL ?_;refine Qc ?_;exact⟨⟨k+1,hlt,XO hg hx (by simp_all)⟩,Qa rfl (Yw ⟨JC,rfl,trivial⟩) ⟨rfl,rfl,rfl,trivial⟩,by dsimp only;omega⟩
end Go.Proofs.YtnkkokmmeplbgaaGreat
namespace Go.Proofs.YtnkkokmmeplbgaaGreat
open Go.RowKit
end Go.Proofs.YtnkkokmmeplbgaaGreat
namespace Go.Proofs.YtnkkokmmeplbgaaGreat
set_option maxRecDepth 100000
set_option maxHeartbeats 1000000
open Go.RowKit
def beR (l:Qv)(vs:List Qz)(x y:Int):Prop:=QE l (Kt vs x) (Kt vs y)=true∧(QE l (Kt vs y) (Kt vs x)=true→x<y)
structure Qs1 (l:Qv) (vs:List Qz) (out:List Int):Prop where
 rg:∀y∈out,0≤y∧y<vs.length
 nd:out.Nodup
 pw:out.Pairwise (beR l vs)
 lo:∀y∈out,∀j:Int,0≤j→j<vs.length→j∉out→beR l vs y j
def Qfz (l:Qv)(vs:List Qz)(out:List Int)(i:Nat)(nx:Int):Prop:=
 (nx = -1∧∀j:Int,0≤j→j<i→j∈out)∨(0≤nx∧nx<i∧nx∉out∧∀j:Int,0≤j→j<i→j∉out→j≠nx→beR l vs nx j)
section
variable {l:Qv}{vs:List Qz}(hO:Yv l)(hel:∀v∈vs,QA v l=true)
include hO hel
theorem Qiz:∀(k:Nat) (out:List Int),k≤vs.length→KE l vs k=some out→out.Pairwise (beR l vs)
 |0,out,_,h=>by cases h;exact List.Pairwise.nil
 |k+1,out,hk,h=>by
  obtain⟨v,hv⟩:=Qw (show k<vs.length by omega)
  cases hc:KE l vs k with
  |none=>have:=QdR hc 1;rw[h] at this;cases this
  |some o1=>
   have hgood:=QaF hO hel (k+1) out hk h
   rw[QdK hc hv,QaB] at h;obtain⟨m,nd,pw⟩:=QaF hO hel k o1 (by omega) hc
   have ih:=Qiz k o1 (by omega) hc
   split at h
   ·cases h
    have hve:=hel v (List.mem_of_getElem? hv)
    have ge:∀ {y},y∈o1→QA (Kt vs y) l=true:=fun hy=>Qkp hel ((m _).1 hy) (by omega)
    have hp:o1.Pairwise (fun x y=>Qdv l vs v y=true→Qdv l vs v x=true):=by
     refine List.Pairwise.imp_of_mem (fun {x y} hx hy hxy hl=>?_) pw;exact Xu l hO _ _ _ (ge hx) (ge hy) hve hxy hl
    obtain⟨t1,t2⟩:=Qkg hp
    have hpw:=hgood.pw
    unfold QnF at hpw ⊢
    have pw':(o1.take (o1.countP (Qdv l vs v))++o1.drop (o1.countP (Qdv l vs v))).Pairwise (beR l vs):=by rw[List.take_append_drop];exact ih
    obtain⟨q1,q2,q3⟩:=List.pairwise_append.1 pw';obtain⟨-,w2,w3⟩:=List.pairwise_append.1 hpw;obtain⟨w4,-⟩:=List.pairwise_cons.1 w2;refine List.pairwise_append.2 ⟨q1,List.pairwise_cons.2 ⟨fun y hy=>⟨w4 y hy,fun hl=>?_⟩,q2⟩,fun x hx y hy=>?_⟩
    ·have h1:=t2 y hy
     unfold Qdv at h1
     rw[Qam hv,h1] at hl;cases hl
    rcases List.mem_cons.1 hy with rfl|hy
    ·exact⟨w3 x hx _ List.mem_cons_self,fun _=>((m x).1 (List.mem_of_mem_take hx)).2⟩
    exact q3 x hx y hy
   cases h
theorem Qqw (tot:∀(i j:Nat),i<vs.length→j<vs.length→QE l (Kt vs i) (Kt vs j)=true∨QE l (Kt vs j) (Kt vs i)=true){out:List Int}{i:Nat}{nx:Int}(hi:i<vs.length)(h:Qfz l vs out i nx):
  Qfz l vs out (i+1) (if !decide ((i:Int)∈out)&&(decide (nx<0)||(QE l (Kt vs i) (Kt vs nx) && !QE l (Kt vs nx) (Kt vs i))) then(i:Int) else nx):=by
 have ge:∀ {y:Int},0≤y→y<vs.length→QA (Kt vs y) l=true:=fun h1 h2=>Qkp hel ⟨h1,h2⟩ (Nat.le_refl _)
 have ei:=ge (y:=(i:Int)) (by omega) (by omega)
 by_cases hm:(i:Int)∈out
 ·simp only[hm,decide_true,Bool.not_true,Bool.false_and,Bool.false_eq_true,if_false]
  rcases h with ⟨h1,h2⟩|⟨h1,h2,h3,h4⟩
  ·exact .inl ⟨h1,fun j hj0 hj=>by
    by_cases e:j=(i:Int)
    ·rw[e];exact hm
    exact h2 j hj0 (by omega)⟩
  exact .inr ⟨h1,by omega,h3,fun j hj0 hj hjo hjn=>h4 j hj0 (by
   have:j≠(i:Int):=fun e=>hjo (e▸hm)
   omega) hjo hjn⟩
 simp only[hm,decide_false,Bool.not_false,Bool.true_and]
 rcases h with ⟨h1,h2⟩|⟨h1,h2,h3,h4⟩
 ·subst h1
  simp only[show((-1:Int)<0) from by decide,decide_true,Bool.true_or,if_true]
  refine .inr ⟨by omega,by omega,hm,fun j hj0 hj hjo hjn=>absurd (h2 j hj0 (by omega)) hjo⟩
 have h5:¬nx<0:=by omega
 have en:=ge h1 (show nx<vs.length by omega)
 simp only[h5,decide_false,Bool.false_or]
 cases hb:(QE l (Kt vs i) (Kt vs nx) && !QE l (Kt vs nx) (Kt vs i)) with
 |true=>
  simp only[Bool.and_eq_true,Bool.not_eq_true'] at hb
  rw[if_pos rfl];refine .inr ⟨by omega,by omega,hm,fun j hj0 hj hjo hjn=>?_⟩
  by_cases e:j=nx
  ·subst e;exact⟨hb.1,fun hl=>by rw[hb.2] at hl;cases hl⟩
  have ej:=ge hj0 (show j<vs.length by omega)
  obtain⟨g1,g2⟩:=h4 j hj0 (by omega) hjo e;refine⟨Xu l hO _ _ _ ei en ej hb.1 g1,fun hl=>?_⟩
  have:=Xu l hO _ _ _ en ej ei g1 hl
  rw[hb.2] at this;cases this
 |false=>
  rw[if_neg (by decide)];refine .inr ⟨h1,by omega,h3,fun j hj0 hj hjo hjn=>?_⟩
  by_cases e:j=(i:Int)
  ·subst e
   refine⟨?_,fun _=>h2⟩
   obtain⟨n,rfl⟩:∃n:Nat,nx=n:=⟨nx.toNat,by omega⟩
   rcases tot n i (by omega) hi with ht|ht
   ·exact ht
   rw[ht,Bool.true_and,Bool.not_eq_false'] at hb;exact hb
  exact h4 j hj0 (by omega) hjo hjn
omit hO hel in
theorem Qq3 (out:List Int):Qfz l vs out 0 (-1):=.inl ⟨rfl,fun j h1 h2=>by omega⟩
omit hO hel in
theorem Qso {out:List Int}(h1:∀y∈out,0≤y∧y<vs.length)(h2:out.Nodup):out.length≤vs.length:=by
 have:=Qes out ((List.range vs.length).map fun(n:Nat)=>(n:Int)) h2 (fun y hy=>List.mem_map.2 ⟨y.toNat,List.mem_range.2 (by have:=h1 y hy;omega),by have:=h1 y hy;omega⟩)
 simpa using this
omit hO hel in
theorem Qxw {out:List Int}(h:∀j:Int,0≤j→j<vs.length→j∈out):vs.length≤out.length:=by
 have nd:((List.range vs.length).map fun(n:Nat)=>(n:Int)).Nodup:=by
  show List.Pairwise _ _
  rw[List.pairwise_map];exact(List.nodup_range (n:=vs.length)).imp (fun {a b} h e=>h (by omega))
 have:=Qes _ out nd (fun y hy=>by
  obtain⟨n,hn,rfl⟩:=List.mem_map.1 hy
  have:=List.mem_range.1 hn
  exact h _ (by omega) (by omega))
 simpa using this
omit hO hel in
theorem Qtz {out:List Int}{nx:Int}(hS:Qs1 l vs out)(hlt:out.length<vs.length)(h:Qfz l vs out vs.length nx):0≤nx∧nx<vs.length∧Qs1 l vs (out++[nx]):=by
 rcases h with ⟨-,h2⟩|⟨h1,h2,h3,h4⟩
 ·have:=Qxw h2;omega
 refine⟨h1,h2,fun y hy=>?_,?_,?_,fun y hy j hj0 hj hjo=>?_⟩
 ·rcases List.mem_append.1 hy with hy|hy
  ·exact hS.rg y hy
  rw[List.mem_singleton.1 hy];exact⟨h1,h2⟩
 ·refine List.nodup_append.2 ⟨hS.nd,by simp,fun a ha b hb e=>h3 ?_⟩
  rw[←List.mem_singleton.1 hb,←e];exact ha
 ·refine List.pairwise_append.2 ⟨hS.pw,by simp,fun x hx y hy=>?_⟩
  rw[List.mem_singleton.1 hy];exact hS.lo x hx nx h1 h2 h3
 have hjo1:j∉out:=fun hm=>hjo (List.mem_append.2 (.inl hm))
 have hjo2:j≠nx:=fun e=>hjo (List.mem_append.2 (.inr (by simp[e])))
 rcases List.mem_append.1 hy with hy|hy
 ·exact hS.lo y hy j hj0 hj hjo1
 rw[List.mem_singleton.1 hy];exact h4 j hj0 hj hjo1 hjo2
omit hO hel in
theorem Qun:Qs1 l vs []:=⟨fun y h=>by simp at h,List.nodup_nil,List.Pairwise.nil,fun y h=>by simp at h⟩
theorem QqE {out o:List Int}(hc:KE l vs vs.length=some o)(hS:Qs1 l vs out)(hge:vs.length≤out.length):out=o:=by
 obtain⟨m,nd,-⟩:=QaF hO hel _ o (Nat.le_refl _) hc
 have hperm:out.Perm o:=by
  refine(List.perm_ext_iff_of_nodup hS.nd nd).2 fun y=>⟨fun hy=>(m y).2 (hS.rg y hy),fun hy=>?_⟩
  by_cases hc:y∈out
  ·exact hc
  have hr:=(m y).1 hy
  have:=Qso (vs:=vs) (out:=y::out) (fun z hz=>by
   rcases List.mem_cons.1 hz with rfl|hz
   ·exact hr
   exact hS.rg z hz) (List.nodup_cons.2 ⟨hc,hS.nd⟩)
  simp only[List.length_cons] at this
  omega
 refine hperm.eq_of_pairwise (fun x y _ _ h1 h2=>?_) hS.pw (Qiz hO hel _ o (Nat.le_refl _) hc)
 have a1:=h1.2 h2.1
 have a2:=h2.2 h1.1
 omega
end
theorem Qvn (l:List Int)(n:Int):FC Tryz.prog 104 [ivs l,i64 n] (bl (decide (n∈l))):=by
 refine Qg [4] Tryz.func104 rfl rfl 18 Tryz.ntmps104 (Nat.le_of_ble_eq_true rfl) ?_
 intro E hN;refine Jq 0 rfl (fun hl0=>?_)
 have hE:l.any (fun y=>y==n)=decide (n∈l):=by rw[Bool.eq_iff_iff];simp
 rw[←hE];refine XR ?_;refine Qq (fun x:{k:Nat // k≤(l).length∧(l.drop k).any (fun y=>y==n)=l.any (fun y=>y==n)}=>⟨[(0,ivs l),(1,i64 n),(5,i64 (x.1:Nat))],[],0⟩) (fun x=>(l).length-x.1) (⟨0,Nat.zero_le _,by simp⟩) ?_ ?_
 ·exact Qa rfl (YG trivial) trivial
 rintro⟨k,hk,hg⟩;dsimp only;refine Jl ?_
 refine zq ?_ ?_<;>intro h6
 rotate_left
 ·have hge:(l).length≤k:=by simpa using h6
  refine QK ?_;refine zQ ?_;exact Qr (Qhd hg hge).symm
 have hlt:k<(l).length:=by simpa using h6
 obtain⟨x,hx⟩:=Qw hlt;refine Xy ?_;refine zP (Qh rfl rfl rfl k rfl _ (Qt hx) rfl) ?_;refine QK ?_
 refine zq ?_ ?_<;>intro h9
 ·have h4:=h9
  refine QI ?_;refine zQ ?_;exact Qr (Qhp hg hx (by simpa using h4)).symm
 have h4:=h9
 refine QL ?_;refine Qc ?_;exact⟨⟨k+1,hlt,QkK hg hx (by simpa using h4)⟩,Qa rfl (Yw ⟨JC,rfl,trivial⟩) trivial,by dsimp only;omega⟩
end Go.Proofs.YtnkkokmmeplbgaaGreat
