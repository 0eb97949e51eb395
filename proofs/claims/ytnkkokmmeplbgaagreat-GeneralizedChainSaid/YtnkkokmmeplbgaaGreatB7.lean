/-
  Contracts: elements of a lattice.
-/
import Derived.Test.YtnkkokmmeplbgaaGreatB5
namespace Go.Proofs.YtnkkokmmeplbgaaGreat
set_option maxRecDepth 100000
set_option maxHeartbeats 1000000
open Go.RowKit
def QfV (e f:En):Bool := !(QfI e.1 f.1==1||QfI e.1 f.1==2)
def Qft (l:List En)(e:En)(i:Nat):Bool := !((e.1.length:Int)==0)&&Q2 (-1) e.1&&XU e.2 && !(decide ((i:Int) > 0)&&(match l[i-1]? with|some y=>decide (JV y e≥0)|none=>false))&&(l.take i).all (QfV e)
def Qgk (l:List En)(p:En×Nat):Bool:=Qft l p.1 p.2
def QkH (l:List En):Bool:=l.zipIdx.all (Qgk l)
theorem Jr {l:List En}{k:Nat}{x:En}(h:l[k]?=some x):l.zipIdx[k]?=some (x,k):=by simp[h]
theorem Qfx (l:List En):l.zipIdx.length=l.length:=by simp
mutual
def Qy:Qv→Qz
 | .mk k lo hi _ ps _=>.mk (if k==2 then lo else if k==3 then hi else 0) [] (if k==6||k==7 then Qej ps else[]) []
def Qej:List Qv→List Qz
 |[]=>[]
 |p::r=>Qy p::Qej r
end
theorem Qfw:∀l:List Qv,Qej l=l.map Qy
 |[]=>by simp[Qej]
 |p::r=>by simp only[Qej,List.map_cons];rw[Qfw r]
theorem JM (l:Qv):Qy l=.mk (if l.k==2 then l.lo else if l.k==3 then l.hi else 0) [] (if l.k==6||l.k==7 then l.ps.map Qy else[]) []:=by
 cases l with
 |mk k lo hi nm ps rs=>rw[Qy,Qfw];rfl
theorem XS (v:Qz):okE 4 (Ym v)=true:=by rw[KK];rfl
theorem Yk (a b c d:AV):QT 4 1 [a,b,c,d]=[[a,b,c,d]]:=rfl
theorem cgV {tt:TypeId}{a b d:AV}{es es':List (List AV)}{tk:Option Nat}(h:es=es'):some (Qj.var tt [a,b,.sl es tk,d])=some (Qj.var tt [a,b,.sl es' tk,d]):=by rw[h]
theorem QfU {l:List Qv}{k:Nat}{x:Qv}(h:l[k]?=some x):(((l.take k).map Qy).map Ym)++QT 4 1 (QO (Qy x))=(((l.take (k+1)).map Qy).map Ym):=by
 rw[Yk,List.take_add_one,h]
 simp[KK]
theorem QiS {a b c d a' b' c' d':AV}(h1:a=a')(h2:b=b')(h3:c=c')(h4:d=d'):AV.agg [a,b,c,d]=AV.agg [a',b',c',d']:=by rw[h1,h2,h3,h4]
inductive Yv:Qv→Prop
 |mk (l:Qv) (h1:XB l=0) (h2:orE [JS l,Jx l,Je l,JA l]=0) (h3:l.ps.length≤64) (h4:∀p∈l.ps,Yv p):Yv l
theorem QjK:∀(f:Nat) (l:Qv) (n:Int),0≤n→(Xk f l n).1=0→Yv l∧n+1≤(Xk f l n).2∧(Xk f l n).2≤64
 |0,l,n,_,h=>by simp[Xk] at h
 |f+1,l,n,hn,h=>by
  by_cases h64:n≥64
  ·rw[QlS h64] at h;simp at h
  have h64:n<64:=by omega
  cases hs:XB l != 0 with
  |true=>rw[QfH h64 hs] at h;simp at h;simp[h] at hs
  |false=>
   cases ho:orE [JS l,Jx l,Je l,JA l] != 0 with
   |true=>rw[Qr4 h64 hs ho] at h;simp at h;simp[h] at ho
   |false=>
    rw[Qc5 h64 hs ho] at h ⊢
    have key:∀(q:Qv) (m:Int),0≤m→(Xk f q m).1=0→Yv q∧m+1≤(Xk f q m).2∧(Xk f q m).2≤64:=fun q m hm hq=>QjK f q m hm hq
    have all:∀(ps:List Qv) (m:Int),0≤m→m≤64→(JZ (Xk f) ps m).1=0→(∀p∈ps,Yv p)∧m+ps.length≤(JZ (Xk f) ps m).2∧(JZ (Xk f) ps m).2≤64:=by
     intro ps
     induction ps with
     |nil=>intro m _ h1 _;simpa [JZ] using h1
     |cons q r ih=>
      intro m h0 h1 h2
      unfold JZ at h2 ⊢
      split at h2
      ·rename_i hz
       rw[if_pos hz];obtain⟨k1,k2,k3⟩:=key q m h0 (by simpa using hz);obtain⟨k4,k5,k6⟩:=ih _ (by omega) k3 h2;refine⟨fun p hp=>?_,by simp only[List.length_cons];omega,k6⟩
       rcases List.mem_cons.1 hp with rfl|hp
       ·exact k1
       exact k4 p hp
      rename_i hz
      exact absurd (by simpa using h2) hz
    obtain⟨k1,k2,k3⟩:=all l.ps (n+1) (by omega) (by omega) h;exact⟨.mk l (by simpa using hs) (by simpa using ho) (by omega) k1,by omega,k3⟩
theorem Q9 {l:Qv}(h:QJ l=0):Yv l:=(QjK 6 l 0 (by decide) h).1
theorem Yv.shape {l:Qv}(h:Yv l):XB l=0:=by cases h;assumption
theorem Yv.small {l:Qv}(h:Yv l):l.ps.length≤64:=by cases h;assumption
theorem Yv.part {l:Qv}(h:Yv l):∀p∈l.ps,Yv p:=by cases h;assumption
theorem QwK (l:List En):FC Tryz.prog 141 [ens l] (bl (QkH l)):=by
 refine Qg [2] Tryz.func141 rfl rfl 66 Tryz.ntmps141 (Nat.le_of_ble_eq_true rfl) ?_
 intro E hN;refine Jq 0 rfl (fun hl0=>?_);refine JF ?_;refine Qq (fun x:{k:Nat // k≤(l).length∧(l.zipIdx.drop k).all (Qgk l)=l.zipIdx.all (Qgk l)}=>⟨[(0,ens l),(8,ens l),(9,i64 l.length),(10,i64 (x.1:Nat))],[],0⟩) (fun x=>(l).length-x.1) (⟨0,Nat.zero_le _,by simp⟩) ?_ ?_
 ·exact Qa rfl (Yw ⟨(Y5 (by simp)),rfl,(X2 trivial)⟩) trivial
 rintro⟨k,hk,hg⟩;dsimp only;refine QL ?_
 refine zq ?_ ?_<;>intro h7
 rotate_left
 ·have hge:(l).length≤k:=by simpa using h7
  refine QK ?_;refine zQ ?_;exact Qr (Jf hg (by rw[Qfx];exact hge)).symm
 have hlt:k<(l).length:=by simpa using h7
 obtain⟨x,hx⟩:=Qw hlt;refine XL ?_;refine zP (Qh rfl rfl rfl k rfl _ (Qt hx) rfl) ?_;refine Xy ?_;refine zD 29 ?_;refine QL ?_
 refine zd 19 ?_ ?_<;>intro h15
 ·refine Qha ?_;refine XL ?_;refine zQ ?_;exact Qr (Xe hg (Jr hx) (by simp_all [Qgk,Qft])).symm
 refine QR ?_;refine vP (X3 h15) (Qd (QcV _) rfl rfl rfl) ?_;refine QI ?_
 refine zd 25 ?_ ?_<;>intro h18
 ·refine Qha ?_;refine zQ ?_;exact Qr (Xe hg (Jr hx) (by simp_all [Qgk,Qft])).symm
 refine QR ?_;refine vP (X3 (m1 (n0 h18))) (Qd (QfR _) rfl rfl rfl) ?_;refine QI ?_
 refine zd 31 ?_ ?_<;>intro h21
 ·refine Qfe ?_;refine zQ ?_;exact Qr (Xe hg (Jr hx) (by simp_all [Qgk,Qft])).symm
 refine QI ?_
 refine zd 34 ?_ ?_<;>intro h22
 rotate_left
 ·refine Jl ?_;refine vP (X3 (m1 (n0 h21))) (XG rfl rfl h22 rfl) ?_;refine Jl ?_;refine zP (Qvw rfl rfl rfl k rfl (by omega) (by exact fun _=>rfl)) ?_;refine QK ?_;refine Qq (fun x1:{j:Nat // j≤(l.take k).length∧((l.take k).drop j).all (QfV x)=(l.take k).all (QfV x)}=>⟨[(0,ens l),(4,.ptr 0 0),(8,ens l),(9,i64 l.length),(10,i64 (k:Nat)),(47,ens (l.take k)),(48,i64 (l.take k).length),(49,i64 (x1.1:Nat))],[(0,.var 149 (enC x))],1⟩) (fun x1=>(l.take k).length-x1.1) (⟨0,Nat.zero_le _,by simp⟩) ?_ ?_
  ·exact Qa rfl (Ks (Yw ⟨(Y5 (by simp)),rfl,(X2 trivial)⟩)) ⟨rfl,rfl,rfl,trivial⟩
  rintro⟨j,hj,hgj⟩;dsimp only
  have htk:(l.take k).length≤l.length:=by simp;omega
  refine QL ?_
  refine zq ?_ ?_<;>intro h63
  rotate_left
  ·have hgej:(l.take k).length≤j:=by simpa using h63
   have hA:=Jf hgj hgej
   refine QK ?_;refine Qc ?_;exact⟨⟨k+1,hlt,XO hg (Jr hx) (by simp_all [Qgk,Qft])⟩,Qa rfl (YG ⟨JC,rfl,trivial⟩) trivial,by dsimp only;omega⟩
  have hltj:j<(l.take k).length:=by simpa using h63
  obtain⟨y2,hy2⟩:=Qw hltj;refine QL ?_;refine zP (Qh rfl rfl rfl j rfl _ (Qt hy2) rfl) ?_;refine XR ?_;refine zP (Qd (Qhe _ _) rfl rfl rfl) ?_;refine Xy ?_
  refine zc 60 ?_ ?_<;>intro h73
  ·refine Jl ?_;refine zQ ?_;exact Qr (Xe hg (Jr hx) (by rw[Qgk,Qft,Xe hgj hy2 (by simp_all)];simp)).symm
  refine QK ?_
  refine zq ?_ ?_<;>intro h74
  ·refine QI ?_;refine zQ ?_;exact Qr (Xe hg (Jr hx) (by rw[Qgk,Qft,Xe hgj hy2 (by simp_all)];simp)).symm
  refine QK ?_;refine Qc ?_;exact⟨⟨j+1,hltj,XO hgj hy2 (by simp_all)⟩,Qa rfl (Ks (YG ⟨JC,rfl,trivial⟩)) ⟨rfl,rfl,rfl,trivial⟩,by dsimp only;omega⟩
 have hk0:0<k:=by simpa using h22
 obtain⟨y,hy⟩:=Qw (show k-1<l.length by omega);refine QR ?_;refine vP (XT h22) (KV rfl rfl rfl (by omega)) ?_;refine vP (XT h22) (Qh rfl rfl rfl (k-1) (by omega) _ (Qt hy) rfl) ?_;refine QR ?_;refine vP (XT h22) (Qd (QlO _ _) rfl rfl rfl) ?_;refine Yy ?_;refine vP (X3 (m1 (n0 h21))) (XK rfl rfl h22 rfl) ?_;refine QR ?_
 refine zq ?_ ?_<;>intro h28
 ·refine QI ?_;refine zQ ?_;exact Qr (Xe hg (Jr hx) (by simp_all [Qgk,Qft])).symm
 refine QL ?_;refine zP (Qvw rfl rfl rfl k rfl (by omega) (by exact fun _=>rfl)) ?_;refine QK ?_;refine Qq (fun x1:{j:Nat // j≤(l.take k).length∧((l.take k).drop j).all (QfV x)=(l.take k).all (QfV x)}=>⟨[(0,ens l),(4,.ptr 0 0),(8,ens l),(9,i64 l.length),(10,i64 (k:Nat)),(47,ens (l.take k)),(48,i64 (l.take k).length),(49,i64 (x1.1:Nat))],[(0,.var 149 (enC x))],1⟩) (fun x1=>(l.take k).length-x1.1) (⟨0,Nat.zero_le _,by simp⟩) ?_ ?_
 ·exact Qa rfl (Ks (Yw ⟨(Y5 (by simp)),rfl,(X2 trivial)⟩)) ⟨rfl,rfl,rfl,trivial⟩
 rintro⟨j,hj,hgj⟩;dsimp only
 have htk:(l.take k).length≤l.length:=by simp;omega
 refine QL ?_
 refine zq ?_ ?_<;>intro h39
 rotate_left
 ·have hgej:(l.take k).length≤j:=by simpa using h39
  have hA:=Jf hgj hgej
  refine QK ?_;refine Qc ?_;exact⟨⟨k+1,hlt,XO hg (Jr hx) (by simp_all [Qgk,Qft])⟩,Qa rfl (YG ⟨JC,rfl,trivial⟩) trivial,by dsimp only;omega⟩
 have hltj:j<(l.take k).length:=by simpa using h39
 obtain⟨y2,hy2⟩:=Qw hltj;refine QL ?_;refine zP (Qh rfl rfl rfl j rfl _ (Qt hy2) rfl) ?_;refine XR ?_;refine zP (Qd (Qhe _ _) rfl rfl rfl) ?_;refine Xy ?_
 refine zc 60 ?_ ?_<;>intro h49
 ·refine Jl ?_;refine zQ ?_;exact Qr (Xe hg (Jr hx) (by rw[Qgk,Qft,Xe hgj hy2 (by simp_all [QfV])];simp)).symm
 refine QK ?_
 refine zq ?_ ?_<;>intro h50
 ·refine QI ?_;refine zQ ?_;exact Qr (Xe hg (Jr hx) (by rw[Qgk,Qft,Xe hgj hy2 (by simp_all [QfV])];simp)).symm
 refine QK ?_;refine Qc ?_;exact⟨⟨j+1,hltj,XO hgj hy2 (by simp_all [QfV])⟩,Qa rfl (Ks (YG ⟨JC,rfl,trivial⟩)) ⟨rfl,rfl,rfl,trivial⟩,by dsimp only;omega⟩
theorem Qr2 (l:Qv)(hp:l.ps.length≤64)(ih:∀p∈l.ps,FC Tryz.prog 133 [.agg (Q7 p)] (.agg (QO (Qy p)))):FC Tryz.prog 133 [.agg (Q7 l)] (.agg (QO (Qy l))):=by
 refine Km [.c 2 30 4 true] ⟨⟨inferInstance,rfl⟩,trivial⟩ Tryz.func133 rfl rfl 37 Tryz.ntmps133 (Nat.le_of_ble_eq_true rfl) ?_
 intro E hN;refine Qmp ?_
 refine zq ?_ ?_<;>intro h7
 ·refine X5 ?_;refine Qu ?_;change (resY _ _).bind AV.fzt=some _;refine Yl rfl ?_;rw[JM];refine QiS (Q1 ?_) rfl ?_ rfl
  ·simp_all [Qz.N]
  first|(simp_all [Qz.ps];done)|(refine Qfb ?_;simp_all [Qz.ps,List.take_of_length_le])
 refine QL ?_
 refine zq ?_ ?_<;>intro h14
 ·refine X5 ?_;refine Qu ?_;change (resY _ _).bind AV.fzt=some _;refine Yl rfl ?_;rw[JM];refine QiS (Q1 ?_) rfl ?_ rfl
  ·simp_all [Qz.N]
  first|(simp_all [Qz.ps];done)|(refine Qfb ?_;simp_all [Qz.ps,List.take_of_length_le])
 refine XL ?_
 refine zq ?_ ?_<;>intro h21
 ·refine XR ?_;refine QC (Kx rfl 2 2 30 4 rfl rfl rfl) ?_
  refine Qq (fun x:{k:Nat // k≤(l.ps).length∧True}=>⟨[(2,.ptr 1 0),(3,.ptr 2 0),(22,QiL l.ps),(23,i64 l.ps.length),(24,i64 (x.1:Nat))],[(1,.var 30 [i64 0,.p (.slice none 0 0),.p (.slice none 0 0),.p (.slice none 0 0)]),(2,.var 30 [i64 0,.p (.slice none 0 0),.sl (((l.ps.take x.1).map Qy).map Ym) (some 3),.p (.slice none 0 0)]),(3,.tok 30 4 ((l.ps.take x.1).map Qy).length)],4⟩) (fun x=>(l.ps).length-x.1) (⟨0,Nat.zero_le _,by simp⟩) ?_ ?_
  ·exact Qa rfl (YG ⟨(Y5 (by simp)),rfl,(X2 trivial)⟩) ⟨rfl,rfl,rfl,rfl,rfl,rfl,rfl,rfl,rfl,trivial⟩
  rintro⟨k,hk,hg⟩;dsimp only;refine Jq 22 rfl (fun hl8=>?_);refine QL ?_
  refine zq ?_ ?_<;>intro h30
  rotate_left
  ·have hge:(l.ps).length≤k:=by simpa using h30
   refine XL ?_;refine Qu ?_;change (resY _ _).bind AV.fzt=some _;refine Yl rfl ?_;rw[JM];refine QiS (Q1 ?_) rfl ?_ rfl
   ·simp_all [Qz.N]
   first|(simp_all [Qz.ps];done)|(refine Qfb ?_;simp_all [Qz.ps,List.take_of_length_le])
  have hlt:k<(l.ps).length:=by simpa using h30
  obtain⟨x,hx⟩:=Qw hlt;refine QL ?_;refine zP (Qh rfl rfl rfl k rfl _ (X9 hx) rfl) ?_;refine QK ?_;refine zD 5 ?_;refine QI ?_;refine zp (Qd (ih x (List.mem_of_getElem? hx)) rfl rfl rfl) ?_;refine zp (Q0 rfl rfl rfl rfl (by exact rfl) (by decide) (by decide)) ?_;refine Xp hN rfl rfl rfl (by simp) rfl rfl (QN XS _) rfl (by simp[Yk];omega) rfl rfl rfl rfl ?_;refine XL ?_;refine Qc ?_
  exact⟨⟨k+1,hlt,trivial⟩,Qa rfl (Ks ⟨JC,rfl,trivial⟩) ⟨rfl,rfl,rfl,(cgV (QfU hx)),rfl,rfl,(cgT (by simp[Yk];omega)),rfl,rfl,trivial⟩,by dsimp only;omega⟩
 refine QK ?_
 refine zq ?_ ?_<;>intro h46
 rotate_left
 ·refine XL ?_;refine Qu ?_;change (resY _ _).bind AV.fzt=some _;refine Yl rfl ?_;rw[JM];refine QiS (Q1 ?_) rfl ?_ rfl
  ·simp_all [Qz.N]
  first|(simp_all [Qz.ps];done)|(refine Qfb ?_;simp_all [Qz.ps,List.take_of_length_le])
 refine Jl ?_;refine QC (Kx rfl 2 2 30 4 rfl rfl rfl) ?_
 refine Qq (fun x:{k:Nat // k≤(l.ps).length∧True}=>⟨[(2,.ptr 1 0),(3,.ptr 2 0),(22,QiL l.ps),(23,i64 l.ps.length),(24,i64 (x.1:Nat))],[(1,.var 30 [i64 0,.p (.slice none 0 0),.p (.slice none 0 0),.p (.slice none 0 0)]),(2,.var 30 [i64 0,.p (.slice none 0 0),.sl (((l.ps.take x.1).map Qy).map Ym) (some 3),.p (.slice none 0 0)]),(3,.tok 30 4 ((l.ps.take x.1).map Qy).length)],4⟩) (fun x=>(l.ps).length-x.1) (⟨0,Nat.zero_le _,by simp⟩) ?_ ?_
 ·exact Qa rfl (YG ⟨(Y5 (by simp)),rfl,(X2 trivial)⟩) ⟨rfl,rfl,rfl,rfl,rfl,rfl,rfl,rfl,rfl,trivial⟩
 rintro⟨k,hk,hg⟩;dsimp only;refine Jq 22 rfl (fun hl8=>?_);refine QL ?_
 refine zq ?_ ?_<;>intro h55
 rotate_left
 ·have hge:(l.ps).length≤k:=by simpa using h55
  refine XL ?_;refine Qu ?_;change (resY _ _).bind AV.fzt=some _;refine Yl rfl ?_;rw[JM];refine QiS (Q1 ?_) rfl ?_ rfl
  ·simp_all [Qz.N]
  first|(simp_all [Qz.ps];done)|(refine Qfb ?_;simp_all [Qz.ps,List.take_of_length_le])
 have hlt:k<(l.ps).length:=by simpa using h55
 obtain⟨x,hx⟩:=Qw hlt;refine QL ?_;refine zP (Qh rfl rfl rfl k rfl _ (X9 hx) rfl) ?_;refine QK ?_;refine zD 5 ?_;refine QI ?_;refine zp (Qd (ih x (List.mem_of_getElem? hx)) rfl rfl rfl) ?_;refine zp (Q0 rfl rfl rfl rfl (by exact rfl) (by decide) (by decide)) ?_;refine Xp hN rfl rfl rfl (by simp) rfl rfl (QN XS _) rfl (by simp[Yk];omega) rfl rfl rfl rfl ?_;refine XL ?_;refine Qc ?_
 exact⟨⟨k+1,hlt,trivial⟩,Qa rfl (Ks ⟨JC,rfl,trivial⟩) ⟨rfl,rfl,rfl,(cgV (QfU hx)),rfl,rfl,(cgT (by simp[Yk];omega)),rfl,rfl,trivial⟩,by dsimp only;omega⟩
theorem Qey (l:Qv)(h:Yv l):FC Tryz.prog 133 [.agg (Q7 l)] (.agg (QO (Qy l))):=Qr2 l h.small (fun p hp=>Qey p (h.part p hp))
termination_by l
decreasing_by exact Qv.sizeOf_ps ‹_›
def Qcf (l:Qv):Qz×Int:=if QJ l=0 then(Qy l,0) else(.zero,1)
theorem Qj1 (l:Qv):FC Tryz.prog 107 [.agg (Q7 l)] (.tup [.agg (QO (Qcf l).1),i64 (Qcf l).2]):=by
 refine Km [.c 2 30 4 true,.t 3] ⟨⟨inferInstance,rfl⟩,trivial⟩ Tryz.func107 rfl rfl 10 Tryz.ntmps107 (Nat.le_of_ble_eq_true rfl) ?_
 intro E hN;refine XR ?_;refine zP (Qd (QcB l) rfl rfl rfl) ?_;refine QR ?_
 refine zq ?_ ?_<;>intro h6
 ·have h1:¬QJ l=0:=by simpa using h6
  refine XL ?_;refine Qu ?_;change (resY _ _).bind AV.fzt=some _;refine Yl rfl ?_
  rw[Qcf,if_neg h1];rfl
 have h1:QJ l=0:=by simpa using h6
 refine QK ?_;refine zP (Qd (Qey l (Q9 h1)) rfl rfl rfl) ?_;refine QI ?_;refine Qu ?_;change (resY _ _).bind AV.fzt=some _;refine Yl rfl ?_;rw[Qcf,if_pos h1]
end Go.Proofs.YtnkkokmmeplbgaaGreat
namespace Go.Proofs.YtnkkokmmeplbgaaGreat
set_option maxRecDepth 100000
set_option maxHeartbeats 1000000
open Go.RowKit
mutual
def QA:Qz→Qv→Bool
 | .mk N nm ps es,l=>
  if l.k==1 then Xf (.mk N nm ps es) true false false false&&(N==0||N==1)
  else if l.k==2||l.k==3 then Xf (.mk N nm ps es) true false false false&&decide (l.lo≤N)&&decide (N≤l.hi)
  else if l.k==4 then Xf (.mk N nm ps es) false true false false&&Ji l.nm nm
  else if l.k==10 then Xf (.mk N nm ps es) false true false false&&Ji l.nm nm&&Qai l.rs nm
  else if l.k==8 then(if N==0||N==2 then Xf (.mk N nm ps es) true false false false else if N==1 then Xf (.mk N nm ps es) true true false false&&(nm.length:Int)==1&&Ji l.nm nm else false)
  else if l.k==9 then Xf (.mk N nm ps es) false false false true&&QkH es
  else if l.k==5 then Xf (.mk N nm ps es) false true true false&&((nm.length:Int)==ps.length)&&Ji l.nm nm&&(match l.ps with|a::_=>Qjy ps a|[]=>false)
  else Xf (.mk N nm ps es) false false true false&&((ps.length:Int)==l.ps.length)&&Ku ps l.ps
def Qjy:List Qz→Qv→Bool
 |[],_=>true
 |p::r,a=>(QA p a && !eqV p (Qy a))&&Qjy r a
def Ku:List Qz→List Qv→Bool
 |[],_=>true
 |p::r,q::s=>QA p q&&Ku r s
 |_::_,[]=>false
end
def Qbg (a:Qv)(p:Qz):Bool:=QA p a && !eqV p (Qy a)
theorem Qbw (a:Qv):∀l:List Qz,Qjy l a=l.all (Qbg a)
 |[]=>by simp[Qjy]
 |p::r=>by rw[Qjy,List.all_cons,Qbw a r];rfl
theorem Qx (v:Qz)(l:Qv):QA v l =
  if l.k==1 then Xf v true false false false&&(v.N==0||v.N==1)
  else if l.k==2||l.k==3 then Xf v true false false false&&decide (l.lo≤v.N)&&decide (v.N≤l.hi)
  else if l.k==4 then Xf v false true false false&&Ji l.nm v.nm
  else if l.k==10 then Xf v false true false false&&Ji l.nm v.nm&&Qai l.rs v.nm
  else if l.k==8 then(if v.N==0||v.N==2 then Xf v true false false false else if v.N==1 then Xf v true true false false&&(v.nm.length:Int)==1&&Ji l.nm v.nm else false)
  else if l.k==9 then Xf v false false false true&&QkH v.es
  else if l.k==5 then Xf v false true true false&&((v.nm.length:Int)==v.ps.length)&&Ji l.nm v.nm&&(match l.ps with|a::_=>Qjy v.ps a|[]=>false)
  else Xf v false false true false&&((v.ps.length:Int)==l.ps.length)&&Ku v.ps l.ps:=by
 cases v with
 |mk N nm ps es=>rw[QA];rfl
section
variable {vs:List Qz}{ls:List Qv}{k:Nat}{x:Qz}{q:Qv}{b:Bool}
theorem QvU (hg:Ku (vs.drop k) (ls.drop k)=b)(hx:vs[k]?=some x)(hq:ls[k]?=some q):b=(QA x q&&Ku (vs.drop (k+1)) (ls.drop (k+1))):=by
 rw[←hg,XI hx,XI hq,Ku]
theorem Qse (hg:Ku (vs.drop k) (ls.drop k)=b)(h:vs.length≤k):b=true:=by
 rw[←hg,List.drop_of_length_le h,Ku]
end
theorem Qhr {l:Qv}(h:XB l=0)(hk:l.k=5):∃a r,l.ps=a::r:=by
 unfold XB at h
 rw[if_pos (by rw[hk];decide)] at h
 have hb:Wh l=false:=by
  cases hb:Wh l
  ·rfl
  rw[hb] at h;simp[Yi] at h
 cases hp:l.ps with
 |cons a r=>exact⟨a,r,rfl⟩
 |nil=>simp[Wh,Yb,hk,hp] at hb
theorem QwP (v:Qz)(l:Qv)(hO:Yv l)(ih:∀x∈v.ps,∀a,Yv a→FC Tryz.prog 109 [.agg (Q7 a),.agg (QO x)] (bl (QA x a))):FC Tryz.prog 109 [.agg (Q7 l),.agg (QO v)] (bl (QA v l)):=by
 refine Qg [4] Tryz.func109 rfl rfl 183 Tryz.ntmps109 (Nat.le_of_ble_eq_true rfl) ?_
 intro E hN;refine Qfe ?_
 refine zq ?_ ?_<;>intro h7
 ·refine QI ?_;refine zP (Qd (W5 _ _ _ _ _) rfl rfl rfl) ?_;refine zM ?_
  refine zc 15 ?_ ?_<;>intro h9
  rotate_left
  ·refine XR ?_;refine zQ ?_;exact Qr (by rw[Qx];simp_all<;>(intros;omega))
  refine QK ?_
  refine zc 19 ?_ ?_<;>intro h12
  ·refine QI ?_;refine uP (XT h9) (XK rfl rfl h12 rfl) ?_;refine QR ?_;refine zQ ?_;exact Qr (by rw[Qx];simp_all<;>(intros;omega))
  refine QI ?_;refine uP (XT h9) (XG rfl rfl h12 rfl) ?_;refine QR ?_;refine zQ ?_;exact Qr (by rw[Qx];simp_all<;>(intros;omega))
 refine XL ?_
 refine zq ?_ ?_<;>intro h16
 ·refine QL ?_;refine zP (Qd (W5 _ _ _ _ _) rfl rfl rfl) ?_;refine zM ?_
  refine zc 30 ?_ ?_<;>intro h18
  rotate_left
  ·refine WT ?_;refine zQ ?_;exact Qr (by rw[Qx];simp_all<;>(intros;omega))
  refine Xy ?_
  refine zc 37 ?_ ?_<;>intro h23
  ·refine Xy ?_;refine zQ ?_;exact Qr (by rw[Qx];simp_all<;>(intros;omega))
  refine Xy ?_;refine zQ ?_;exact Qr (by rw[Qx];simp_all<;>(intros;omega))
 refine QK ?_
 refine zq ?_ ?_<;>intro h29
 ·refine QI ?_;refine zP (Qd (W5 _ _ _ _ _) rfl rfl rfl) ?_;refine zM ?_
  refine zc 30 ?_ ?_<;>intro h31
  rotate_left
  ·refine WT ?_;refine zQ ?_;exact Qr (by rw[Qx];simp_all<;>(intros;omega))
  refine Xy ?_
  refine zc 37 ?_ ?_<;>intro h36
  ·refine Xy ?_;refine zQ ?_;exact Qr (by rw[Qx];simp_all<;>(intros;omega))
  refine Xy ?_;refine zQ ?_;exact Qr (by rw[Qx];simp_all<;>(intros;omega))
 refine QL ?_
 refine zq ?_ ?_<;>intro h42
 ·refine QI ?_;refine zP (Qd (W5 _ _ _ _ _) rfl rfl rfl) ?_;refine zM ?_
  refine zc 48 ?_ ?_<;>intro h44
  ·refine QK ?_;refine uP (XT h44) (Qd (Qdl _ _) rfl rfl rfl) ?_;refine QR ?_;refine zQ ?_;exact Qr (by rw[Qx];simp_all<;>(intros;omega))
  refine Xy ?_;refine zQ ?_;exact Qr (by rw[Qx];simp_all<;>(intros;omega))
 refine QL ?_
 refine zq ?_ ?_<;>intro h50
 ·refine QI ?_;refine zP (Qd (W5 _ _ _ _ _) rfl rfl rfl) ?_;refine zM ?_
  refine zc 59 ?_ ?_<;>intro h52
  rotate_left
  ·refine WT ?_;refine zQ ?_;exact Qr (by rw[Qx];simp_all<;>(intros;omega))
  refine QK ?_;refine uP (XT h52) (Qd (Qdl _ _) rfl rfl rfl) ?_;refine QR ?_
  refine zc 66 ?_ ?_<;>intro h57
  ·refine QK ?_;refine uP (XT h57) (Qd (QqL _ _) rfl rfl rfl) ?_;refine QR ?_;refine zQ ?_;exact Qr (by rw[Qx];simp_all<;>(intros;omega))
  refine Xy ?_;refine zQ ?_;exact Qr (by rw[Qx];simp_all<;>(intros;omega))
 refine QL ?_
 refine zq ?_ ?_<;>intro h63
 ·refine Qbp ?_
  refine zq ?_ ?_<;>intro h66
  ·refine QL ?_;refine zP (Qd (W5 _ _ _ _ _) rfl rfl rfl) ?_;refine zS ?_;refine zQ ?_;exact Qr (by rw[Qx];simp_all<;>(intros;omega))
  refine QK ?_
  refine zq ?_ ?_<;>intro h69
  ·refine QI ?_;refine zP (Qd (W5 _ _ _ _ _) rfl rfl rfl) ?_;refine zS ?_;refine zQ ?_;exact Qr (by rw[Qx];simp_all<;>(intros;omega))
  refine QL ?_
  refine zq ?_ ?_<;>intro h72
  rotate_left
  ·refine QK ?_;refine zQ ?_;exact Qr (by rw[Qx];simp_all<;>(intros;omega))
  refine QI ?_;refine zP (Qd (W5 _ _ _ _ _) rfl rfl rfl) ?_;refine zM ?_
  refine zc 86 ?_ ?_<;>intro h74
  rotate_left
  ·refine Qbp ?_;refine zQ ?_;exact Qr (by rw[Qx];simp_all<;>(intros;omega))
  refine XL ?_
  refine zc 92 ?_ ?_<;>intro h78
  ·refine QK ?_;refine uP (XT h78) (Qd (Qdl _ _) rfl rfl rfl) ?_;refine QR ?_;refine zQ ?_;exact Qr (by rw[Qx];simp_all<;>(intros;omega))
  refine Xy ?_;refine zQ ?_;exact Qr (by rw[Qx];simp_all<;>(intros;omega))
 refine QL ?_
 refine zq ?_ ?_<;>intro h84
 ·refine QI ?_;refine zP (Qd (W5 _ _ _ _ _) rfl rfl rfl) ?_;refine zM ?_
  refine zc 103 ?_ ?_<;>intro h86
  ·refine QR ?_;refine uP (XT h86) (Qd (QwK _) rfl rfl rfl) ?_;refine QR ?_;refine zQ ?_;exact Qr (by rw[Qx];simp_all<;>(intros;omega))
  refine QL ?_;refine zQ ?_;exact Qr (by rw[Qx];simp_all<;>(intros;omega))
 refine QL ?_
 refine zq ?_ ?_<;>intro h90
 rotate_left
 ·refine QL ?_;refine zP (Qd (W5 _ _ _ _ _) rfl rfl rfl) ?_;refine QR ?_
  refine zc 157 ?_ ?_<;>intro h133
  ·refine Qbp ?_;refine zQ ?_;exact Qr (by rw[Qx];simp_all<;>(intros;omega))
  refine J6 ?_
  refine zq ?_ ?_<;>intro h140
  ·refine QI ?_;refine zQ ?_;exact Qr (by rw[Qx];simp_all<;>(intros;omega))
  refine XR ?_
  have hle:v.ps.length=l.ps.length:=by simp_all<;>omega
  have hE:QA v l=Ku v.ps l.ps:=by rw[Qx];simp_all
  refine Qq (fun x:{k:Nat // k≤(v.ps).length∧Ku (v.ps.drop k) (l.ps.drop k)=Ku v.ps l.ps}=>⟨[(2,.ptr 0 0),(3,.ptr 1 0),(167,Ki v.ps),(168,i64 v.ps.length),(169,i64 (x.1:Nat))],[(0,.var 26 (Q7 l)),(1,.var 30 (QO v))],2⟩) (fun x=>(v.ps).length-x.1) (⟨0,Nat.zero_le _,by simp⟩) ?_ ?_
  ·exact Qa rfl (YG ⟨(Y5 (by simp)),rfl,(X2 trivial)⟩) ⟨rfl,rfl,rfl,rfl,rfl,rfl,trivial⟩
  rintro⟨k,hk,hg⟩;dsimp only;refine Jq 167 rfl (fun hl8=>?_);refine QL ?_
  refine zq ?_ ?_<;>intro h149
  rotate_left
  ·have hge:(v.ps).length≤k:=by simpa using h149
   refine QK ?_;refine zQ ?_;exact Qr (by rw[hE,Qse hg hge])
  have hlt:k<(v.ps).length:=by simpa using h149
  obtain⟨x,hx⟩:=Qw hlt;obtain⟨q,hq⟩:=Qw (show k<l.ps.length by omega)
  have hOq:Yv q:=hO.part q (List.mem_of_getElem? hq)
  have hs:=QvU hg hx hq
  refine XL ?_;refine zP (Qh rfl rfl rfl k rfl _ (Q8 hx) rfl) ?_;refine XL ?_;refine zD 7 ?_;refine QI ?_;refine zp (Qh rfl rfl rfl k rfl _ (X9 hq) rfl) ?_;refine QR ?_;refine zp (Qd (ih x (List.mem_of_getElem? hx) q hOq) rfl rfl rfl) ?_;refine QR ?_
  refine zq ?_ ?_<;>intro h159
  ·refine QI ?_;refine zQ ?_;exact Qr (by rw[hE,hs];simp_all)
  refine QK ?_;refine Qc ?_;exact⟨⟨k+1,hlt,by simp_all⟩,Qa rfl (Ks ⟨JC,rfl,trivial⟩) ⟨rfl,rfl,rfl,rfl,rfl,rfl,trivial⟩,by dsimp only;omega⟩
 refine QK ?_;refine zP (Qd (W5 _ _ _ _ _) rfl rfl rfl) ?_;refine QR ?_
 refine zc 113 ?_ ?_<;>intro h92
 ·refine Qmp ?_;refine zQ ?_;exact Qr (by rw[Qx];simp_all<;>(intros;omega))
 refine J6 ?_
 refine zc 122 ?_ ?_<;>intro h99
 ·refine JF ?_;refine zQ ?_;exact Qr (by rw[Qx];simp_all<;>(intros;omega))
 refine QK ?_;refine uP (X3 h99) (Qd (Qdl _ _) rfl rfl rfl) ?_;refine QI ?_
 refine zq ?_ ?_<;>intro h104
 ·refine QI ?_;refine zQ ?_;exact Qr (by rw[Qx];simp_all<;>(intros;omega))
 refine XR ?_;obtain⟨a,r,hps⟩:=Qhr hO.shape (by simp_all)
 have hOa:Yv a:=hO.part a (by rw[hps];exact List.mem_cons_self)
 have ha:l.ps[0]?=some a:=by rw[hps];rfl
 have hE:QA v l=v.ps.all (Qbg a):=by rw[Qx];simp_all [Qbw]
 refine Qq (fun x:{k:Nat // k≤(v.ps).length∧(v.ps.drop k).all (Qbg a)=v.ps.all (Qbg a)}=>⟨[(2,.ptr 0 0),(3,.ptr 1 0),(131,Ki v.ps),(132,i64 v.ps.length),(133,i64 (x.1:Nat))],[(0,.var 26 (Q7 l)),(1,.var 30 (QO v))],2⟩) (fun x=>(v.ps).length-x.1) (⟨0,Nat.zero_le _,by simp⟩) ?_ ?_
 ·exact Qa rfl (YG ⟨(Y5 (by simp)),rfl,(X2 trivial)⟩) ⟨rfl,rfl,rfl,rfl,rfl,rfl,trivial⟩
 rintro⟨k,hk,hg⟩;dsimp only;refine Jq 131 rfl (fun hl8=>?_);refine QL ?_
 refine zq ?_ ?_<;>intro h113
 rotate_left
 ·have hge:(v.ps).length≤k:=by simpa using h113
  refine QK ?_;refine zQ ?_;exact Qr (by rw[hE,Jf hg hge])
 have hlt:k<(v.ps).length:=by simpa using h113
 obtain⟨x,hx⟩:=Qw hlt;refine QL ?_;refine zP (Qh rfl rfl rfl k rfl _ (Q8 hx) rfl) ?_;refine QL ?_;refine zD 15 ?_;refine QR ?_;refine zp (Qh rfl rfl rfl 0 rfl _ (X9 ha) rfl) ?_;refine QR ?_;refine zp (Qd (ih x (List.mem_of_getElem? hx) a hOa) rfl rfl rfl) ?_;refine QR ?_
 refine zd 144 ?_ ?_<;>intro h123
 ·refine Qbp ?_;refine zQ ?_;exact Qr (by rw[hE,Xe hg hx (by simp_all [Qbg])])
 refine QI ?_;refine vP (X3 (m1 (n0 h123))) (Qh rfl rfl rfl 0 rfl _ (X9 ha) rfl) ?_;refine Yy ?_;refine vP (X3 (m1 (n0 h123))) (Qd (Qey a hOa) rfl rfl rfl) ?_;refine vP (X3 (m1 (n0 h123))) (Qd (Qgo _ _) rfl rfl rfl) ?_;refine QR ?_
 refine zq ?_ ?_<;>intro h130
 ·refine QI ?_;refine zQ ?_;exact Qr (by rw[hE,Xe hg hx (by simp_all [Qbg])])
 refine QK ?_;refine Qc ?_;exact⟨⟨k+1,hlt,XO hg hx (by simp_all [Qbg])⟩,Qa rfl (Ks ⟨JC,rfl,trivial⟩) ⟨rfl,rfl,rfl,rfl,rfl,rfl,trivial⟩,by dsimp only;omega⟩
theorem Qpo (v:Qz)(l:Qv)(hO:Yv l):FC Tryz.prog 109 [.agg (Q7 l),.agg (QO v)] (bl (QA v l)):=QwP v l hO (fun x _ a ha=>Qpo x a ha)
termination_by v
decreasing_by exact Qz.sizeOf_ps ‹_›
def Xr (l:Qv)(v:Qz):Bool:=(QJ l==0)&&QA v l
theorem QcS (l:Qv)(v:Qz):FC Tryz.prog 62 [.agg (Q7 l),.agg (QO v)] (bl (Xr l v)):=by
 refine Qg [4] Tryz.func62 rfl rfl 13 Tryz.ntmps62 (Nat.le_of_ble_eq_true rfl) ?_
 intro E hN;refine J6 ?_;refine zP (Qd (QcB l) rfl rfl rfl) ?_;refine QR ?_
 refine zc 8 ?_ ?_<;>intro h7
 ·have h1:QJ l=0:=by simpa using h7
  refine QR ?_;refine uP (XT h7) (Qd (Qpo v l (Q9 h1)) rfl rfl rfl) ?_;refine QR ?_;refine zQ ?_;exact Qr (by simp_all [Xr])
 refine QL ?_;refine zQ ?_;exact Qr (by simp_all [Xr])
end Go.Proofs.YtnkkokmmeplbgaaGreat
