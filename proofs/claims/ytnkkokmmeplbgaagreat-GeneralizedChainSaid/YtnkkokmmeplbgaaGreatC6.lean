/-
  Contracts of the reference: is it an element of a lattice?
-/
import Derived.Test.YtnkkokmmeplbgaaGreatC8
namespace Go.Proofs.YtnkkokmmeplbgaaGreat
set_option maxRecDepth 100000
set_option maxHeartbeats 1000000
open Go.RowKit
theorem QuK (v:Qz)(l:Qv)(hO:Yv l)(ih:∀x∈v.ps,∀a,Yv a→FC Tryz.prog 112 [.agg (Q7 a),.agg (QO x)] (bl (QA x a))):FC Tryz.prog 112 [.agg (Q7 l),.agg (QO v)] (bl (QA v l)):=by
 refine Qg [4] Tryz.func112 rfl rfl 261 Tryz.ntmps112 (Nat.le_of_ble_eq_true rfl) ?_
 intro E hN;refine XL ?_;refine QdV (⟨[(2,.ptr 0 0),(3,.ptr 1 0)],[(0,.var 26 (Q7 l)),(1,.var 30 (QO v))],2⟩) (l.k=9∨v.es=[]) ?_ ?_
 ·refine XL ?_
  refine zc 11 ?_ ?_<;>intro h7
  ·refine XL ?_
   refine zq ?_ ?_<;>intro h11
   ·refine QI ?_;refine zQ ?_;exact Qr (by rw[Qx];simp_all [Xf]<;>(intros;omega))
   refine QM ?_;exact⟨(by first|(simp_all;done)|(simp_all;omega)),Qa rfl (Yw trivial) ⟨rfl,rfl,rfl,rfl,rfl,rfl,trivial⟩⟩
  refine Xy ?_;refine QM ?_;exact⟨(by first|(simp_all;done)|(simp_all;omega)),Qa rfl (Yw trivial) ⟨rfl,rfl,rfl,rfl,rfl,rfl,trivial⟩⟩
 intro hes;refine JI (⟨[(2,.ptr 0 0),(3,.ptr 1 0),(5,bl (l.k==1||l.k==2||l.k==3||l.k==8))],[(0,.var 26 (Q7 l)),(1,.var 30 (QO v))],2⟩) ?_ ?_
 ·refine QL ?_
  refine zc 20 ?_ ?_<;>intro h14
  ·refine QgC ?_;refine Qc ?_;exact Qa rfl (Yw ⟨(KM (by simp_all)),rfl,trivial⟩) ⟨rfl,rfl,rfl,rfl,rfl,rfl,trivial⟩
  refine QL ?_
  refine zc 25 ?_ ?_<;>intro h17
  ·refine XR ?_;refine Qc ?_;exact Qa rfl (Yw ⟨(KM (by simp_all)),rfl,trivial⟩) ⟨rfl,rfl,rfl,rfl,rfl,rfl,trivial⟩
  refine QL ?_
  refine zc 30 ?_ ?_<;>intro h20
  ·refine QL ?_;refine Qc ?_;exact Qa rfl (Yw ⟨(KM (by simp_all)),rfl,trivial⟩) ⟨rfl,rfl,rfl,rfl,rfl,rfl,trivial⟩
  refine QL ?_;refine Qc ?_;exact Qa rfl (Yw ⟨(KM (by simp_all)),rfl,trivial⟩) ⟨rfl,rfl,rfl,rfl,rfl,rfl,trivial⟩
 refine QdV (⟨[(2,.ptr 0 0),(3,.ptr 1 0)],[(0,.var 26 (Q7 l)),(1,.var 30 (QO v))],2⟩) ((l.k=1∨l.k=2∨l.k=3∨l.k=8)∨v.N=0) ?_ ?_
 ·refine QL ?_
  refine zc 37 ?_ ?_<;>intro h24
  ·refine QL ?_
   refine zq ?_ ?_<;>intro h27
   ·refine QI ?_;refine zQ ?_;exact Qr (by rw[Qx];simp_all [Xf]<;>(intros;omega))
   refine QM ?_;exact⟨(by first|(simp_all;done)|(simp_all;omega)),Qa rfl (Yw trivial) ⟨rfl,rfl,rfl,rfl,rfl,rfl,trivial⟩⟩
  refine XL ?_;refine QM ?_;exact⟨(by first|(simp_all;done)|(simp_all;omega)),Qa rfl (Yw trivial) ⟨rfl,rfl,rfl,rfl,rfl,rfl,trivial⟩⟩
 intro hN0;refine JF ?_
 refine zq ?_ ?_<;>intro h30
 ·refine XL ?_
  refine zc 49 ?_ ?_<;>intro h33
  ·refine X5 ?_
   refine zc 60 ?_ ?_<;>intro h37
   ·refine XL ?_;refine zQ ?_;exact Qr (by rw[Qx];simp_all [Xf]<;>(intros;omega))
   refine XL ?_;refine zQ ?_;exact Qr (by rw[Qx];simp_all [Xf]<;>(intros;omega))
  refine QL ?_
  refine zc 54 ?_ ?_<;>intro h44
  rotate_left
  ·refine JF ?_;refine zQ ?_;exact Qr (by rw[Qx];simp_all [Xf]<;>(intros;omega))
  refine XL ?_
  refine zc 60 ?_ ?_<;>intro h48
  ·refine XL ?_;refine zQ ?_;exact Qr (by rw[Qx];simp_all [Xf]<;>(intros;omega))
  refine XL ?_;refine zQ ?_;exact Qr (by rw[Qx];simp_all [Xf]<;>(intros;omega))
 refine JI (⟨[(2,.ptr 0 0),(3,.ptr 1 0),(43,i64 l.k),(66,bl (l.k==2||l.k==3))],[(0,.var 26 (Q7 l)),(1,.var 30 (QO v))],2⟩) ?_ ?_
 ·refine QL ?_
  refine zq ?_ ?_<;>intro h53
  ·refine QM ?_;exact Qa rfl (YG ⟨(KM (by simp_all)),rfl,trivial⟩) ⟨rfl,rfl,rfl,rfl,rfl,rfl,trivial⟩
  refine QI ?_;refine Qc ?_;exact Qa rfl (YG ⟨(KM (by simp_all)),rfl,trivial⟩) ⟨rfl,rfl,rfl,rfl,rfl,rfl,trivial⟩
 refine zq ?_ ?_<;>intro h55
 ·refine Jl ?_
  refine zc 74 ?_ ?_<;>intro h60
  rotate_left
  ·refine QeV ?_;refine zQ ?_
   exact Qr (by
    have hk:l.k=2∨l.k=3:=by simp_all
    have hk9:v.es=[]:=hes.resolve_left (by omega)
    rw[Qx]
    rcases hk with hk|hk<;>rw[hk]<;>simp_all [Xf]<;>(intros;omega))
  refine Xy ?_
  refine zc 81 ?_ ?_<;>intro h65
  rotate_left
  ·refine JF ?_;refine zQ ?_
   exact Qr (by
    have hk:l.k=2∨l.k=3:=by simp_all
    have hk9:v.es=[]:=hes.resolve_left (by omega)
    rw[Qx]
    rcases hk with hk|hk<;>rw[hk]<;>simp_all [Xf]<;>(intros;omega))
  refine XL ?_
  refine zc 87 ?_ ?_<;>intro h69
  ·refine XL ?_;refine zQ ?_
   exact Qr (by
    have hk:l.k=2∨l.k=3:=by simp_all
    have hk9:v.es=[]:=hes.resolve_left (by omega)
    rw[Qx]
    rcases hk with hk|hk<;>rw[hk]<;>simp_all [Xf]<;>(intros;omega))
  refine XL ?_;refine zQ ?_
  exact Qr (by
   have hk:l.k=2∨l.k=3:=by simp_all
   have hk9:v.es=[]:=hes.resolve_left (by omega)
   rw[Qx]
   rcases hk with hk|hk<;>rw[hk]<;>simp_all [Xf]<;>(intros;omega))
 refine QL ?_
 refine zq ?_ ?_<;>intro h74
 ·refine Xy ?_
  refine zc 99 ?_ ?_<;>intro h78
  ·refine QK ?_;refine uP (XT h78) (Qd (WV _ _) rfl rfl rfl) ?_;refine QR ?_;refine zQ ?_;exact Qr (by rw[Qx];simp_all [Xf]<;>(intros;omega))
  refine Xy ?_;refine zQ ?_;exact Qr (by rw[Qx];simp_all [Xf]<;>(intros;omega))
 refine QL ?_
 refine zq ?_ ?_<;>intro h84
 ·refine Jl ?_
  refine zq ?_ ?_<;>intro h88
  ·refine QI ?_;refine zQ ?_;exact Qr (by rw[Qx];simp_all [Xf]<;>(intros;omega))
  refine Xy ?_
  refine zc 115 ?_ ?_<;>intro h91
  ·refine X5 ?_
   refine zc 126 ?_ ?_<;>intro h95
   ·refine Qfe ?_;refine zQ ?_;exact Qr (by rw[Qx];simp_all [Xf]<;>(intros;omega))
   refine QK ?_
   refine zc 130 ?_ ?_<;>intro h98
   rotate_left
   ·refine QK ?_;refine uP (X3 h95) (XG rfl rfl h98 rfl) ?_;refine XL ?_;refine uP (X3 h95) (XG rfl rfl rfl rfl) ?_;refine QR ?_;refine zQ ?_;exact Qr (by rw[Qx];simp_all [Xf]<;>(intros;omega))
   refine QK ?_;refine uP (X3 h95) (XK rfl rfl h98 rfl) ?_;refine Yy ?_
   refine zc 136 ?_ ?_<;>intro h102
   ·refine QK ?_;refine uP (XT h102) (Qd (WV _ _) rfl rfl rfl) ?_;refine uP (X3 h95) (XK rfl rfl h102 rfl) ?_;refine QR ?_;refine zQ ?_;exact Qr (by rw[Qx];simp_all<;>(intros;omega))
   refine QL ?_;refine uP (X3 h95) (XG rfl rfl h102 rfl) ?_;refine QR ?_;refine zQ ?_;exact Qr (by rw[Qx];simp_all<;>(intros;omega))
  refine QL ?_
  refine zc 120 ?_ ?_<;>intro h110
  rotate_left
  ·refine XR ?_
   refine zc 130 ?_ ?_<;>intro h129
   rotate_left
   ·refine WT ?_;refine zQ ?_;exact Qr (by rw[Qx];simp_all<;>(intros;omega))
   refine XL ?_
   refine zc 136 ?_ ?_<;>intro h133
   ·refine QK ?_;refine uP (XT h133) (Qd (WV _ _) rfl rfl rfl) ?_;refine QI ?_;refine zQ ?_;exact Qr (by rw[Qx];simp_all [Xf]<;>(intros;omega))
   refine Jl ?_;refine zQ ?_;exact Qr (by rw[Qx];simp_all [Xf]<;>(intros;omega))
  refine XL ?_
  refine zc 126 ?_ ?_<;>intro h114
  ·refine Qfe ?_;refine zQ ?_;exact Qr (by rw[Qx];simp_all [Xf]<;>(intros;omega))
  refine QK ?_
  refine zc 130 ?_ ?_<;>intro h117
  rotate_left
  ·refine QK ?_;refine uP (X3 h114) (XG rfl rfl h117 rfl) ?_;refine XL ?_;refine uP (X3 h114) (XG rfl rfl rfl rfl) ?_;refine QR ?_;refine zQ ?_;exact Qr (by rw[Qx];simp_all [Xf]<;>(intros;omega))
  refine QK ?_;refine uP (X3 h114) (XK rfl rfl h117 rfl) ?_;refine Yy ?_
  refine zc 136 ?_ ?_<;>intro h121
  ·refine QK ?_;refine uP (XT h121) (Qd (WV _ _) rfl rfl rfl) ?_;refine uP (X3 h114) (XK rfl rfl h121 rfl) ?_;refine QR ?_;refine zQ ?_;exact Qr (by rw[Qx];simp_all<;>(intros;omega))
  refine QL ?_;refine uP (X3 h114) (XG rfl rfl h121 rfl) ?_;refine QR ?_;refine zQ ?_;exact Qr (by rw[Qx];simp_all<;>(intros;omega))
 refine QL ?_
 refine zq ?_ ?_<;>intro h139
 ·refine Xy ?_
  refine zc 150 ?_ ?_<;>intro h143
  rotate_left
  ·refine X5 ?_;refine zQ ?_;exact Qr (by rw[Qx];simp_all [Xf]<;>(intros;omega))
  refine XL ?_
  refine zc 156 ?_ ?_<;>intro h147
  ·refine QR ?_;refine uP (XT h147) (Qd (Ql6 _) rfl rfl rfl) ?_;refine QR ?_;refine zQ ?_;exact Qr (by rw[Qx];simp_all [Xf]<;>(intros;omega))
  refine QL ?_;refine zQ ?_;exact Qr (by rw[Qx];simp_all [Xf]<;>(intros;omega))
 refine QL ?_
 refine zq ?_ ?_<;>intro h151
 ·refine Xy ?_
  refine zc 167 ?_ ?_<;>intro h155
  rotate_left
  ·refine WT ?_;refine zQ ?_;exact Qr (by rw[Qx];simp_all [Xf]<;>(intros;omega))
  refine QK ?_;refine uP (XT h155) (Qd (WV _ _) rfl rfl rfl) ?_;refine QR ?_
  refine zc 174 ?_ ?_<;>intro h160
  ·refine QK ?_;refine uP (XT h160) (Qd (Qnz _ _ (Qw4 hO)) rfl rfl rfl) ?_;refine QR ?_;refine zQ ?_;exact Qr (by rw[Qx];simp_all [Xf]<;>(intros;omega))
  refine Xy ?_;refine zQ ?_;exact Qr (by rw[Qx];simp_all [Xf]<;>(intros;omega))
 refine QL ?_
 refine zq ?_ ?_<;>intro h166
 rotate_left
 ·refine J6 ?_
  refine zc 233 ?_ ?_<;>intro h209
  ·refine Qbp ?_;refine zQ ?_;exact Qr (by rw[Qx];simp_all [Xf]<;>(intros;omega))
  refine J6 ?_
  refine zq ?_ ?_<;>intro h216
  ·refine QI ?_;refine zQ ?_;exact Qr (by rw[Qx];simp_all [Xf]<;>(intros;omega))
  refine Xy ?_
  have hle:v.ps.length=l.ps.length:=by simp_all<;>omega
  have hE:QA v l=Ku v.ps l.ps:=by rw[Qx];simp_all [Xf]
  refine Qq (fun x:{k:Nat // k≤(v.ps).length∧Ku (v.ps.drop k) (l.ps.drop k)=Ku v.ps l.ps}=>⟨[(2,.ptr 0 0),(3,.ptr 1 0),(7,i64 (x.1:Nat))],[(0,.var 26 (Q7 l)),(1,.var 30 (QO v))],2⟩) (fun x=>(v.ps).length-x.1) (⟨0,Nat.zero_le _,by simp⟩) ?_ ?_
  ·exact Qa rfl (YG trivial) ⟨rfl,rfl,rfl,rfl,rfl,rfl,trivial⟩
  rintro⟨k,hk,hg⟩;dsimp only;refine J6 ?_
  refine zq ?_ ?_<;>intro h223
  rotate_left
  ·have hge:(v.ps).length≤k:=by simpa using h223
   refine QK ?_;refine zQ ?_;exact Qr (by rw[hE,Qse hg hge])
  refine Jq 244 rfl (fun hl8=>?_)
  have hlt:k<(v.ps).length:=by simpa using h223
  obtain⟨x,hx⟩:=Qw hlt;obtain⟨q,hq⟩:=Qw (show k<l.ps.length by omega)
  have hOq:Yv q:=hO.part q (List.mem_of_getElem? hq)
  have hs:=QvU hg hx hq
  refine QK ?_;refine zD 11 ?_;refine QI ?_;refine zp (Qh rfl rfl rfl k rfl _ (X9 hq) rfl) ?_;refine QK ?_;refine zp (Qh rfl rfl rfl k rfl _ (Q8 hx) rfl) ?_;refine zl ?_;refine zp (Qd (ih x (List.mem_of_getElem? hx) q hOq) rfl rfl rfl) ?_;refine QR ?_
  refine zq ?_ ?_<;>intro h232
  ·refine QI ?_;refine zQ ?_;exact Qr (by rw[hE,hs];simp_all)
  refine QL ?_;refine Qc ?_;exact⟨⟨k+1,hlt,by simp_all⟩,Qa rfl (Yw ⟨JC,rfl,trivial⟩) ⟨rfl,rfl,rfl,rfl,rfl,rfl,trivial⟩,by dsimp only;omega⟩
 refine X5 ?_
 refine zc 190 ?_ ?_<;>intro h173
 ·refine JF ?_;refine zQ ?_;exact Qr (by rw[Qx];simp_all [Xf]<;>(intros;omega))
 refine QK ?_;refine uP (X3 h173) (Qd (WV _ _) rfl rfl rfl) ?_;refine QI ?_
 refine zq ?_ ?_<;>intro h178
 ·refine QI ?_;refine zQ ?_;exact Qr (by rw[Qx];simp_all [Xf]<;>(intros;omega))
 refine Xy ?_
 have hk5:l.k=5:=by simp_all
 obtain⟨a,r,hps⟩:=Qhr hO.shape hk5
 have hOa:Yv a:=hO.part a (by rw[hps];exact List.mem_cons_self)
 have ha:l.ps[0]?=some a:=by rw[hps];rfl
 have hE:QA v l=v.ps.all (Qbg a):=by rw[Qx,hk5,hps];simp_all [Qbw,Xf]
 refine Qq (fun x:{k:Nat // k≤(v.ps).length∧(v.ps.drop k).all (Qbg a)=v.ps.all (Qbg a)}=>⟨[(2,.ptr 0 0),(3,.ptr 1 0),(6,i64 (x.1:Nat))],[(0,.var 26 (Q7 l)),(1,.var 30 (QO v))],2⟩) (fun x=>(v.ps).length-x.1) (⟨0,Nat.zero_le _,by simp⟩) ?_ ?_
 ·exact Qa rfl (YG trivial) ⟨rfl,rfl,rfl,rfl,rfl,rfl,trivial⟩
 rintro⟨k,hk,hg⟩;dsimp only;refine J6 ?_
 refine zq ?_ ?_<;>intro h185
 rotate_left
 ·have hge:(v.ps).length≤k:=by simpa using h185
  refine QK ?_;refine zQ ?_;exact Qr (by rw[hE,Jf hg hge])
 refine Jq 200 rfl (fun hl8=>?_)
 have hlt:k<(v.ps).length:=by simpa using h185
 obtain⟨x,hx⟩:=Qw hlt;refine QK ?_;refine zD 23 ?_;refine QR ?_;refine zp (Qh rfl rfl rfl 0 rfl _ (X9 ha) rfl) ?_;refine QK ?_;refine zp (Qh rfl rfl rfl k rfl _ (Q8 hx) rfl) ?_;refine zl ?_;refine zp (Qd (ih x (List.mem_of_getElem? hx) a hOa) rfl rfl rfl) ?_;refine QR ?_
 refine zd 216 ?_ ?_<;>intro h194
 ·refine QkJ ?_;refine zQ ?_;exact Qr (by rw[hE,Xe hg hx (by simp_all [Qbg])])
 refine QI ?_;refine vP (X3 (m1 (n0 h194))) (Qh rfl rfl rfl k rfl _ (Q8 hx) rfl) ?_;refine QI ?_;refine vP (X3 (m1 (n0 h194))) (Qh rfl rfl rfl 0 rfl _ (X9 ha) rfl) ?_;refine Yy ?_;refine vP (X3 (m1 (n0 h194))) (Qd (Qjp a hOa) rfl rfl rfl) ?_;refine vP (X3 (m1 (n0 h194))) (Qd (QcR _ _) rfl rfl rfl) ?_;refine QR ?_
 refine zq ?_ ?_<;>intro h204
 ·refine QI ?_;refine zQ ?_;exact Qr (by rw[hE,Xe hg hx (by simp_all [Qbg])])
 refine QL ?_;refine Qc ?_;exact⟨⟨k+1,hlt,XO hg hx (by simp_all [Qbg])⟩,Qa rfl (Yw ⟨JC,rfl,trivial⟩) ⟨rfl,rfl,rfl,rfl,rfl,rfl,trivial⟩,by dsimp only;omega⟩
theorem QmS (v:Qz)(l:Qv)(hO:Yv l):FC Tryz.prog 112 [.agg (Q7 l),.agg (QO v)] (bl (QA v l)):=QuK v l hO (fun x _ a ha=>QmS x a ha)
termination_by v
decreasing_by exact Qz.sizeOf_ps ‹_›
theorem QbJ (l:Qv)(v:Qz):FC Tryz.prog 65 [.agg (Q7 l),.agg (QO v)] (bl (Xr l v)):=by
 refine Qg [4] Tryz.func65 rfl rfl 13 Tryz.ntmps65 (Nat.le_of_ble_eq_true rfl) ?_
 intro E hN;refine J6 ?_;refine zP (Qd (Qia l) rfl rfl rfl) ?_;refine QR ?_
 refine zc 8 ?_ ?_<;>intro h7
 ·have h1:QJ l=0:=by simpa using h7
  refine QR ?_;refine uP (XT h7) (Qd (QmS v l (Q9 h1)) rfl rfl rfl) ?_;refine QR ?_;refine zQ ?_;exact Qr (by simp_all [Xr])
 refine QL ?_;refine zQ ?_;exact Qr (by simp_all [Xr])
end Go.Proofs.YtnkkokmmeplbgaaGreat
