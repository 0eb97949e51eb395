/-
  Plain: what a node does in one act, and what stays true of i
-/
import Derived.Test.YtnkkokmmeplbgaaGreatS1
import Derived.Test.YtnkkokmmeplbgaaGreatA8
import Derived.Test.YtnkkokmmeplbgaaGreatN3
import Derived.Test.YtnkkokmmeplbgaaGreatC6
import Derived.Test.YtnkkokmmeplbgaaGreatC12
import Derived.Test.YtnkkokmmeplbgaaGreatC4
import Derived.Test.YtnkkokmmeplbgaaGreatA13
import Derived.Test.YtnkkokmmeplbgaaGreatT5
import Derived.Test.YtnkkokmmeplbgaaGreatA5
import Derived.Test.YtnkkokmmeplbgaaGreatA10
import Derived.Test.YtnkkokmmeplbgaaGreatA3
import Derived.Test.YtnkkokmmeplbgaaGreatN5
import Derived.Test.YtnkkokmmeplbgaaGreatA11
import Derived.Test.YtnkkokmmeplbgaaGreatB16
namespace Go.Proofs.YtnkkokmmeplbgaaGreat
open Go.RowKit
end Go.Proofs.YtnkkokmmeplbgaaGreat
namespace Go.Proofs.YtnkkokmmeplbgaaGreat
set_option maxRecDepth 100000
set_option maxHeartbeats 1000000
open Go.RowKit
def gL:Qv:=.mk 4 0 0 [] [] []
def gA:Qz:=.mk 0 [[97]] [] []
theorem gC:QJ gL=0:=by decide
theorem gAe:El gL 1000 gA:=⟨by decide,(Qln (show Wu gA 40=true by kernel_rfl)).up (by decide)⟩
theorem gBe:El gL 64 (Qy gL):=El.bot (Q9 gC)
theorem gJ:Qs gL (Qy gL) gA=gA:=Qf7 (Q9 gC) gAe.1
abbrev gX:Nd:=⟨3,0,gA,Qy gL,Qy gL,1⟩
abbrev gP:Pp:=⟨gA,Qy gL,upN (fun _=>false) 0 true,0⟩
abbrev gM (k f t n:Int)(v:Qz):Kb:=⟨k,f,t,n,v⟩
theorem awIn:GX Tryz.prog 40 [.ptr Qf 0,.agg (QO gA)] [(Qf,.var 131 (XP gL (Qbh gL 3 0) Jw))] (.tup [Qba [gM 1 0 1 1 gA,gM 1 0 2 1 gA],i64 0]) [(Qf,.var 131 (XP gL gX (.ptr 1 0))),(1,.var 137 (Jy gP))] 4:=by
 have h:=Qjt gL (Qbh gL 3 0) gA gC (by decide) (by decide) (by decide) (by decide) (by decide) (by decide) (gBe.up (by decide)) (gBe.up (by decide)) (by decide) gAe
 have e1:Jv gL { Qbh gL 3 0 with wt:=Qs gL (Qbh gL 3 0).wt gA }=gX:=by
  show(⟨3,0,Qs gL (Qy gL) (Qs gL (Qy gL) gA),Qy gL,Qy gL,0+1⟩:Nd)=_
  rw[gJ,gJ];rfl
 have e2:Ju gL { Qbh gL 3 0 with wt:=Qs gL (Qbh gL 3 0).wt gA }=gP:=by
  show(⟨Qs gL (Qy gL) (Qs gL (Qy gL) gA),Qy gL,upN (fun _=>false) 0 true,0⟩:Pp)=_
  rw[gJ,gJ]
 rw[e1,e2] at h;exact h
theorem awTi:GC Tryz.prog 44 [.ptr Qf 0] [(Qf,.var 131 (XP gL gX (.ptr (Qf+1) 0))),((Qf+1),.var 137 (Jy gP))] (Qba [gM 1 0 1 1 gA,gM 1 0 2 1 gA]) [(Qf,.var 131 (XP gL gX (.ptr (Qf+1) 0))),((Qf+1),.var 137 (Jy gP))]:=
 QlR gL gX gP gC (by decide) (by decide) (gAe.up (by decide)) gBe.1 (KC gL (Q9 gC) gA gAe.1)
theorem awHp:GX Tryz.prog 42 [.ptr Qf 0,.agg (Ja (gM 1 0 1 1 gA))] [(Qf,.var 131 (XP gL (Qbh gL 3 1) Jw))] (.tup [Qba [gM 2 1 0 1 Qz.zero],i64 0]) [(Qf,.var 131 (XP gL { Qbh gL 3 1 with acc:=gA } Jw))] 2:=by
 have h:=Qja gL (Qbh gL 3 1) (gM 1 0 1 1 gA) gC (by decide) (by decide) (gBe.up (by decide)) (gAe.up (by decide))
 have e1:Qg9 gL (Qbh gL 3 1) (gM 1 0 1 1 gA)=gM 2 1 0 1 Qz.zero:=if_pos (KC gL (Q9 gC) gA gAe.1)
 rw[e1,show Qs gL (Qbh gL 3 1).acc (gM 1 0 1 1 gA).v=gA from gJ] at h;exact h
theorem awHa:GX Tryz.prog 42 [.ptr Qf 0,.agg (Ja (gM 2 1 0 1 Qz.zero))] [(Qf,.var 131 (XP gL gX (.ptr (Qf+1) 0))),((Qf+1),.var 137 (Jy gP))] (.tup [Qba [gM 4 0 1 0 gA,gM 4 0 2 0 gA],i64 0]) [(Qf,.var 131 (XP gL { gX with lrn:=gA } Jw)),((Qf+1),.var 137 (Jy { gP with ack:=upN gP.ack 1 true }))] 3:=by
 have h:=Qmm gL gX gP (gM 2 1 0 1 Qz.zero) gC (by decide) (by decide) (by decide) (by decide) (by decide) (gBe.up (by decide)) (gAe.up (by decide)) (by decide) (by decide)
 have e1:Xv gL gX gP={ gX with lrn:=gA }:=QfF (KC gL (Q9 gC) gA gAe.1)
 rw[e1] at h;exact h
theorem QqS (l:List Nm):FC Tryz.prog 75 [Jz l] (.tup [.agg (Q7 gL),.agg (QO (.mk 0 l [] []))]):=by
 refine Km [.c 2 26 6 true,.c 3 30 4 true] ⟨⟨inferInstance,rfl⟩,⟨⟨inferInstance,rfl⟩,trivial⟩⟩ Tryz.func75 rfl rfl 7 Tryz.ntmps75 (Nat.le_of_ble_eq_true rfl) ?_
 intro E hN;refine Qbp ?_;refine Qu ?_;change (resY _ _).bind AV.fzt=some _;refine Yl rfl ?_
 rfl
theorem QhH:FC Tryz.prog 36 [] (bl true):=by
 refine Qg [0] Tryz.func36 rfl rfl 145 Tryz.ntmps36 (Nat.le_of_ble_eq_true rfl) ?_
 intro E hN;refine XL ?_;refine zP (Q0 rfl rfl rfl rfl (by exact rfl) (by decide) (by decide)) ?_;refine zP (Qd (QqS [[97]]) rfl rfl rfl) ?_;refine X5 ?_;refine Qks hN rfl (QkS gL 3 0 gC (by decide) (by decide) (by decide) (by decide)) (.fn _ _ _ _ rfl rfl) rfl rfl rfl rfl rfl ?_;refine J6 ?_;refine Qks hN rfl (QkS gL 3 1 gC (by decide) (by decide) (by decide) (by decide)) (.fn _ _ _ _ rfl rfl) rfl rfl rfl rfl rfl ?_;refine QpI ?_
 refine Yd hN [(Qf,2)] awIn (.fn _ _ _ _ rfl rfl) rfl rfl rfl ⟨rfl,rfl,rfl,trivial⟩ rfl ⟨rfl,rfl,trivial⟩ rfl rfl rfl rfl rfl rfl rfl rfl ?_;refine Qfe ?_;refine zP (Qh rfl rfl rfl 0 rfl _ rfl rfl) ?_;refine XL ?_;refine zP (YO [(Qf,2),(Qf+1,5)] awTi rfl rfl rfl rfl ⟨rfl,rfl,rfl,rfl,rfl,rfl,rfl,rfl,trivial⟩ rfl) ?_;refine XR ?_;refine zP (Qh rfl rfl rfl 0 rfl _ rfl rfl) ?_;refine zL ?_;refine Yd hN [(Qf,3)] awHp (.fn _ _ _ _ rfl rfl) rfl rfl rfl ⟨rfl,rfl,rfl,trivial⟩ rfl ⟨rfl,trivial⟩ rfl rfl rfl rfl rfl rfl rfl rfl ?_;refine Qfe ?_
 refine zP (Qh rfl rfl rfl 0 rfl _ rfl rfl) ?_;refine X5 ?_;refine zP (Qh rfl rfl rfl 0 rfl _ rfl rfl) ?_;refine zL ?_;refine Yd hN [(Qf,2),((Qf+1),5)] awHa (.fn _ _ _ _ rfl rfl) rfl rfl rfl ⟨rfl,rfl,rfl,rfl,rfl,rfl,trivial⟩ rfl ⟨rfl,rfl,trivial⟩ rfl rfl rfl rfl rfl rfl rfl rfl ?_;refine J6 ?_;refine zP (YO [(Qf,2)] (Qsv gL { gX with lrn:=gA } [] (JK.of rfl)) rfl rfl rfl rfl ⟨rfl,rfl,rfl,rfl,trivial⟩ rfl) ?_;refine XR ?_;refine zD 46 ?_;refine J6 ?_;refine zp (Qh rfl rfl rfl 0 rfl _ rfl rfl) ?_;refine XL ?_
 refine zp (YO [(Qf,2)] (QdO gL { gX with lrn:=gA } Jw [] (JK.of rfl) gC (gAe.up (by decide))) rfl rfl rfl rfl ⟨rfl,rfl,rfl,rfl,trivial⟩ rfl) ?_;refine zl ?_;refine zp (Qd (fcb (c:=true) (QcR gA gA) ((KJ _ _).2 rfl)) rfl rfl rfl) ?_;refine QI ?_;refine zp (YO [(Qf,3)] (Qk2 gL { Qbh gL 3 1 with acc:=gA } Jw [] (JK.of rfl) gC (gAe.up (by decide))) rfl rfl rfl rfl ⟨rfl,rfl,rfl,rfl,trivial⟩ rfl) ?_;refine zl ?_;refine zp (Qd (fcb (c:=true) (QcR gA gA) ((KJ _ _).2 rfl)) rfl rfl rfl) ?_;refine X5 ?_
 refine zp (YO [(Qf,2)] (Quy gL { gX with lrn:=gA } [] (JK.of rfl)) rfl rfl rfl rfl ⟨rfl,rfl,rfl,rfl,trivial⟩ rfl) ?_;refine QK ?_;refine zp (YO [(Qf,2)] (Ql7 gL { gX with lrn:=gA } Jw [] (JK.of rfl) gC (gBe.up (by decide))) rfl rfl rfl rfl ⟨rfl,rfl,rfl,rfl,trivial⟩ rfl) ?_;refine zp (Qu6 rfl rfl rfl) ?_;refine QK ?_;refine zQ ?_
 rfl
def stW (l:Qv)(n:Int):Int:=
 if l.k=10∧IntKind.i64.wrap (IntKind.i64.wrap (n-1)-(l.nm.length:Int))≥0 then IntKind.i64.wrap (IntKind.i64.wrap (IntKind.i64.wrap (n-1)-(l.nm.length:Int))-IntKind.i64.wrap ((l.nm.length:Int)*(l.rs.length:Int)))
 else IntKind.i64.wrap (IntKind.i64.wrap (n-1)-(l.nm.length:Int))
def Qmx (g:Qv→Int→Int):List Qv→Int→Int
 |[],n=>n
 |p::r,n=>if n≥0 then Qmx g r (g p n) else n
theorem Qro {g:Qv→Int→Int}{n:Int}(h:¬n≥0):∀ps:List Qv,Qmx g ps n=n
 |[]=>rfl
 |_::_=>if_neg h
theorem QpS {g:Qv→Int→Int}{ps:List Qv}{k:Nat}{x:Qv}{n:Int}(hx:ps[k]?=some x)(h:n≥0):Qmx g (ps.drop k) n=Qmx g (ps.drop (k+1)) (g x n):=by
 obtain⟨hk,rfl⟩:=List.getElem?_eq_some_iff.1 hx;rw[List.drop_eq_getElem_cons hk];exact if_pos h
theorem Qr6 (l:Qv)(g:Qv→Int→Int)(ih:∀p∈l.ps,∀n:Int,FC Tryz.prog 76 [.agg (Q7 p),i64 n] (i64 (g p n)))(n:Int):FC Tryz.prog 76 [.agg (Q7 l),i64 n] (i64 (Qmx g l.ps (stW l n))):=by
 refine Qg [4] Tryz.func76 rfl rfl 47 Tryz.ntmps76 (Nat.le_of_ble_eq_true rfl) ?_
 intro E hN;refine QgC ?_;refine JI (⟨[(1,i64 (stW l n)),(2,.ptr 0 0)],[(0,.var 26 (Q7 l))],1⟩) ?_ ?_
 ·refine XL ?_
  refine zc 15 ?_ ?_<;>intro h11
  rotate_left
  ·refine QL ?_;refine QM ?_;exact Qa rfl ⟨(Y5 (by simp_all [stW]<;>(intros;omega))),rfl,(X2 trivial)⟩ ⟨rfl,rfl,rfl,trivial⟩
  refine QK ?_
  refine zq ?_ ?_<;>intro h12
  rotate_left
  ·refine QM ?_;exact Qa rfl ⟨(Y5 (by simp_all [stW]<;>(intros;omega))),rfl,(X2 trivial)⟩ ⟨rfl,rfl,rfl,trivial⟩
  refine X5 ?_;refine Qc ?_;exact Qa rfl ⟨(Y5 (by simp_all [stW]<;>(intros;omega))),rfl,(X2 trivial)⟩ ⟨rfl,rfl,rfl,trivial⟩
 refine XL ?_;refine Qq (fun z:{q:Nat×Int // q.1≤l.ps.length∧Qmx g (l.ps.drop q.1) q.2=Qmx g l.ps (stW l n)}=>⟨[(1,i64 z.1.2),(2,.ptr 0 0),(5,i64 (z.1.1:Nat))],[(0,.var 26 (Q7 l))],1⟩) (fun z=>l.ps.length-z.1.1) (⟨(0,stW l n),Nat.zero_le _,by simp⟩) ?_ ?_
 ·exact Qa rfl (YG trivial) ⟨rfl,rfl,rfl,trivial⟩
 rintro⟨⟨k,m⟩,hk,hr⟩;dsimp only at hk hr ⊢;refine J6 ?_
 refine zc 33 ?_ ?_<;>intro h29
 rotate_left
 ·have hge:¬k<l.ps.length:=by simpa using h29
  obtain rfl:k=l.ps.length:=by omega
  rw[List.drop_length] at hr;refine XR ?_;refine zQ ?_;exact congrArg (fun z:Int=>i64 z) hr
 have hlt:k<l.ps.length:=by simpa using h29
 obtain⟨x,hx⟩:=Qw hlt;refine QK ?_
 refine zq ?_ ?_<;>intro h30
 rotate_left
 ·have hm:¬m≥0:=by simpa using h30
  rw[Qro hm] at hr;refine QL ?_;refine zQ ?_;exact congrArg (fun z:Int=>i64 z) hr
 have hm:m≥0:=by simpa using h30
 refine Jq 30 rfl (fun hlen=>?_);refine Xy ?_;refine zP (Qh rfl rfl rfl k rfl _ (X9 hx) rfl) ?_;refine QR ?_;refine zP (Qd (ih x (List.mem_of_getElem? hx) m) rfl rfl rfl) ?_;refine XL ?_;refine Qc ?_;exact⟨⟨(k+1,g x m),hlt,by dsimp only;rw[←QpS hx hm];exact hr⟩,Qa rfl (Yw ⟨JC,rfl,trivial⟩) ⟨rfl,rfl,rfl,trivial⟩,by dsimp only;omega⟩
open Classical in
theorem Qjz (l:Qv):∃f:Int→Int,∀n:Int,FC Tryz.prog 76 [.agg (Q7 l),i64 n] (i64 (f n)):=by
 have ih:∀p∈l.ps,∃f:Int→Int,∀n:Int,FC Tryz.prog 76 [.agg (Q7 p),i64 n] (i64 (f n)):=fun p hp=>Qjz p
 refine⟨fun n=>Qmx (fun p=>if h:p∈l.ps then Classical.choose (ih p h) else fun _=>0) l.ps (stW l n),fun n=>Qr6 l _ (fun p hp n=>?_) n⟩;rw[dif_pos hp];exact Classical.choose_spec (ih p hp) n
termination_by l
decreasing_by exact Qv.sizeOf_ps ‹_›
theorem QvG (l:Qv)(f:Int→Int)(hf:∀n:Int,FC Tryz.prog 76 [.agg (Q7 l),i64 n] (i64 (f n))):FC Tryz.prog 37 [.agg (Q7 l)] (bl (decide (f 150≥0))):=by
 refine Qg [2] Tryz.func37 rfl rfl 6 Tryz.ntmps37 (Nat.le_of_ble_eq_true rfl) ?_
 intro E hN;refine Jl ?_;refine zP (Qd (hf 150) rfl rfl rfl) ?_;refine QR ?_;refine zQ ?_
 rfl
theorem QmM (l:Qv):∃b:Bool,FC Tryz.prog 37 [.agg (Q7 l)] (bl b):=by
 obtain⟨f,hf⟩:=Qjz l;exact⟨_,QvG l f hf⟩
def Qv.zero:Qv:=.mk 0 0 0 [] [] []
end Go.Proofs.YtnkkokmmeplbgaaGreat
namespace Go.Proofs.YtnkkokmmeplbgaaGreat
open Go.RowKit
def QxN (s:Nd)(p:Pp):Prop:=∀i,s.n.toNat≤i→p.ack i=false
theorem QxN.ren {s:Nd}{p:Pp}{l:Qv}(h0:0≤s.self)(h1:s.self<s.n):QxN (QbO s p) (QdJ l s p):=fun i hi=>by
 show upN (fun _=>false) s.self.toNat true i=false
 have hi:s.n.toNat≤i:=hi
 rw[upN,if_neg (by omega)]
theorem Wv {T te:TypeId}{cs:List AV}{k:Nat}{es:List (List AV)}(h1:cs.all Qcn=true)(h2:Qg7 [(Qf,.var T cs),(Qf+1,.arr te k es)] (.var T cs)=true)(h3:JB 0 (.var T cs)=true)(h4:Nat.ble Qf Qf=true)(hz:∀e∈es,fzs e=some e):JK [(Qf,.var T cs),(Qf+1,.arr te k es)]:=by
 have e1:okB (.var T cs)=true:=h1
 have e2:okB (.arr te k es)=true:=Qcz hz
 have e3:Qg7 [(Qf,.var T cs),(Qf+1,.arr te k es)] (.arr te k es)=true:=Qcz hz
 have e4:JB 0 (.arr te k es)=true:=ok_A hz
 refine JK.of ?_
 show((Nat.ble Qf Qf&&okB (.var T cs)&&Qg7 [(Qf,.var T cs),(Qf+1,.arr te k es)] (.var T cs)&&true&&JB 0 (.var T cs))&&((Nat.ble Qf (Qf+1)&&okB (.arr te k es)&&Qg7 [(Qf,.var T cs),(Qf+1,.arr te k es)] (.arr te k es)&&true&&JB 0 (.arr te k es))&&true)&&Qgm [(Qf,.var T cs),(Qf+1,.arr te k es)])=true
 rw[e1,h2,h3,e2,e3,e4,h4];rfl
end Go.Proofs.YtnkkokmmeplbgaaGreat
namespace Go.Proofs.YtnkkokmmeplbgaaGreat
open Go.RowKit
end Go.Proofs.YtnkkokmmeplbgaaGreat
namespace Go.Proofs.YtnkkokmmeplbgaaGreat
open Go.RowKit
end Go.Proofs.YtnkkokmmeplbgaaGreat
namespace Go.Proofs.YtnkkokmmeplbgaaGreat
open Go.RowKit
section
variable {l:Qv}(hO:Yv l)
include hO
theorem QeF {A B:List Qz}(hA:∀v∈A,QA v l=true)(hB:∀v∈B,QA v l=true)(h:∀v∈A,v∈B):QE l (YZ l A) (YZ l B)=true:=
 (Ke hO hA).2.2 _ (Ke hO hB).1 fun v hv=>(Ke hO hB).2.1 v (h v hv)
theorem Qqm {A B:List Qz}(hA:∀v∈A,QA v l=true)(hB:∀v∈B,QA v l=true)(h:∀v∈A,v∈B)(h2:∀v∈B,v∈A):YZ l A=YZ l B:=
 QbG l hO _ _ (Ke hO hA).1 (Ke hO hB).1 (QeF hO hA hB h) (QeF hO hB hA h2)
theorem Qno {A B:List Qz}(hA:∀v∈A,QA v l=true)(hB:∀v∈B,QA v l=true):Qs l (YZ l A) (YZ l B)=YZ l (A++B):=by
 have hAB:∀v∈A++B,QA v l=true:=fun v hv=>(List.mem_append.1 hv).elim (hA v) (hB v)
 have a:=Ke hO hA
 have b:=Ke hO hB
 have L:=Ys l hO _ _ a.1 b.1
 refine QbG l hO _ _ L.el (Ke hO hAB).1 (L.least _ (Ke hO hAB).1 (QeF hO hA hAB fun v hv=>List.mem_append_left _ hv) (QeF hO hB hAB fun v hv=>List.mem_append_right _ hv)) ((Ke hO hAB).2.2 _ L.el fun v hv=>?_)
 rcases List.mem_append.1 hv with hv|hv
 ·exact Xu l hO _ _ _ (hA v hv) a.1 L.el (a.2.1 v hv) L.le1
 exact Xu l hO _ _ _ (hB v hv) b.1 L.el (b.2.1 v hv) L.le2
end
def W3 (l:Qv)(X:List Qz)(v:Qz):Prop:=∃S:List Qz,(∀x∈S,x∈X)∧v=YZ l S
def Giv (l:Qv)(X:List Qz):Prop:=∀x∈X,El l 40 x
theorem W3.bot {l:Qv}{X:List Qz}:W3 l X (Qy l):=⟨[],by simp,rfl⟩
theorem W3.up {l:Qv}{X Y:List Qz}{v:Qz}(h:W3 l X v)(hs:∀x∈X,x∈Y):W3 l Y v:=by
 obtain⟨S,h1,h2⟩:=h;exact⟨S,fun x hx=>hs x (h1 x hx),h2⟩
theorem W3.of {l:Qv}(hO:Yv l){X:List Qz}(hX:Giv l X){v:Qz}(h:v∈X):W3 l X v:=⟨[v],by simp[h],(Qmd hO (hX v h).1).symm⟩
theorem W3.join {l:Qv}(hO:Yv l){X:List Qz}(hX:Giv l X){a b:Qz}(ha:W3 l X a)(hb:W3 l X b):W3 l X (Qs l a b):=by
 obtain⟨S,s1,rfl⟩:=ha;obtain⟨T,t1,rfl⟩:=hb;exact⟨S++T,fun x hx=>(List.mem_append.1 hx).elim (s1 x) (t1 x),Qno hO (fun v hv=>(hX v (s1 v hv)).1) (fun v hv=>(hX v (t1 v hv)).1)⟩
open Classical in
theorem W3.el {l:Qv}(hO:Yv l){X:List Qz}(hX:Giv l X)(hl:X.length≤90){v:Qz}(h:W3 l X v):El l 4000 v:=by
 obtain⟨S,s1,rfl⟩:=h
 have e:YZ l S=YZ l (X.filter fun x=>decide (x∈S)):=Qqm hO (fun v hv=>(hX v (s1 v hv)).1) (fun v hv=>(hX v (List.mem_filter.1 hv).1).1) (fun v hv=>List.mem_filter.2 ⟨s1 v hv,by simpa using hv⟩) (fun v hv=>by simpa using (List.mem_filter.1 hv).2)
 rw[e]
 have h1:=Qhw hO (X.filter fun x=>decide (x∈S)) (Qy l) 64 (Nat.le_refl _) (El.bot hO) (fun v hv=>hX v (List.mem_filter.1 hv).1)
 have h2:=List.length_filter_le (fun x=>decide (x∈S)) X
 exact h1.up (by omega)
structure Act where
 k:Int
 v:Qz
 m:Kb
abbrev Nst:=(Nd×Option Pp)×List Kb
def QB (l:Qv)(s:Nd)(c:Option Pp)(v:Qz):Nst×Int:=
 if Xr l v=false then(((s,c),[]),4) else
 match c with
 |some p=>((({ s with wt:=Qs l s.wt v },some p),[]),0)
 |none=>(Qd5 l { s with wt:=Qs l s.wt v },0)
def Qa6 (l:Qv)(s:Nd)(p:Pp):Nst:=if QE l p.v s.lrn then Qf1 l s else((s,some p),[])
def Qb2 (l:Qv)(s:Nd)(p:Pp):Nst:=if Qav s p then((Qf1 l (Xv l s p)).1,Qa2 (Xv l s p)++(Qf1 l (Xv l s p)).2) else((s,some p),[])
def Jd (l:Qv)(s:Nd)(c:Option Pp)(m:Kb):Nst×Int:=
 if ¬Wy l s m=0 then(((s,c),[]),Wy l s m) else
 if m.k=1 then((({ s with acc:=Qs l s.acc m.v },c),[Qg9 l s m]),0) else
 match c with
 |none=>(((if m.k=4 then Jh l s m else s,none),[]),0)
 |some p=>
  if m.k=4 then(Qa6 l (Jh l s m) p,0) else
  if ¬m.n=s.num then(((s,some p),[]),0) else
  if m.k=2 then(Qb2 l s { p with ack:=upN p.ack m.f.toNat true },0) else(((s,some { p with g:=Qs l p.g m.v }),[]),0)
def Qaa (l:Qv)(s:Nd)(p:Pp):Pp:={ p with v:=Qs l (Qs l p.v p.g) s.acc,ref:=p.ref+1 }
def Yo (l:Qv)(s:Nd)(c:Option Pp):Nst:=
 match c with
 |none=>((s,none),if eqV s.lrn (Qy l) then[] else Qa2 s)
 |some p=>if QE l p.g p.v then((s,some p),J4 s p (fun i => !p.ack i)) else((QbO s (Qaa l s p),some (QdJ l s (Qaa l s p))),J4 (QbO s (Qaa l s p)) (QdJ l s (Qaa l s p)) Jn)
structure WO (l:Qv) (X:List Qz) (s:Nd) (c:Option Pp) (k:Nat):Prop where
 n1:1≤s.n
 n2:s.n≤12
 s0:0≤s.self
 s1:s.self<s.n
 acc:W3 l X s.acc
 lrn:W3 l X s.lrn
 wt:W3 l X s.wt
 num0:0≤s.num
 num1:s.num≤k
 p:∀p,c=some p→W3 l X p.v∧W3 l X p.g∧(∀i,s.n.toNat≤i→p.ack i=false)∧2≤s.n∧0≤p.ref∧p.ref≤k
theorem QmI {l:Qv}{s:Nd}{p:Pp}(s0:0≤s.self)(s1:s.self<12):Qav (QbO s p) (QdJ l s p)=decide (QdU s.n≤1):=by
 show decide (QdU s.n≤(QnU (upN (fun _=>false) s.self.toNat true):Int))=_
 rw[Qou (by omega)];rfl
theorem WO.up {l:Qv}{X Y:List Qz}{s:Nd}{c:Option Pp}{k j:Nat}(h:WO l X s c k)(hk:k≤j)(hs:∀x∈X,x∈Y):WO l Y s c j:=by
 have h1:=h.num1
 refine⟨h.n1,h.n2,h.s0,h.s1,h.acc.up hs,h.lrn.up hs,h.wt.up hs,h.num0,by omega,fun p hp=>?_⟩;obtain⟨a,b,d,e,f,g⟩:=h.p p hp;exact⟨a.up hs,b.up hs,d,e,f,by omega⟩
section
variable {l:Qv}(hO:Yv l){X:List Qz}(hX:Giv l X){s:Nd}{k:Nat}
include hO hX
theorem Qmu {c:Option Pp}(h:WO l X s c k):WO l X (Qd5 l s).1.1 (Qd5 l s).1.2 (k+1):=by
 have hv:W3 l X (Qs l s.acc s.wt):=h.acc.join hO hX h.wt
 have h0:=h.s0;have h1:=h.s1;have h2:=h.n2;have h3:=h.num0;have h4:=h.num1
 have hq:Qav (Jv l s) (Ju l s)=decide (QdU s.n≤1):=QmI (s:={ s with wt:=Qy l }) h0 (by show s.self<12;omega)
 unfold Qd5
 cases hb:Qav (Jv l s) (Ju l s) with
 |true=>
  rw[if_pos rfl];refine⟨h.n1,h.n2,h.s0,h.s1,hv,?_,W3.bot,?_,?_,fun p hp=>by cases hp⟩
  ·show W3 l X (if QE l s.lrn (Qs l s.acc s.wt) then Qs l s.acc s.wt else s.lrn)
   split
   ·exact hv
   exact h.lrn
  ·show 0≤s.num+1;omega
  show s.num+1≤((k+1:Nat):Int);omega
 |false=>
  rw[if_neg (by decide)];refine⟨h.n1,h.n2,h.s0,h.s1,hv,h.lrn,W3.bot,?_,?_,fun p hp=>?_⟩
  ·show 0≤s.num+1;omega
  ·show s.num+1≤((k+1:Nat):Int);omega
  cases hp
  refine⟨hv,W3.bot,fun i hi=>?_,?_,Int.le_refl _,by show(0:Int)≤((k+1:Nat):Int);omega⟩
  ·show upN (fun _=>false) s.self.toNat true i=false
   have hi:s.n.toNat≤i:=hi
   rw[upN,if_neg (by omega)]
  rw[hb] at hq
  have h5:¬QdU s.n≤1:=by simpa using hq.symm
  show 2≤s.n
  have:=h.n1
  unfold QdU at h5
  omega
theorem QlU {c:Option Pp}(h:WO l X s c k):WO l X (Qf1 l s).1.1 (Qf1 l s).1.2 (k+1):=by
 unfold Qf1
 cases eqV s.wt (Qy l) with
 |true=>rw[if_pos rfl];exact { (h.up (Nat.le_succ k) fun _ h=>h) with p:=fun p hp=>by cases hp }
 |false=>rw[if_neg (by decide)];exact Qmu hO hX h
omit hO hX in
theorem QrD {p:Pp}(h:WO l X s (some p) k):WO l X (Xv l s p) (some p) k:=by
 refine { h with lrn:=?_ }
 show W3 l X (if QE l s.lrn p.v then p.v else s.lrn)
 split
 ·exact(h.p p rfl).1
 exact h.lrn
omit hO hX in
theorem Qlx {c:Option Pp}{m:Kb}(h:WO l X s c k)(hm:W3 l X m.v):WO l X (Jh l s m) c k:=by
 refine { h with lrn:=?_ }
 show W3 l X (if QE l s.lrn m.v then m.v else s.lrn)
 split
 ·exact hm
 exact h.lrn
theorem Qju {c:Option Pp}{v:Qz}(h:WO l X s c k)(hv:Xr l v=true→W3 l X v):WO l X (QB l s c v).1.1.1 (QB l s c v).1.1.2 (k+1):=by
 unfold QB
 cases hb:Xr l v with
 |false=>rw[if_pos rfl];exact h.up (Nat.le_succ k) fun _ h=>h
 |true=>
  rw[if_neg (by decide)]
  have hw:W3 l X (Qs l s.wt v):=h.wt.join hO hX (hv hb)
  cases c with
  |some p=>exact { (h.up (Nat.le_succ k) fun _ h=>h) with wt:=hw }
  |none=>exact Qmu hO hX (s:={ s with wt:=Qs l s.wt v }) (c:=none) { h with wt:=hw }
theorem Qle {c:Option Pp}{m:Kb}(h:WO l X s c k)(hm:Wy l s m=0→m.k≠2→W3 l X m.v):WO l X (Jd l s c m).1.1.1 (Jd l s c m).1.1.2 (k+1):=by
 have hu:=h.up (Nat.le_succ k) (fun _ h=>h)
 unfold Jd
 by_cases hok:Wy l s m=0
 ·rw[if_neg (fun hn=>hn hok)]
  by_cases k1:m.k=1
  ·rw[if_pos k1]
   exact { hu with acc:=h.acc.join hO hX (hm hok (by omega)) }
  rw[if_neg k1]
  cases c with
  |none=>
   show WO l X (if m.k=4 then Jh l s m else s) none (k+1)
   by_cases k4:m.k=4
   ·rw[if_pos k4];exact Qlx hu (hm hok (by omega))
   rw[if_neg k4];exact hu
  |some p=>
   obtain⟨pv,pg,pa,p2,r0,r1⟩:=h.p p rfl
   show WO l X (if m.k=4 then(Qa6 l (Jh l s m) p,(0:Int)) else if ¬m.n=s.num then(((s,some p),[]),0) else if m.k=2 then(Qb2 l s { p with ack:=upN p.ack m.f.toNat true },0) else(((s,some { p with g:=Qs l p.g m.v }),[]),0)).1.1.1 (if m.k=4 then(Qa6 l (Jh l s m) p,(0:Int)) else if ¬m.n=s.num then(((s,some p),[]),0) else if m.k=2 then(Qb2 l s { p with ack:=upN p.ack m.f.toNat true },0) else(((s,some { p with g:=Qs l p.g m.v }),[]),0)).1.1.2 (k+1)
   by_cases k4:m.k=4
   ·rw[if_pos k4]
    have hl:=Qlx h (hm hok (by omega))
    show WO l X (Qa6 l (Jh l s m) p).1.1 (Qa6 l (Jh l s m) p).1.2 (k+1)
    unfold Qa6
    cases QE l p.v (Jh l s m).lrn with
    |true=>rw[if_pos rfl];exact QlU hO hX hl
    |false=>rw[if_neg (by decide)];exact hl.up (Nat.le_succ k) fun _ h=>h
   rw[if_neg k4]
   by_cases kn:m.n=s.num
   ·rw[if_neg (fun hn=>hn kn)]
    by_cases k2:m.k=2
    ·rw[if_pos k2]
     have hr:=Qay hok
     have hp2:WO l X s (some { p with ack:=upN p.ack m.f.toNat true }) k:=by
      refine⟨h.n1,h.n2,h.s0,h.s1,h.acc,h.lrn,h.wt,h.num0,h.num1,fun q hq=>?_⟩
      cases hq
      refine⟨pv,pg,fun i hi=>?_,p2,r0,r1⟩
      show upN p.ack m.f.toNat true i=false
      rw[upN,if_neg (by omega)];exact pa i hi
     show WO l X (Qb2 l s { p with ack:=upN p.ack m.f.toNat true }).1.1 (Qb2 l s { p with ack:=upN p.ack m.f.toNat true }).1.2 (k+1)
     unfold Qb2
     cases Qav s { p with ack:=upN p.ack m.f.toNat true } with
     |true=>rw[if_pos rfl];exact QlU hO hX (QrD hp2)
     |false=>rw[if_neg (by decide)];exact hp2.up (Nat.le_succ k) fun _ h=>h
    rw[if_neg k2];refine⟨h.n1,h.n2,h.s0,h.s1,h.acc,h.lrn,h.wt,hu.num0,hu.num1,fun q hq=>?_⟩
    cases hq
    exact⟨pv,pg.join hO hX (hm hok k2),pa,p2,r0,by show p.ref≤((k+1:Nat):Int);omega⟩
   rw[if_pos kn];exact hu
 rw[if_pos hok];exact hu
theorem Qrf {c:Option Pp}(h:WO l X s c k):WO l X (Yo l s c).1.1 (Yo l s c).1.2 (k+1):=by
 have hu:=h.up (Nat.le_succ k) (fun _ h=>h)
 cases c with
 |none=>exact hu
 |some p=>
  obtain⟨pv,pg,pa,p2,r0,r1⟩:=h.p p rfl
  unfold Yo
  dsimp only
  cases QE l p.g p.v with
  |true=>rw[if_pos rfl];exact hu
  |false=>
   rw[if_neg (by decide)]
   have hv:W3 l X (Qs l (Qs l p.v p.g) s.acc):=(pv.join hO hX pg).join hO hX h.acc
   have h3:=h.num0;have h4:=h.num1;have h0:=h.s0;have h1:=h.s1
   refine⟨h.n1,h.n2,h.s0,h.s1,hv,h.lrn,h.wt,?_,?_,fun q hq=>?_⟩
   ·show 0≤s.num+1;omega
   ·show s.num+1≤((k+1:Nat):Int);omega
   cases hq
   refine⟨hv,W3.bot,fun i hi=>?_,p2,?_,?_⟩
   ·show upN (fun _=>false) s.self.toNat true i=false
    have hi:s.n.toNat≤i:=hi
    rw[upN,if_neg (by omega)]
   ·show 0≤p.ref+1;omega
   show p.ref+1≤((k+1:Nat):Int);omega
end
theorem QmV {l:Qv}{v:Qz}(h:QA v l=true)(hs:Wu v 40=true):El l 40 v:=⟨h,Qln hs⟩
theorem Qjh {l:Qv}{v:Qz}(h:Xr l v=true):QA v l=true:=by
 unfold Xr at h
 simp at h
 exact h.2
theorem Qib {l:Qv}{s:Nd}(h2:2≤s.n)(s0:0≤s.self)(s1:s.self<12):Qd5 l s=((Jv l s,some (Ju l s)),J4 (Jv l s) (Ju l s) Jn):=by
 unfold Qd5
 rw[if_neg]
 rw[show Qav (Jv l s) (Ju l s)=false from QpA (s:={ s with wt:=Qy l }) h2 s0 s1];decide
theorem Qvh {l:Qv}{s:Nd}(h1:s.n=1)(s0:0≤s.self)(s1:s.self<12):Qav (Jv l s) (Ju l s)=true:=by
 have h:=QmI (s:={ s with wt:=Qy l }) (p:=QiP l s) (l:=l) s0 s1
 rw[show Qav (Jv l s) (Ju l s)=_ from h]
 show decide (QdU s.n≤1)=true
 rw[h1];rfl
theorem Qtf {l:Qv}{s:Nd}(h:Qav (Jv l s) (Ju l s)=true):Qd5 l s=((Xv l (Jv l s) (Ju l s),none),J4 (Jv l s) (Ju l s) Jn++Qa2 (Xv l (Jv l s) (Ju l s))):=if_pos h
theorem Qma {l:Qv}{s:Nd}(h:eqV s.wt (Qy l)=true):Qf1 l s=((s,none),[]):=if_pos h
theorem Qmo {l:Qv}{s:Nd}(h:eqV s.wt (Qy l)=false):Qf1 l s=Qd5 l s:=if_neg (by rw[h];decide)
open Go.RowKit Go.ChangeShapes Go.WideShapes Go.ChangeAt
section
variable {H:Type}{enc:TypeId×Value→H}{w:World}{base:Nat}{spare:Nat→Bool}{held:Bool}
end
end Go.Proofs.YtnkkokmmeplbgaaGreat
