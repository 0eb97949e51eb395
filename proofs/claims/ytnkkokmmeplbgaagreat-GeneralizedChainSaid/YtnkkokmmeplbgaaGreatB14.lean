/-
  Contracts: Join, JoinAll, Meet, Comparable, Maximal.
-/
import Derived.Test.YtnkkokmmeplbgaaGreatB10
import Derived.Test.YtnkkokmmeplbgaaGreatA4
import Derived.Test.YtnkkokmmeplbgaaGreatB11
import Derived.Test.YtnkkokmmeplbgaaGreatB1
namespace Go.Proofs.YtnkkokmmeplbgaaGreat
set_option maxRecDepth 100000
set_option maxHeartbeats 1000000
open Go.RowKit
theorem Qub {l:List En}{k:Nat}{x:En}(h:l[k]?=some x):((l.take k).map enC)++QT 2 1 (enC x)=((l.take (k+1)).map enC):=by
 rw[QrZ,List.take_add_one,h];simp
theorem cgE {tt:TypeId}{a b d:AV}{es es':List (List AV)}{tk:Option Nat}(h:es=es'):some (Qj.var tt [a,b,d,.sl es tk])=some (Qj.var tt [a,b,d,.sl es' tk]):=by rw[h]
theorem Qrs (v:Qz)(h1:v.nm.length≤1000000)(h2:v.ps.length≤1000000)(h3:v.es.length≤1000000)(h4:∀e∈v.es,e.1.length≤64)(ih:∀p∈v.ps,FC Tryz.prog 160 [.agg (QO p)] (.agg (QO p))):FC Tryz.prog 160 [.agg (QO v)] (.agg (QO v)):=by
 refine Km [.c 2 30 4 true] ⟨⟨inferInstance,rfl⟩,trivial⟩ Tryz.func160 rfl rfl 49 Tryz.ntmps160 (Nat.le_of_ble_eq_true rfl) ?_
 intro E hN;refine XL ?_;refine QeA [0,1,2,3,4,5] 6 [7] rfl (by kernel_rfl) (by kernel_rfl) ?_;refine QK ?_;refine zp (Qd (QnK v.nm h1) rfl rfl rfl) ?_;refine zp (QaS rfl rfl rfl) ?_;change FK _ _ _ _ _ _;refine Qkz hN rfl rfl rfl rfl rfl rfl rfl ?_;change Q3 _ _ _ _ _ _;refine X5 ?_;refine QC (Kx rfl 2 2 30 4 rfl rfl rfl) ?_
 refine Qq (fun x:{k:Nat // k≤(v.ps).length∧True}=>⟨[(1,.ptr 0 0),(2,.ptr 1 0),(3,.ptr 2 0),(15,Ki v.ps),(16,i64 v.ps.length),(17,i64 (x.1:Nat))],[(0,.var 30 (QO v)),(1,.var 30 [i64 0,.p (.slice none 0 0),.p (.slice none 0 0),.p (.slice none 0 0)]),(2,.var 30 [i64 v.N,Jz v.nm,.sl ((v.ps.take x.1).map Ym) (some 3),.p (.slice none 0 0)]),(3,.tok 30 4 ((v.ps.take x.1).map Ym).length)],4⟩) (fun x=>(v.ps).length-x.1) (⟨0,Nat.zero_le _,by simp⟩) ?_ ?_
 ·exact Qa rfl (Ks ⟨(Y5 (by simp)),rfl,(X2 trivial)⟩) ⟨rfl,rfl,rfl,rfl,rfl,rfl,rfl,rfl,rfl,rfl,rfl,rfl,trivial⟩
 rintro⟨k,hk,hg⟩;dsimp only;refine QL ?_
 refine zq ?_ ?_<;>intro h21
 ·have hlt:k<(v.ps).length:=by simpa using h21
  obtain⟨x,hx⟩:=Qw hlt;refine QL ?_;refine zP (Qh rfl rfl rfl k rfl _ (Q8 hx) rfl) ?_;refine QK ?_;refine zD 5 ?_;refine QI ?_;refine zp (Qd (ih x (List.mem_of_getElem? hx)) rfl rfl rfl) ?_;refine zp (Q0 rfl rfl rfl rfl (by exact rfl) (by decide) (by decide)) ?_;refine Xp hN rfl rfl rfl (by simp) rfl rfl (QN XS _) rfl (by simp[Yk];omega) rfl rfl rfl rfl ?_;refine XL ?_;refine Qc ?_
  exact⟨⟨k+1,hlt,trivial⟩,Qa rfl (Ks (X2 ⟨JC,rfl,trivial⟩)) ⟨rfl,rfl,rfl,rfl,rfl,rfl,(cgV (QoO hx)),rfl,rfl,(cgT (by simp[Yk];omega)),rfl,rfl,trivial⟩,by dsimp only;omega⟩
 have hge:(v.ps).length≤k:=by simpa using h21
 rw[List.take_of_length_le hge];refine XR ?_;refine QC (Kx rfl 2 3 149 2 rfl rfl rfl) ?_
 refine Qq (fun x:{k:Nat // k≤(v.es).length∧True}=>⟨[(2,.ptr 1 0),(3,.ptr 2 0),(30,ens v.es),(31,i64 v.es.length),(32,i64 (x.1:Nat))],[(1,.var 30 [i64 0,.p (.slice none 0 0),.p (.slice none 0 0),.p (.slice none 0 0)]),(2,.var 30 [i64 v.N,Jz v.nm,.sl (v.ps.map Ym) (some 3),.sl ((v.es.take x.1).map enC) (some 4)]),(4,.tok 149 2 ((v.es.take x.1).map enC).length)],5⟩) (fun x=>(v.es).length-x.1) (⟨0,Nat.zero_le _,by simp⟩) ?_ ?_
 ·exact Qa rfl (YG ⟨(Y5 (by simp)),rfl,(X2 trivial)⟩) ⟨rfl,rfl,rfl,rfl,rfl,rfl,rfl,rfl,rfl,trivial⟩
 rintro⟨k,hk,hg⟩;dsimp only;refine QL ?_
 refine zq ?_ ?_<;>intro h43
 rotate_left
 ·have hge:(v.es).length≤k:=by simpa using h43
  rw[List.take_of_length_le hge];refine XL ?_;refine Qu ?_;change (resY _ _).bind AV.fzt=some _;refine Yl rfl ?_
  rfl
 have hlt:k<(v.es).length:=by simpa using h43
 obtain⟨x,hx⟩:=Qw hlt;refine QL ?_;refine zP (Qh rfl rfl rfl k rfl _ (Qt hx) rfl) ?_;refine QK ?_;refine zD 9 ?_;refine QK ?_;refine zp (Qd (QnZ x.1 (by have:=h4 x (List.mem_of_getElem? hx);omega)) rfl rfl rfl) ?_;refine QR ?_;refine zp (QaS rfl rfl rfl) ?_;refine zp (Q0 rfl rfl rfl rfl (by exact rfl) (by decide) (by decide)) ?_;refine Xp hN rfl rfl rfl (by simp) rfl rfl (QN Qoc _) rfl (by simp[Xm];omega) rfl rfl rfl rfl ?_;refine XL ?_;refine Qc ?_
 exact⟨⟨k+1,hlt,trivial⟩,Qa rfl (Ks ⟨JC,rfl,trivial⟩) ⟨rfl,rfl,rfl,(cgE (Qub hx)),rfl,rfl,(cgT (by simp[Xm];omega)),rfl,rfl,trivial⟩,by dsimp only;omega⟩
theorem Qjq (v:Qz)(h:SmV 1000000 v):FC Tryz.prog 160 [.agg (QO v)] (.agg (QO v)):=Qrs v h.nm h.ps h.es h.en (fun p hp=>Qjq p (h.part p hp))
termination_by v
decreasing_by exact Qz.sizeOf_ps ‹_›
inductive JoL:Qv→Prop
 |mk (l:Qv) (h:l.k=10→∀s,QF s=true→(∀x∈s,x∈l.nm)→FC Tryz.prog 195 [Jz l.nm,rus l.rs,Jz s] (.tup [Jz (Qae l.nm l.rs s),i64 0])) (hp:∀p∈l.ps,JoL p):JoL l
theorem JoL.close {l:Qv}(h:JoL l):l.k=10→∀s,QF s=true→(∀x∈s,x∈l.nm)→FC Tryz.prog 195 [Jz l.nm,rus l.rs,Jz s] (.tup [Jz (Qae l.nm l.rs s),i64 0]):=by cases h;assumption
theorem JoL.part {l:Qv}(h:JoL l):∀p∈l.ps,JoL p:=by cases h;assumption
theorem Qqt {l:Qv}(hO:Yv l)(hk:l.k=10):l.nm≠[]:=by
 have h:=hO.shape
 unfold XB at h
 rw[if_pos (by rw[hk];decide)] at h;intro e;rw[show YS l=true by unfold YS;rw[hk,e];rfl,Bool.or_true] at h
 simp[Yi] at h
theorem Qdi {l:Qv}{v:Qz}(hO:Yv l)(hk:l.k=10)(hv:QA v l=true):∀s∈v.nm,s∈l.nm:=fun s hs=>by
 obtain⟨-,-,-,-,h,-⟩:=Ws hv (.inr hk)
 have h1:=h s hs
 have h2:((l.nm.length:Int) > 0):=by
  have:=List.length_pos_iff.2 (Qqt hO hk)
  omega
 simp only[YR,h2,decide_true,Bool.true_and,Bool.and_eq_true,Bool.not_eq_true',Bool.not_eq_false'] at h1
 exact Y2.1 (by simpa using h1.2)
theorem Ko {l:Qv}{a b:Qz}(h4:l.k≠4)(h10:l.k≠10)(h9:l.k≠9)(h5:l.k≠5)(h6:l.k≠6)(hx:l.k=7→QbS l.ps a.ps b.ps=none):
  Qs l a b=if QE l a b then b else if QE l b a then a else .mk 2 [] [] []:=by
 rw[JN]
 simp only[beq_eq_false_iff_ne.2 h4,beq_eq_false_iff_ne.2 h10,beq_eq_false_iff_ne.2 h9,beq_eq_false_iff_ne.2 h5,beq_eq_false_iff_ne.2 h6,Bool.false_eq_true,if_false]
 by_cases h7:l.k=7
 ·rw[if_pos (beq_iff_eq.2 h7),hx h7]
 rw[if_neg (by simpa using h7)]
section
variable {a b:Qz}{q:Qv}{x:Nm}
theorem Qf6 {v:Qz}(hl:v.nm.length=v.ps.length)(h:decide (XN x v.nm 0<0)=false):∃(i:Nat) (y:Qz),XN x v.nm 0=(i:Int)∧v.ps[i]?=some y∧YB v x=some y:=by
 rcases Qex x v.nm 0 with h1|⟨j,-,h2,h3⟩
 ·rw[h1] at h;cases h
 obtain⟨y,hy⟩:=Qw (show j<v.ps.length by omega);exact⟨j,y,h3,hy,Qec h3 hy⟩
theorem jc_b (hm:x∈a.nm∨x∈b.nm)(h:decide (XN x a.nm 0<0)=true)(lb:b.nm.length=b.ps.length):∃(j:Nat) (y:Qz),XN x b.nm 0=(j:Int)∧b.ps[j]?=some y∧Yx q a b x=y:=by
 have h0:=of_decide_eq_true h
 have hb:x∈b.nm:=by
  rcases hm with hm|hm
  ·have:=Qer x a.nm 0
   rw[Y2.2 hm] at this
   have:=of_decide_eq_true this
   omega
  exact hm
 have h1:decide (XN x b.nm 0<0)=false:=by
  have:=Qer x b.nm 0
  rw[Y2.2 hb] at this
  have:=of_decide_eq_true this
  exact decide_eq_false (by omega)
 obtain⟨j,y,g1,g2,g3⟩:=Qf6 lb h1;exact⟨j,y,g1,g2,QxF (Qcg h0) g3⟩
theorem jc_a (h1:decide (XN x a.nm 0<0)=false)(h2:decide (XN x b.nm 0<0)=true)(la:a.nm.length=a.ps.length):∃(j:Nat) (y:Qz),XN x a.nm 0=(j:Int)∧a.ps[j]?=some y∧Yx q a b x=y:=by
 obtain⟨j,y,g1,g2,g3⟩:=Qf6 la h1;exact⟨j,y,g1,g2,QxV g3 (Qcg (of_decide_eq_true h2))⟩
theorem jc_2 (h1:decide (XN x a.nm 0<0)=false)(h2:decide (XN x b.nm 0<0)=false)(la:a.nm.length=a.ps.length)(lb:b.nm.length=b.ps.length):
  ∃(i:Nat) (x1:Qz) (j:Nat) (y:Qz),XN x a.nm 0=(i:Int)∧a.ps[i]?=some x1∧XN x b.nm 0=(j:Int)∧b.ps[j]?=some y∧Yx q a b x=Qs q x1 y:=by
 obtain⟨i,x1,g1,g2,g3⟩:=Qf6 la h1;obtain⟨j,y,k1,k2,k3⟩:=Qf6 lb h2;exact⟨i,x1,j,y,g1,g2,k1,k2,Qya g3 k3⟩
end
theorem QwI (l:Qv)(hO:Yv l)(hJ:JoL l)(ih:∀q∈l.ps,∀x y,QA x q=true→QA y q=true→SmV 500000 x→SmV 500000 y→FC Tryz.prog 159 [.agg (Q7 q),.agg (QO x),.agg (QO y)] (.agg (QO (Qs q x y))))(a b:Qz)(ha:QA a l=true)(hb:QA b l=true)(sa:SmV 500000 a)(sb:SmV 500000 b):FC Tryz.prog 159 [.agg (Q7 l),.agg (QO a),.agg (QO b)] (.agg (QO (Qs l a b))):=by
 have na:=sa.nm
 have nb:=sb.nm
 have nea:=sa.es
 have neb:=sb.es
 have npl:=hO.small
 refine Km [.c 6 30 4 true] ⟨⟨inferInstance,rfl⟩,trivial⟩ Tryz.func159 rfl rfl 195 Tryz.ntmps159 (Nat.le_of_ble_eq_true rfl) ?_
 intro E hN;refine QeV ?_
 refine zq ?_ ?_<;>intro h10
 ·have hk:l.k=4:=by simpa using h10
  obtain⟨-,-,-,hsa,-,-⟩:=Ws ha (.inl hk);obtain⟨-,-,-,hsb,-,-⟩:=Ws hb (.inl hk)
  have hE:Qs l a b=.mk 0 (uni a.nm b.nm) [] []:=by rw[JN,hk];rfl
  refine XL ?_;refine zP (Qd (QiA _ _ hsa hsb (by omega)) rfl rfl rfl) ?_;refine QI ?_;refine Qu ?_;change (resY _ _).bind AV.fzt=some _;refine Yl rfl ?_
  rw[hE];rfl
 have hk4:l.k≠4:=by simpa using h10
 refine QL ?_
 refine zq ?_ ?_<;>intro h18
 ·have hk:l.k=10:=by simpa using h18
  obtain⟨-,-,-,hsa,-,-⟩:=Ws ha (.inr hk);obtain⟨-,-,-,hsb,-,-⟩:=Ws hb (.inr hk)
  have hE:Qs l a b=.mk 0 (Qae l.nm l.rs (uni a.nm b.nm)) [] []:=by rw[JN,hk];rfl
  refine Yy ?_;refine zD 14 ?_;refine Jl ?_;refine zp (Qd (QiA _ _ hsa hsb (by omega)) rfl rfl rfl) ?_
  refine Xh hN (Qd (hJ.close hk _ (Qdb hsa hsb) (fun x hx=>by
     rcases(Qdq hsa hsb).1 hx with hx|hx
     ·exact Qdi hO hk ha x hx
     exact Qdi hO hk hb x hx)) rfl rfl rfl) rfl rfl rfl rfl ?_
  refine QI ?_;refine zp (JO rfl rfl) ?_;refine Jl ?_;refine Qu ?_;change (resY _ _).bind AV.fzt=some _;refine Yl rfl ?_
  rw[hE];rfl
 have hk10:l.k≠10:=by simpa using h18
 refine QL ?_
 refine zq ?_ ?_<;>intro h33
 ·have hk:l.k=9:=by simpa using h33
  have hE:Qs l a b=.mk 0 [] [] (Yc a.es b.es):=by rw[JN,hk];rfl
  refine XL ?_;refine zP (Qd (Qp5 _ _ (by omega)) rfl rfl rfl) ?_;refine QI ?_;refine Qu ?_;change (resY _ _).bind AV.fzt=some _;refine Yl rfl ?_
  rw[hE];rfl
 have hk9:l.k≠9:=by simpa using h33
 refine QL ?_
 refine zq ?_ ?_<;>intro h41
 ·have hk:l.k=5:=by simpa using h41
  obtain⟨q,hps⟩:=Qa1 hO hk
  have hq0:l.ps[0]?=some q:=by rw[hps];rfl
  obtain⟨-,-,hla,hsa,-,hea⟩:=WR ha hk hps;obtain⟨-,-,hlb,hsb,-,heb⟩:=WR hb hk hps
  have hul:=Qki hsa hsb
  have hE:Qs l a b=.mk 0 (uni a.nm b.nm) ((uni a.nm b.nm).map (Yx q a b)) []:=by rw[JN,hk,hps,QgF];rfl
  refine XR ?_;refine zP (Qd (QiA _ _ hsa hsb (by omega)) rfl rfl rfl) ?_;refine JF ?_;refine QC (Kx rfl 4 2 30 4 rfl rfl rfl) ?_
  refine Qq (fun x:{k:Nat // k≤(uni a.nm b.nm).length∧True}=>⟨[(3,.ptr 0 0),(4,.ptr 1 0),(5,.ptr 2 0),(6,.ptr 3 0),(9,.ptr 4 0),(61,Jz (uni a.nm b.nm)),(62,i64 (uni a.nm b.nm).length),(63,i64 (x.1:Nat))],[(0,.var 26 (Q7 l)),(1,.var 30 (QO a)),(2,.var 30 (QO b)),(3,.var 30 [i64 0,.p (.slice none 0 0),.p (.slice none 0 0),.p (.slice none 0 0)]),(4,.var 30 [i64 0,Jz (uni a.nm b.nm),.sl ((((uni a.nm b.nm).take x.1).map (Yx q a b)).map Ym) (some 5),.p (.slice none 0 0)]),(5,.tok 30 4 ((((uni a.nm b.nm).take x.1).map (Yx q a b)).map Ym).length)],6⟩) (fun x=>(uni a.nm b.nm).length-x.1) (⟨0,Nat.zero_le _,by simp⟩) ?_ ?_
  ·exact Qa rfl (Ks (Yw ⟨(Y5 (by simp)),rfl,(X2 trivial)⟩)) ⟨rfl,rfl,rfl,rfl,rfl,rfl,rfl,rfl,rfl,rfl,rfl,rfl,rfl,rfl,rfl,rfl,rfl,rfl,trivial⟩
  rintro⟨k,hk,hg⟩;dsimp only;refine QL ?_
  refine zq ?_ ?_<;>intro h61
  rotate_left
  ·have hge:(uni a.nm b.nm).length≤k:=by simpa using h61
   rw[List.take_of_length_le hge];refine XL ?_;refine Qu ?_;change (resY _ _).bind AV.fzt=some _;refine Yl rfl ?_
   rw[hE];rfl
  have hlt:k<(uni a.nm b.nm).length:=by simpa using h61
  obtain⟨x,hx⟩:=Qw hlt
  have hxm:=(Qdq hsa hsb).1 (List.mem_of_getElem? hx)
  refine QL ?_;refine zP (Qh rfl rfl rfl k rfl _ (Qt hx) rfl) ?_;refine QK ?_;refine zD 9 ?_;refine QI ?_;refine zp (Qd (Qfr _ _) rfl rfl rfl) ?_;refine QI ?_;refine zp (Qd (Qfr _ _) rfl rfl rfl) ?_;refine zp (JO rfl rfl) ?_;refine J6 ?_
  refine zq ?_ ?_<;>intro h70
  ·obtain⟨j,y,hj,hy,hF⟩:=jc_b (q:=q) hxm h70 hlb;refine zD 8 ?_;refine QL ?_;refine zp (Qh rfl rfl rfl j hj _ (Q8 hy) rfl) ?_;refine zl ?_;refine zp (Q0 rfl rfl rfl rfl (by exact rfl) (by decide) (by decide)) ?_;refine Xp hN rfl rfl rfl (by simp) rfl rfl (QN XS _) rfl (by simp[Yk];omega) rfl rfl rfl rfl ?_;refine XL ?_;refine Qc ?_
   exact⟨⟨k+1,hlt,trivial⟩,Qa rfl (Ks (YG ⟨JC,rfl,trivial⟩)) ⟨rfl,rfl,rfl,rfl,rfl,rfl,rfl,rfl,rfl,rfl,rfl,rfl,(cgV (Qk6 hx hF)),rfl,rfl,(cgT (by simp[Yk];omega)),rfl,rfl,trivial⟩,by dsimp only;omega⟩
  have h17:=h70
  refine XL ?_
  refine zq ?_ ?_<;>intro h82
  ·obtain⟨i,x1,hi,hx1,hF⟩:=jc_a (q:=q) h17 h82 hla;refine zD 8 ?_;refine QL ?_;refine zp (Qh rfl rfl rfl i hi _ (Q8 hx1) rfl) ?_;refine zl ?_;refine zp (Q0 rfl rfl rfl rfl (by exact rfl) (by decide) (by decide)) ?_;refine Xp hN rfl rfl rfl (by simp) rfl rfl (QN XS _) rfl (by simp[Yk];omega) rfl rfl rfl rfl ?_;refine XL ?_;refine Qc ?_
   exact⟨⟨k+1,hlt,trivial⟩,Qa rfl (Ks (YG ⟨JC,rfl,trivial⟩)) ⟨rfl,rfl,rfl,rfl,rfl,rfl,rfl,rfl,rfl,rfl,rfl,rfl,(cgV (Qk6 hx hF)),rfl,rfl,(cgT (by simp[Yk];omega)),rfl,rfl,trivial⟩,by dsimp only;omega⟩
  obtain⟨i,x1,j,y,hi,hx1,hj,hy,hF⟩:=jc_2 (q:=q) h17 h82 hla hlb;refine zD 18 ?_;refine QK ?_;refine zp (Qh rfl rfl rfl 0 rfl _ (X9 hq0) rfl) ?_;refine QK ?_;refine zp (Qh rfl rfl rfl i hi _ (Q8 hx1) rfl) ?_;refine QK ?_;refine zp (Qh rfl rfl rfl j hj _ (Q8 hy) rfl) ?_;refine zl ?_;refine zp (Qd (ih q (by rw[hps];simp) x1 y (hea x1 (List.mem_of_getElem? hx1)).1 (heb y (List.mem_of_getElem? hy)).1 (sa.part x1 (List.mem_of_getElem? hx1)) (sb.part y (List.mem_of_getElem? hy))) rfl rfl rfl) ?_
  refine zp (Q0 rfl rfl rfl rfl (by exact rfl) (by decide) (by decide)) ?_;refine Xp hN rfl rfl rfl (by simp) rfl rfl (QN XS _) rfl (by simp[Yk];omega) rfl rfl rfl rfl ?_;refine XL ?_;refine Qc ?_;exact⟨⟨k+1,hlt,trivial⟩,Qa rfl (Ks (YG ⟨JC,rfl,trivial⟩)) ⟨rfl,rfl,rfl,rfl,rfl,rfl,rfl,rfl,rfl,rfl,rfl,rfl,(cgV (Qk6 hx hF)),rfl,rfl,(cgT (by simp[Yk];omega)),rfl,rfl,trivial⟩,by dsimp only;omega⟩
 have hk5:l.k≠5:=by simpa using h41
 refine QL ?_
 refine zq ?_ ?_<;>intro h116
 ·have hk:l.k=6:=by simpa using h116
  obtain⟨-,-,-,hla,hza⟩:=YN ha (.inl hk);obtain⟨-,-,-,hlb,hzb⟩:=YN hb (.inl hk)
  have hjl:=Qj8 hla hlb
  have hE:Qs l a b=.mk 0 [] (Qa8 l.ps a.ps b.ps) []:=by rw[JN,hk];rfl
  refine Qbp ?_;refine QC (Kx rfl 4 2 30 4 rfl rfl rfl) ?_
  refine Qq (fun x:{k:Nat // k≤(l.ps).length∧True}=>⟨[(3,.ptr 0 0),(4,.ptr 1 0),(5,.ptr 2 0),(6,.ptr 3 0),(14,.ptr 4 0),(126,QiL l.ps),(127,i64 l.ps.length),(128,i64 (x.1:Nat))],[(0,.var 26 (Q7 l)),(1,.var 30 (QO a)),(2,.var 30 (QO b)),(3,.var 30 [i64 0,.p (.slice none 0 0),.p (.slice none 0 0),.p (.slice none 0 0)]),(4,.var 30 [i64 0,.p (.slice none 0 0),.sl (((Qa8 l.ps a.ps b.ps).take x.1).map Ym) (some 5),.p (.slice none 0 0)]),(5,.tok 30 4 (((Qa8 l.ps a.ps b.ps).take x.1).map Ym).length)],6⟩) (fun x=>(l.ps).length-x.1) (⟨0,Nat.zero_le _,by simp⟩) ?_ ?_
  ·exact Qa rfl (Ks (Yw ⟨(Y5 (by simp)),rfl,(X2 trivial)⟩)) ⟨rfl,rfl,rfl,rfl,rfl,rfl,rfl,rfl,rfl,rfl,rfl,rfl,rfl,rfl,rfl,rfl,rfl,rfl,trivial⟩
  rintro⟨k,hk,hg⟩;dsimp only;refine QL ?_
  refine zq ?_ ?_<;>intro h129
  rotate_left
  ·have hge:(l.ps).length≤k:=by simpa using h129
   rw[List.take_of_length_le (by rw[hjl];exact hge)];refine XL ?_;refine Qu ?_;change (resY _ _).bind AV.fzt=some _;refine Yl rfl ?_
   rw[hE];rfl
  have hlt:k<l.ps.length:=by simpa using h129
  obtain⟨q,hq⟩:=Qw hlt;obtain⟨x,hx⟩:=Qw (show k<a.ps.length by omega);obtain⟨y,hy⟩:=Qw (show k<b.ps.length by omega);refine XL ?_;refine zP (Qh rfl rfl rfl k rfl _ (X9 hq) rfl) ?_;refine QL ?_;refine zD 15 ?_;refine XL ?_;refine zp (Qh rfl rfl rfl k rfl _ (Q8 hx) rfl) ?_;refine QK ?_;refine zp (Qh rfl rfl rfl k rfl _ (Q8 hy) rfl) ?_;refine zl ?_;refine zp (Qd (ih q (List.mem_of_getElem? hq) x y (Jo hza hx hq) (Jo hzb hy hq) (sa.part x (List.mem_of_getElem? hx)) (sb.part y (List.mem_of_getElem? hy))) rfl rfl rfl) ?_
  refine zp (Q0 rfl rfl rfl rfl (by exact rfl) (by decide) (by decide)) ?_;refine Xp hN rfl rfl rfl (by simp) rfl rfl (QN XS _) rfl (by simp[Yk];omega) rfl rfl rfl rfl ?_;refine XL ?_;refine Qc ?_;exact⟨⟨k+1,hlt,trivial⟩,Qa rfl (Ks (YG ⟨JC,rfl,trivial⟩)) ⟨rfl,rfl,rfl,rfl,rfl,rfl,rfl,rfl,rfl,rfl,rfl,rfl,(cgV (QoO (QkD hq hx hy))),rfl,rfl,(cgT (by simp[Yk];omega)),rfl,rfl,trivial⟩,by dsimp only;omega⟩
 have hk6:l.k≠6:=by simpa using h116
 refine QL ?_
 refine zq ?_ ?_<;>intro h153
 rotate_left
 ·have hx:l.k=7→QbS l.ps a.ps b.ps=none:=fun e=>absurd e (by simpa using h153)
  refine Jl ?_;refine zP (Qd (Qgw l hO a b ha hb) rfl rfl rfl) ?_;refine zT ?_
  refine zq ?_ ?_<;>intro h200
  ·have h34:=h200
   refine QL ?_;refine Qu ?_;change (resY _ _).bind AV.fzt=some _;refine Yl rfl ?_;rw[Ko hk4 hk10 hk9 hk5 hk6 hx,if_pos h34]
  have h34:=h200
  refine QL ?_;refine zP (Qd (Qgw l hO b a hb ha) rfl rfl rfl) ?_;refine zT ?_
  refine zq ?_ ?_<;>intro h206
  ·have h36:=h206
   refine QL ?_;refine Qu ?_;change (resY _ _).bind AV.fzt=some _;refine Yl rfl ?_;rw[Ko hk4 hk10 hk9 hk5 hk6 hx,if_neg (by rw[h34];decide),if_pos h36]
  have h36:=h206
  refine XL ?_;refine Qu ?_;change (resY _ _).bind AV.fzt=some _;refine Yl rfl ?_
  rw[Ko hk4 hk10 hk9 hk5 hk6 hx,if_neg (by rw[h34];decide),if_neg (by rw[h36];decide)];rfl
 have hk:l.k=7:=by simpa using h153
 obtain⟨q1,q2,hps⟩:=Wz hO.shape hk;obtain⟨x1,x2,hpa,hx1,hx2⟩:=Kc ha hk hps;obtain⟨y1,y2,hpb,hy1,hy2⟩:=Kc hb hk hps
 have hq2':l.ps[1]?=some q2:=by rw[hps];rfl
 have hx1':a.ps[0]?=some x1:=by rw[hpa];rfl
 have hx2':a.ps[1]?=some x2:=by rw[hpa];rfl
 have hy1':b.ps[0]?=some y1:=by rw[hpb];rfl
 have hy2':b.ps[1]?=some y2:=by rw[hpb];rfl
 refine Yy ?_;refine zD 8 ?_;refine QR ?_;refine zp (Qh rfl rfl rfl 0 rfl _ (Q8 hx1') rfl) ?_;refine QI ?_;refine zp (Qh rfl rfl rfl 0 rfl _ (Q8 hy1') rfl) ?_;refine zl ?_;refine zP (Qd (Qgo _ _) rfl rfl rfl) ?_;refine zN ?_
 refine zq ?_ ?_<;>intro h162
 ·have hE:Qs l a b=.mk 0 [] [x1,Qs q2 x2 y2] []:=by rw[JN,hk,hps,hpa,hpb];simp[QbS,h162]
  refine Yy ?_;refine zD 19 ?_;refine QR ?_;refine zp (Qh rfl rfl rfl 0 rfl _ (Q8 hx1') rfl) ?_;refine QI ?_;refine zp (Qh rfl rfl rfl 1 rfl _ (X9 hq2') rfl) ?_;refine QI ?_;refine zp (Qh rfl rfl rfl 1 rfl _ (Q8 hx2') rfl) ?_;refine QI ?_;refine zp (Qh rfl rfl rfl 1 rfl _ (Q8 hy2') rfl) ?_;refine zl ?_;refine zp (Qd (ih q2 (by rw[hps];simp) x2 y2 hx2 hy2 (sa.part x2 (by rw[hpa];simp)) (sb.part y2 (by rw[hpb];simp))) rfl rfl rfl) ?_;refine zp (XH rfl rfl rfl rfl (by exact rfl) (by decide) (by decide) (Qcp _ _)) ?_
  refine zp (QaS rfl rfl rfl) ?_;refine QR ?_;refine Qu ?_;change (resY _ _).bind AV.fzt=some _;refine Yl rfl ?_
  rw[hE];rfl
 have hx:l.k=7→QbS l.ps a.ps b.ps=none:=fun _=>by rw[hps,hpa,hpb,QbS,h162];rfl
 refine Jl ?_;refine zP (Qd (Qgw l hO a b ha hb) rfl rfl rfl) ?_;refine zT ?_
 refine zq ?_ ?_<;>intro h186
 ·have h34:=h186
  refine QL ?_;refine Qu ?_;change (resY _ _).bind AV.fzt=some _;refine Yl rfl ?_;rw[Ko hk4 hk10 hk9 hk5 hk6 hx,if_pos h34]
 have h34:=h186
 refine QL ?_;refine zP (Qd (Qgw l hO b a hb ha) rfl rfl rfl) ?_;refine zT ?_
 refine zq ?_ ?_<;>intro h192
 ·have h36:=h192
  refine QL ?_;refine Qu ?_;change (resY _ _).bind AV.fzt=some _;refine Yl rfl ?_;rw[Ko hk4 hk10 hk9 hk5 hk6 hx,if_neg (by rw[h34];decide),if_pos h36]
 have h36:=h192
 refine XL ?_;refine Qu ?_;change (resY _ _).bind AV.fzt=some _;refine Yl rfl ?_
 rw[Ko hk4 hk10 hk9 hk5 hk6 hx,if_neg (by rw[h34];decide),if_neg (by rw[h36];decide)];rfl
theorem QoJ (l:Qv)(hO:Yv l)(hJ:JoL l)(a b:Qz)(ha:QA a l=true)(hb:QA b l=true)(sa:SmV 500000 a)(sb:SmV 500000 b):FC Tryz.prog 159 [.agg (Q7 l),.agg (QO a),.agg (QO b)] (.agg (QO (Qs l a b))):=QwI l hO hJ (fun q hq x y hx hy sx sy=>QoJ q (hO.part q hq) (hJ.part q hq) x y hx hy sx sy) a b ha hb sa sb
termination_by l
decreasing_by exact Qv.sizeOf_ps ‹_›
end Go.Proofs.YtnkkokmmeplbgaaGreat
namespace Go.Proofs.YtnkkokmmeplbgaaGreat
open Go.RowKit
section
variable {q:Qv}{b:Qz}{x:Nm}{p y:Qz}
end
def YZ (l:Qv)(vs:List Qz):Qz:=vs.foldl (Qs l) (Qy l)
theorem Qny {l:Qv}{vs:List Qz}{k:Nat}{x:Qz}(h:vs[k]?=some x):YZ l (vs.take (k+1))=Qs l (YZ l (vs.take k)) x:=by
 unfold YZ;rw[List.take_add_one,h];simp
def Qcx (l:Qv)(vs:List Qz):Qz×Int:=if JP l vs=0 then(YZ l vs,0) else(Qz.zero,JP l vs)
def Qrv (l:Qv)(vs:List Qz):Prop:=JoL l∧(∀v∈vs,SmV 500000 v)∧∀k,k≤vs.length→QA (YZ l (vs.take k)) l=true∧SmV 500000 (YZ l (vs.take k))
def QiN (l:Qv)(a b:Qz):Bool:=JP l [a,b]==0&&(QE l a b||QE l b a)
theorem Qv5 {tt:TypeId}{v w:Qz}(h:v=w):some (Qj.var tt (QO v))=some (Qj.var tt (QO w)):=by rw[h]
inductive ChL:Qv→Prop
 |mk (l:Qv) (h:QJ l=0) (hp:∀p∈l.ps,ChL p):ChL l
theorem ChL.ok {l:Qv}(h:ChL l):QJ l=0:=by cases h;assumption
theorem ChL.part {l:Qv}(h:ChL l):∀p∈l.ps,ChL p:=by cases h;assumption
end Go.Proofs.YtnkkokmmeplbgaaGreat
namespace Go.Proofs.YtnkkokmmeplbgaaGreat
set_option maxRecDepth 100000
set_option maxHeartbeats 1000000
open Go.RowKit
theorem Qoe (l:Qv)(vs:List Qz)(hF:JP l vs=0→Qrv l vs):FC Tryz.prog 127 [.agg (Q7 l),Ki vs] (.tup [.agg (QO (Qcx l vs).1),i64 (Qcx l vs).2]):=by
 refine Km [.c 4 30 4 true,.t 5] ⟨⟨inferInstance,rfl⟩,trivial⟩ Tryz.func127 rfl rfl 32 Tryz.ntmps127 (Nat.le_of_ble_eq_true rfl) ?_
 intro E hN;refine X5 ?_;refine zP (Qd (QjM l vs) rfl rfl rfl) ?_;refine Xy ?_
 refine zq ?_ ?_<;>intro h7
 ·have h2:¬JP l vs=0:=by simpa using h7
  refine Xy ?_;refine Qu ?_;change (resY _ _).bind AV.fzt=some _;refine Yl rfl ?_
  rw[Qcx,if_neg h2];rfl
 have h2:JP l vs=0:=by simpa using h7
 have hc:=Qgh h2
 have hbt:(Qcf l).1=Qy l:=by rw[Qcf,if_pos hc.1]
 refine QK ?_;refine zP (Qd (QsN l) rfl rfl rfl) ?_;refine X5 ?_;refine Qq (fun x:{k:Nat // k≤(vs).length∧True}=>⟨[(2,.ptr 0 0),(4,.ptr 1 0),(7,.ptr 2 0),(19,Ki vs),(20,i64 vs.length),(21,i64 (x.1:Nat))],[(0,.var 26 (Q7 l)),(1,.var 30 [i64 0,.p (.slice none 0 0),.p (.slice none 0 0),.p (.slice none 0 0)]),(2,.var 30 (QO (YZ l (vs.take x.1))))],3⟩) (fun x=>(vs).length-x.1) (⟨0,Nat.zero_le _,by simp⟩) ?_ ?_
 ·exact Qa rfl (Ks ⟨(Y5 (by simp)),rfl,(X2 trivial)⟩) ⟨rfl,rfl,rfl,rfl,rfl,rfl,(Qv5 (by rw[hbt];rfl)),rfl,rfl,trivial⟩
 rintro⟨k,hk,hg⟩;dsimp only;refine Jq 19 rfl (fun hl19=>?_);refine QL ?_
 refine zq ?_ ?_<;>intro h21
 rotate_left
 ·have hge:(vs).length≤k:=by simpa using h21
  rw[List.take_of_length_le hge];refine QK ?_;refine zP (Qd (Qjq (YZ l vs) (by have:=((hF h2).2.2 vs.length (Nat.le_refl _)).2;rw[List.take_length] at this;exact this.up (by decide))) rfl rfl rfl) ?_;refine QI ?_;refine Qu ?_;change (resY _ _).bind AV.fzt=some _;refine Yl rfl ?_;rw[Qcx,if_pos h2]
 have hlt:k<(vs).length:=by simpa using h21
 obtain⟨x,hx⟩:=Qw hlt;refine QL ?_;refine zP (Qh rfl rfl rfl k rfl _ (Q8 hx) rfl) ?_;refine Jl ?_;refine zP (Qd (QoJ l (Q9 hc.1) (hF h2).1 (YZ l (vs.take k)) x ((hF h2).2.2 k hk).1 (hc.2 x (List.mem_of_getElem? hx)) ((hF h2).2.2 k hk).2 ((hF h2).2.1 x (List.mem_of_getElem? hx))) rfl rfl rfl) ?_;refine QL ?_;refine Qc ?_;exact⟨⟨k+1,hlt,trivial⟩,Qa rfl (Ks (X2 ⟨JC,rfl,trivial⟩)) ⟨rfl,rfl,rfl,rfl,rfl,rfl,(Qv5 (Qny hx).symm),rfl,rfl,trivial⟩,by dsimp only;omega⟩
def Kt (vs:List Qz)(k:Int):Qz:=vs[k.toNat]?.getD Qz.zero
def Qpy (l:Qv)(vs:List Qz)(v:Qz)(k:Int):Bool:=QE l (Kt vs k) v||QE l v (Kt vs k)
def Qdv (l:Qv)(vs:List Qz)(v:Qz)(k:Int):Bool:=QE l (Kt vs k) v
def QaB (l:Qv)(vs:List Qz)(out:List Int)(i:Nat)(v:Qz):Option (List Int):=
 if out.all (Qpy l vs v) then some (QnF out (out.countP (Qdv l vs v)) i) else none
def KE (l:Qv)(vs:List Qz):Nat→Option (List Int)
 |0=>some []
 |k+1=>match KE l vs k,vs[k]? with
  |some out,some v=>QaB l vs out k v
  |_,_=>none
def Qee (l:Qv)(vs:List Qz):List Int×Bool:=if JP l vs=0 then(match KE l vs vs.length with|some out=>(out,true)|none=>([],false)) else([],false)
theorem QdR {l:Qv}{vs:List Qz}{k:Nat}(h:KE l vs k=none):∀d,KE l vs (k+d)=none
 |0=>h
 |d+1=>by
  show(match KE l vs (k+d),vs[k+d]? with|some out,some v=>QaB l vs out (k+d) v|_,_=>none)=none
  rw[QdR h d]
theorem QdK {l:Qv}{vs:List Qz}{k:Nat}{out:List Int}{v:Qz}(h:KE l vs k=some out)(hv:vs[k]?=some v):KE l vs (k+1)=QaB l vs out k v:=by
 show(match KE l vs k,vs[k]? with|some out,some v=>QaB l vs out k v|_,_=>none)=_
 rw[h,hv]
theorem Qty {l:List Int}{i:Nat}{x y:Int}:y∈QnF l i x↔y=x∨y∈l:=by
 unfold QnF
 rw[List.mem_append,List.mem_cons]
 constructor
 ·rintro(h|h|h)
  ·exact .inr (List.mem_of_mem_take h)
  ·exact .inl h
  exact .inr (List.mem_of_mem_drop h)
 rintro(h|h)
 ·exact .inr (.inl h)
 have:=(List.take_append_drop i l).symm▸h
 rcases List.mem_append.1 this with h|h
 ·exact .inl h
 exact .inr (.inr h)
theorem QoF {vs:List Qz}{y:Int}{n:Nat}(h:0≤y∧y<n)(hn:n≤vs.length):vs[y.toNat]?=some (Kt vs y):=by
 have:y.toNat<vs.length:=by omega
 unfold Kt
 rw[List.getElem?_eq_getElem this];rfl
end Go.Proofs.YtnkkokmmeplbgaaGreat
