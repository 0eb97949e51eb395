/-
  Contracts: a run begins.
-/
import Derived.Test.YtnkkokmmeplbgaaGreatK7
import Derived.Test.YtnkkokmmeplbgaaGreatA14
import Derived.Test.YtnkkokmmeplbgaaGreatA11
import Derived.Test.YtnkkokmmeplbgaaGreatA10
import Derived.Test.YtnkkokmmeplbgaaGreatB16
import Derived.Test.YtnkkokmmeplbgaaGreatK5
namespace Go.Proofs.YtnkkokmmeplbgaaGreat
set_option maxRecDepth 100000
set_option maxHeartbeats 1000000
open Go.RowKit
def lμ (b j:Nat):Nat:=j+b
theorem Kn {b:Nat}:Qap (lμ b):=fun _ _ _ _ e=>by unfold lμ at e;omega
def cl0 (l:Qv)(n:Int)(k:Nat):Cl:=⟨(List.range k).map fun i:Nat=>(Qbh l n (i:Int),none),List.replicate k false,[],List.replicate k [],[]⟩
theorem QpG {l:Qv}{n:Int}{k:Nat}:(cl0 l n k).F.length=k:=by simp[cl0]
theorem Qe8 {l:Qv}{n:Int}{k:Nat}(h:k≤5):(cl0 l n k).ok:=⟨by rw[QpG];exact h,by show(List.replicate k ([]:List Qz)).length≤5;rw[List.length_replicate];exact h⟩
theorem Qhf {l:Qv}{n:Int}{k i:Nat}(h:i<k):(cl0 l n k).F[i]?=some (Qbh l n (i:Int),none):=by simp[cl0,h]
theorem Qkh {l:Qv}{n:Int}{k i:Nat}:(cl0 l n k).ins[i]?=if i<k then some [] else none:=by simp[cl0,List.getElem?_replicate]
def nμ (k j:Nat):Nat:=if j=10+k then 42 else if j=30+k then 45 else j+2
theorem Qxg {k:Nat}:Qap (nμ k):=fun i j hi hj e=>by
 unfold nμ at e
 repeat' split at e
 all_goals omega
theorem Qrj {E:X7}{t t':List (Nat×AV)}{H:List (Nat×Qj)}{nx:Nat}{l:Qv}{n:Int}{k:Nat}{o0 o1:Qj}(hk:k<5)(h0:Qb H 2=some (.var 95 (clC l (cl0 l n (k+1)) (lμ 2))))(h1:Qb H 3=some (.arr 76 1 (Qfc (lμ 2) k++[[AV.ptr 42 0]])))
  (h2:Qb H 4=some (.arr 4 1 ((List.replicate (k+1) false).map bv1))) (h3:Qb H 5=some (.arr 54 8 [])) (h4:Qb H 6=some (.arr 27 1 ((QeJ (lμ 2) (List.replicate k [])++[[AV.p (.slice none 0 0)]]).set k [AV.own 45 0]))) (h5:Qb H 7=some (.arr 30 4 []))
  (hn:Qb H 42=some (.var 131 (XP l (Qbh l n (k:Int)) Jw))) (hi:Qb H 45=some (.arr 30 4 [])) (ho:∀q,12≤q→q<42→Qb H q=Qb (KL l (cl0 l n k) (lμ 2)) q)
  (p0:Qb H 0=some o0) (p1:Qb H 1=some o1) (l0:o0.cells.all QbF=true) (l1:o1.cells.all QbF=true) (ht:Qms ⟨t,H,nx⟩ [2,0,1] t'):Kj E ⟨t,H,nx⟩ ⟨t',[(0,o0),(1,o1)]++KL l (cl0 l n (k+1)) (lμ 2),42⟩:=by
 have hok:=Qe8 (l:=l) (n:=n) (k:=k+1) hk
 have hF:=QpG (l:=l) (n:=n) (k:=k+1)
 have nlow:∀j,j<10→nμ k j=j+2:=fun j hj=>by unfold nμ;rw[if_neg (by omega),if_neg (by omega)]
 refine XC (lμ 2) Kn (Qxg (k:=k)) hok (c:=cl0 l n (k+1)) (fun j ob hj hob=>?_) [(0,o0),(1,o1)] 2 (by decide) (by decide) (fun j hj=>.inl (by unfold lμ;omega)) (fun j hj=>?_) (nlow 0 (by decide)) ⟨p0,l0,rfl,p1,l1,rfl,trivial⟩ ht
 ·rcases Qby hob with h6|⟨i,x,rfl,q3,q4,q5⟩|⟨i,x,p,rfl,q3,q4,q5,q6⟩|⟨i,vs,rfl,q3,q4⟩
  ·have:j=0∨j=1∨j=2∨j=3∨j=4∨j=5:=by omega
   rcases this with rfl|rfl|rfl|rfl|rfl|rfl
   ·rw[nlow 0 (by decide),←hob,h0]
    simp only[Kz,clC,nlow 1 (by decide),nlow 2 (by decide),nlow 3 (by decide),nlow 4 (by decide),nlow 5 (by decide)]
    rfl
   ·rw[nlow 1 (by decide),←hob,h1]
    simp only[Kz,hF]
    congr 2
    show(List.range k).map (fun i=>[AV.ptr (lμ 2 (10+i)) 0])++[[AV.ptr 42 0]]=(List.range (k+1)).map (fun i=>[AV.ptr (nμ k (10+i)) 0])
    rw[List.range_succ,List.map_append]
    congr 1
    ·refine List.map_congr_left fun i hi=>?_
     have:=List.mem_range.1 hi
     show[AV.ptr (10+i+2) 0]=[AV.ptr (nμ k (10+i)) 0]
     unfold nμ
     rw[if_neg (by omega),if_neg (by omega)]
    show[[AV.ptr 42 0]]=[[AV.ptr (nμ k (10+k)) 0]]
    unfold nμ
    rw[if_pos rfl]
   ·rw[nlow 2 (by decide),←hob,h2];rfl
   ·rw[nlow 3 (by decide),←hob,h3];rfl
   ·rw[nlow 4 (by decide),←hob,h4]
    show _=some (Qj.arr _ 1 (QeJ (nμ k) (List.replicate (k+1) [])))
    congr 2
    refine List.ext_getElem (by simp) fun i g1 g2=>?_
    have hi:i<k+1:=by simpa using g2
    simp only[List.getElem_set,List.getElem_append,List.getElem_mapIdx,List.length_mapIdx,List.length_replicate,List.getElem_replicate,nμ]
    by_cases e:k=i
    ·subst e;simp
    have:i<k:=by omega
    simp[e,this,lμ]
    rw[if_neg (by omega),if_neg (fun h=>e h.symm)]
   rw[nlow 5 (by decide),←hob,h5];rfl
  ·have hi:=(List.getElem?_eq_some_iff.1 q4).1
   rw[hF] at hi;rw[Qhf hi] at q4;obtain rfl:=Option.some.inj q4
   by_cases e:i=k
   ·subst e
    rw[show nμ i (10+i)=42 from if_pos rfl,hn,q5];rfl
   rw[show nμ k (10+i)=lμ 2 (10+i) from by unfold nμ lμ;rw[if_neg (by omega),if_neg (by omega)],ho _ (by unfold lμ;omega) (by unfold lμ;omega),Jc Kn (by omega),Y8 (by omega),Qhf (by omega),q5];rfl
  ·have hi:=(List.getElem?_eq_some_iff.1 q4).1
   rw[hF] at hi;rw[Qhf hi] at q4;obtain rfl:=Option.some.inj q4
   cases q5
  rw[Qkh] at q3
  split at q3
  ·rename_i hi9
   obtain rfl:=Option.some.inj q3
   by_cases e:i=k
   ·subst e
    rw[show nμ i (30+i)=45 from by unfold nμ;rw[if_neg (by omega),if_pos rfl],hi,q4];rfl
   rw[show nμ k (30+i)=lμ 2 (30+i) from by unfold nμ lμ;rw[if_neg (by omega),if_neg (by omega)],ho _ (by unfold lμ;omega) (by unfold lμ;omega),Jc Kn (by omega),Wo,Qkh,if_pos (by omega),q4];rfl
  cases q3
 unfold lμ nμ
 refine⟨by omega,?_⟩
 repeat' split
 all_goals omega
theorem Qwt {l:Qv}{n:Int}{H:List (Nat×Qj)}(h0:Qb H 2=some (.var 95 (clC l (cl0 l n 0) (lμ 2))))(h1:Qb H 3=some (.arr 76 1 []))(h2:Qb H 4=some (.arr 4 1 []))(h3:Qb H 5=some (.arr 54 8 []))(h4:Qb H 6=some (.arr 27 1 []))(h5:Qb H 7=some (.arr 30 4 [])):Xn H l (cl0 l n 0) (lμ 2):=fun j ob hj hob=>by
 rcases Qby hob with h6|⟨i,x,rfl,q3,q4,q5⟩|⟨i,x,p,rfl,q3,q4,q5,q6⟩|⟨i,vs,rfl,q3,q4⟩
 ·have:j=0∨j=1∨j=2∨j=3∨j=4∨j=5:=by omega
  rcases this with rfl|rfl|rfl|rfl|rfl|rfl<;>rw[←hob]
  ·exact h0
  ·exact h1
  ·exact h2
  ·exact h3
  ·exact h4
  exact h5
 ·cases q4
 ·cases q4
 cases q3
theorem Qm3 {st:St}{l:Qv}{c:Cl}{ν:Nat→Nat}(h:Xn st.H l c ν):st.cells1 (.agg (clC l c ν))=some (clC l c ν):=by
 have c1:st.cell1 (.own (ν 1) c.F.length)=true:=by simp only[St.cell1,h 1 _ (by decide) rfl,←JR,Nat.beq_refl]
 have c2:st.cell1 (.own (ν 2) c.dn.length)=true:=by simp only[St.cell1,h 2 _ (by decide) rfl,List.length_map,Nat.beq_refl]
 have c3:st.cell1 (.own (ν 3) c.net.length)=true:=by simp only[St.cell1,h 3 _ (by decide) rfl,List.length_map,Nat.beq_refl]
 have c4:st.cell1 (.own (ν 4) c.ins.length)=true:=by simp only[St.cell1,h 4 _ (by decide) rfl,←Ql,Nat.beq_refl]
 have c5:st.cell1 (.own (ν 5) c.lrn.length)=true:=by simp only[St.cell1,h 5 _ (by decide) rfl,List.length_map,Nat.beq_refl]
 simp only[St.cells1,clC,List.all_cons,List.all_nil,c1,c2,c3,c4,c5]
 rfl
theorem Qut {rs:List RS}{st:St}{xs:List AV}{l:Qv}{c:Cl}{μ:Nat→Nat}{m:Nat}(h:resY st rs=some (.tup xs))(hok:xs.all (okId m)=true)(hn:Nat.ble st.nx m=true)(hm:Nat.ble m Qf=true)(hμ:Qap μ)(hc:c.ok)(hb:∀j,j<40→μ j<m∨Qf≤μ j)(hcl:Xn st.H l c μ):
  resY st rs=some (.tup xs)∧xs.all (okId m)=true∧Nat.ble st.nx m=true∧Nat.ble m Qf=true∧∀o ob,Qb (KL l c μ) o=some ob→Qb st.H o=some ob∧(Nat.blt o m||Nat.ble Qf o)=true∧JB m ob=true:=by
 refine⟨h,hok,hn,hm,fun o ob ho=>?_⟩;obtain⟨j,hj,rfl⟩:=YK ho;rw[Jc hμ hj] at ho;refine⟨hcl j ob hj ho,?_,Qra hμ hc hb ho⟩;rw[Bool.or_eq_true]
 rcases hb j hj with h|h
 ·exact .inl (Nat.ble_eq_true_of_le h)
 exact .inr (Nat.ble_eq_true_of_le h)
theorem Qs7 (l:Qv)(n:Int)(hc:QJ l=0)(h1:1≤n)(h5:n≤5):GX Tryz.prog 52 [.agg (Q7 l),i64 n] [] (.tup [.agg (clC l (cl0 l n n.toNat) (lμ 2)),bl true]) (KL l (cl0 l n n.toNat) (lμ 2)) 42:=by
 refine Qnm [.c 4 95 11 true,.t 5] ⟨⟨inferInstance,rfl⟩,trivial⟩ Tryz.func52 rfl rfl 51 Tryz.ntmps52 (Nat.le_of_ble_eq_true rfl) ?_
 intro E hN;refine QkJ ?_;refine zP (QD (b:=false) rfl rfl rfl (by simp;omega)) ?_;refine QR ?_;refine zP (QD (b:=false) rfl rfl rfl (by simp;omega)) ?_;refine XR ?_;refine QC (QcN rfl 2 6 76 1 rfl rfl rfl) ?_;refine QC (QcN rfl 2 7 4 1 rfl rfl rfl) ?_;refine QC (QcN rfl 2 8 54 8 rfl rfl rfl) ?_;refine QC (QcN rfl 2 9 27 1 rfl rfl rfl) ?_;refine QC (QcN rfl 2 10 30 4 rfl rfl rfl) ?_
 refine Qq (fun x:{k:Nat // (k:Int)≤n}=>⟨[(1,i64 n),(2,.ptr 0 0),(4,.ptr 1 0),(6,.ptr 2 0),(7,i64 (x.1:Nat))],[(0,.var 26 (Q7 l)),(1,.var 95 [i64 0,i64 0,i64 0,.p (.slice none 0 0),.p (.slice none 0 0),.p (.slice none 0 0),.p (.slice none 0 0),.p (.slice none 0 0),.p (.slice none 0 0),.p (.slice none 0 0),.p (.slice none 0 0)])]++KL l (cl0 l n x.1) (lμ 2),42⟩) (fun x=>n.toNat-x.1) (⟨0,by omega⟩) ?_ ?_
 ·exact XC (lμ 2) Kn Kn (Qe8 (by decide)) (Qwt rfl rfl rfl rfl rfl rfl) [(0,.var 26 (Q7 l)),(1,.var 95 [i64 0,i64 0,i64 0,.p (.slice none 0 0),.p (.slice none 0 0),.p (.slice none 0 0),.p (.slice none 0 0),.p (.slice none 0 0),.p (.slice none 0 0),.p (.slice none 0 0),.p (.slice none 0 0)])] 2 (by decide) (by decide) (fun j hj=>.inl (by unfold lμ;omega)) (fun j hj=>by unfold lμ;omega) rfl ⟨rfl,rfl,rfl,rfl,rfl,rfl,trivial⟩ ⟨rfl,rfl,rfl,rfl,rfl,rfl,rfl,rfl,rfl,rfl,trivial⟩
 rintro⟨k,hk⟩;dsimp only
 have hkF:(cl0 l n k).F.length=k:=QpG
 refine Xy ?_
 refine zq ?_ ?_<;>intro h14
 rotate_left
 ·have hge:¬(k:Int)<n:=by simpa using h14
  have hkn:n.toNat=k:=by omega
  refine QK ?_;refine WE rfl rfl rfl rfl (Qm3 (c:=cl0 l n k) (ν:=lμ 2) (Xn.cons (fun j _=>by unfold lμ;omega) (Xn.cons (fun j _=>by unfold lμ;omega) (Xn.self Kn)))) rfl (Nat.le_of_ble_eq_true rfl) rfl rfl rfl rfl ?_;refine zT ?_;refine Qu ?_;change resY _ _=some _∧_;rw[hkn];exact Qut rfl rfl rfl rfl Kn (Qe8 (by omega)) (fun j hj=>.inl (by unfold lμ;omega)) (Xn.cons (fun j _=>by unfold lμ;omega) (Xn.cons (fun j _=>by unfold lμ;omega) (Xn.cons (fun j _=>by unfold lμ;omega) (Xn.self Kn))))
 have hlt:(k:Int)<n:=by simpa using h14
 refine Jl ?_;refine Qks hN rfl (QkS l n (k:Int) hc h1 (by omega) (by omega) hlt) (.fn _ _ _ _ rfl rfl) rfl rfl rfl rfl rfl ?_;refine QeV ?_;refine Qi3 (n:=1) (zs:=[.pointer none]) hN rfl rfl rfl rfl rfl (by decide) (by decide) (es:=[[.ptr 42 0]]) rfl rfl (by simp) rfl rfl rfl rfl ?_;refine QeN hN rfl rfl rfl JR rfl rfl rfl rfl (by simp;omega) rfl rfl rfl rfl ?_;refine zF ?_;refine WE rfl rfl rfl rfl (QP rfl (by simp)) rfl (Nat.le_of_ble_eq_true rfl) rfl rfl rfl rfl ?_;refine QL ?_
 refine zP (Q0 rfl rfl rfl rfl (by exact rfl) (by decide) (by decide)) ?_;refine XA hN rfl rfl rfl (by simp) rfl rfl (by rfl) (by simp[cl0,QT];omega) rfl rfl rfl rfl ?_;refine zF ?_;refine WE rfl rfl rfl rfl (QP rfl (by simp[QT])) rfl (Nat.le_of_ble_eq_true rfl) rfl rfl rfl rfl ?_;refine QK ?_;refine Qi3 (n:=1) hN rfl rfl rfl rfl rfl (by decide) (by decide) (es:=[[AV.p (.slice none 0 0)]]) rfl rfl (by simp) rfl rfl rfl rfl ?_;refine QeN hN rfl rfl rfl Ql rfl rfl rfl rfl (by simp[cl0];omega) rfl rfl rfl rfl ?_;refine zF ?_
 refine WE rfl rfl rfl rfl (QP rfl (by simp)) rfl (Nat.le_of_ble_eq_true rfl) rfl rfl rfl rfl ?_;refine Yy ?_;refine QC (Qqa rfl 6 k 30 4 rfl (by decide) (fun e he=>by rcases List.mem_append.1 he with he|he;exact QV e he;rw[List.mem_singleton.1 he];rfl) (by rw[List.getElem?_append_right (by simp[cl0])];simp[cl0])) ?_;refine QK ?_;refine Qc ?_
 exact⟨⟨k+1,by omega⟩,Qrj (by omega) (by first|rfl|(simp only[clC,cl0,List.length_map,List.length_range,List.length_replicate];rfl)) (by rw[show Qfc (lμ 2) k=Qfc (lμ 2) (cl0 l n k).F.length from by rw[hkF]];rfl) (by rw[List.replicate_succ'];first|rfl|(rw[List.map_append];rfl)) rfl rfl rfl rfl rfl (fun q h1 h2=>by repeat (first|rfl|rw[Qe _ _ (by first|omega|(unfold lμ;omega))]|rw[List.cons_append]|rw[List.nil_append])) rfl rfl rfl rfl ⟨rfl,rfl,rfl,rfl,rfl,rfl,rfl,rfl,JC,rfl,trivial⟩,by dsimp only;omega⟩
structure WS (l:Qv) (n:Int) (X:List Qz) (K:Nat) (g:Gh) (c:Cl):Prop where
 gh:Qb3 l n g
 n1:1≤n
 n5:n≤5
 len:(c.F.length:Int)=n
 dn:c.dn.length=c.F.length
 inl:c.ins.length=c.F.length
 nd:∀(i:Nat) (s:Nd) (p:Option Pp),c.F[i]?=some (s,p)→Qbn l n g i s p∧WO l X s p K
 net:∀m∈c.net,Qb6 l n X g m
 lrn:∀v∈c.lrn,Dec l g v∧W3 l X v
 gX:Giv l X
 xl:X.length≤K
 lnet:c.net.length≤36*K
 llrn:c.lrn.length≤K
 inp:∀(i:Nat) (vs:List Qz),c.ins[i]?=some vs→vs.length≤K∧∀v∈vs,v∈X∧∀(s:Nd) (p:Option Pp),c.F[i]?=some (s,p)→QE l v (Qcl l s p)=true
 cov:∀v∈X,∃(i:Nat) (vs:List Qz),c.ins[i]?=some vs∧v∈vs
def Qh4 (l:Qv)(c c':Cl):Prop:=∀(j:Nat) (s:Nd) (p:Option Pp),c.F[j]?=some (s,p)→∃(s':Nd) (p':Option Pp),c'.F[j]?=some (s',p')∧QE l s.acc s'.acc=true∧QE l s.lrn s'.lrn=true
section
variable {l:Qv}(hO:Yv l){n:Int}{X:List Qz}{K:Nat}{g:Gh}{c:Cl}
include hO
theorem Qh4.refl (h:WS l n X K g c){c':Cl}(e:c'.F=c.F):Qh4 l c c':=fun j s p hj=>by
 obtain⟨-,hv⟩:=h.nd j s p hj;exact⟨s,p,by rw[e];exact hj,Xo l hO _ (hv.acc.elem hO h.gX),Xo l hO _ (hv.lrn.elem hO h.gX)⟩
omit hO in
theorem WS.up (h:WS l n X K g c){K':Nat}(hk:K≤K'):WS l n X K' g c:=
 { h with
  nd:=fun i s p hi=>⟨(h.nd i s p hi).1,(h.nd i s p hi).2.up hk fun _ hx=>hx⟩
  xl:=Nat.le_trans h.xl hk
  lnet:=Nat.le_trans h.lnet (Nat.mul_le_mul_left _ hk)
  llrn:=Nat.le_trans h.llrn hk
  inp:=fun i vs hi=>⟨Nat.le_trans (h.inp i vs hi).1 hk,(h.inp i vs hi).2⟩ }
omit hO in
theorem Qeu {α:Type}{L:List α}{i j:Nat}{x y:α}(h:(L.set i x)[j]?=some y):i=j∧y=x∨i≠j∧L[j]?=some y:=by
 by_cases e:i=j
 ·subst e
  have hlt:=(List.getElem?_eq_some_iff.1 h).1
  rw[List.length_set] at hlt;rw[List.getElem?_set_self hlt] at h;exact .inl ⟨rfl,(Option.some.inj h).symm⟩
 rw[List.getElem?_set_ne e] at h;exact .inr ⟨e,h⟩
theorem WS.mid (h:WS l n X K g c){i:Nat}{s:Nd}{p:Option Pp}(hF:c.F[i]?=some (s,p)){r:Nst}(st:Stp l n X g i s p r)(hi:WO l X r.1.1 r.1.2 (K+1))(hl:r.2.length≤36):
  ∃g',WS l n X (K+1) g' (c.mid i r)∧Dec l g' r.1.1.lrn∧Qh4 l c (c.mid i r):=by
 obtain⟨g',a1,a2,a3,a4,a5,a6,a7,a8⟩:=st
 have hlt:=(List.getElem?_eq_some_iff.1 hF).1
 have hX:=h.gX
 refine⟨g',⟨a1,h.n1,h.n5,by show((c.F.set i r.1).length:Int)=n;rw[List.length_set];exact h.len,by show c.dn.length=(c.F.set i r.1).length;rw[List.length_set];exact h.dn,by show c.ins.length=(c.F.set i r.1).length;rw[List.length_set];exact h.inl,fun j s' p' hj=>?_,fun m hm=>?_,fun v hv=>⟨(h.lrn v hv).1.up a2,(h.lrn v hv).2⟩,hX,by have:=h.xl;omega,?_,by have:=h.llrn;show c.lrn.length≤K+1;omega,fun j vs hj=>?_,h.cov⟩,a3.lrn,fun j s' p' hj=>?_⟩
 ·rcases Qeu hj with ⟨rfl,e⟩|⟨e,hj⟩
  ·have e1:s'=r.1.1:=congrArg Prod.fst e
   have e2:p'=r.1.2:=congrArg Prod.snd e
   subst e1 e2
   exact⟨a3,hi⟩
  obtain⟨b1,b2⟩:=h.nd j s' p' hj;exact⟨b1.up a2 fun e2=>e e2.symm,b2.up (Nat.le_succ K) fun _ hx=>hx⟩
 ·rcases List.mem_append.1 hm with hm|hm
  ·exact(h.net m hm).up a2 fun _ hx=>hx
  exact a5 m hm
 ·show(c.net++r.2).length≤36*(K+1)
  have:=h.lnet
  rw[List.length_append];omega
 ·obtain⟨b1,b2⟩:=h.inp j vs hj
  refine⟨by omega,fun v hv=>⟨(b2 v hv).1,fun s' p' hj2=>?_⟩⟩
  rcases Qeu hj2 with ⟨rfl,e⟩|⟨e,hj2⟩
  ·have e1:s'=r.1.1:=congrArg Prod.fst e
   have e2:p'=r.1.2:=congrArg Prod.snd e
   subst e1 e2
   exact Xu l hO _ _ _ (hX v (b2 v hv).1).1 (KZ hO hX ((h.nd i s p hF).2.gen)) (KZ hO hX a4) ((b2 v hv).2 s p hF) a8
  exact(b2 v hv).2 s' p' hj2
 by_cases e:i=j
 ·subst e
  rw[hF] at hj
  cases hj
  exact⟨r.1.1,r.1.2,List.getElem?_set_self hlt,a6,a7⟩
 obtain⟨-,hv⟩:=h.nd j s' p' hj;exact⟨s',p',by show(c.F.set i r.1)[j]?=_;rw[List.getElem?_set_ne e];exact hj,Xo l hO _ (hv.acc.elem hO hX),Xo l hO _ (hv.lrn.elem hO hX)⟩
omit hO in
theorem WS.note (h:WS l n X (K+1) g c)(hl:c.lrn.length≤K){v:Qz}(hv:Dec l g v∧W3 l X v):WS l n X (K+1) g { c with lrn:=c.lrn++[v] }:=
 { h with
  lrn:=fun w hw=>by
   rcases List.mem_append.1 hw with hw|hw
   ·exact h.lrn w hw
   obtain rfl:=List.mem_singleton.1 hw;exact hv
  llrn:=by
   show(c.lrn++[v]).length≤K+1
   rw[List.length_append,List.length_singleton];omega }
omit hO in
theorem WS.give (h:WS l n X K g c){v:Qz}(ev:El l 40 v):Giv l (v::X)∧(∀(j:Nat) (s:Nd) (p:Option Pp),c.F[j]?=some (s,p)→WO l (v::X) s p K)∧∀m∈c.net,Qb6 l n (v::X) g m:=by
 exact⟨fun y hy=>by
  rcases List.mem_cons.1 hy with rfl|hy
  ·exact ev
  exact h.gX y hy,fun j s p hj=>(h.nd j s p hj).2.up (Nat.le_refl K) fun _ hx=>List.mem_cons_of_mem _ hx,fun m hm=>(h.net m hm).up (Gle.refl 0 g) fun _ hx=>List.mem_cons_of_mem _ hx⟩
omit hO in
theorem WS.wok (h:WS l n X K g c)(hc:QJ l=0)(hK:K≤80):WOk l c X K:=by
 have h1:=h.n1
 have h5:=h.n5
 have hl:=h.len
 exact⟨hc,h.gX,Nat.le_trans h.xl hK,by omega,by omega,by omega,h.dn,h.inl,fun i s p hi=>(h.nd i s p hi).2,by have:=h.lnet;omega,by have:=h.llrn;omega,fun vs hvs=>by
  obtain⟨i,hi⟩:=List.getElem?_of_mem hvs
  have:=(h.inp i vs hi).1;omega⟩
theorem WS.mok (h:WS l n X K g c)(hc:QJ l=0){m:Kb}(hm:Qb6 l n X g m):MOk l X c m:=by
 have hl:=h.len
 have t0:=hm.t0
 have t1:=hm.t1
 refine⟨t0,by omega,fun s p hF=>?_,hm.gen⟩;obtain⟨b1,b2⟩:=h.nd _ s p hF;exact hm.chk hO hc h.gX b1.nn (by rw[b1.self];omega)
theorem QoM (hc:QJ l=0)(h:WS l n X K g c){m:Kb}(hm:Qb6 l n X g m):∃g',WS l n X (K+1) g' (Qde l c m)∧Qh4 l c (Qde l c m):=by
 have hmo:=h.mok hO hc hm
 have hl:=h.len
 unfold Qde
 split
 ·exact⟨g,h.up (Nat.le_succ K),Qh4.refl hO h rfl⟩
 split
 ·rename_i x hF
  obtain⟨s,p⟩:=x;obtain⟨b1,b2⟩:=h.nd _ s p hF
  have i1:((m.t.toNat:Nat):Int)<n:=by have:=hm.t0;have:=hm.t1;omega
  obtain⟨-,st⟩:=Qsd hO h.gX hc h.gh h.n1 b1 b2.gen i1 hm (by have:=hm.t0;omega)
  have hi:=Qle hO h.gX b2 (m:=m) fun _ k=>hm.gen k
  obtain⟨g',c1,c2,c3⟩:=h.mid hO hF st hi (QmP (hmo.2.2.1 s p hF) (by have:=b2.n2;omega));exact⟨g',c1.note h.llrn ⟨c2,hi.lrn⟩,c3⟩
 exact⟨g,h.up (Nat.le_succ K),Qh4.refl hO h rfl⟩
omit hO in
theorem WS.less (h:WS l n X K g c)(j:Nat):WS l n X K g (c.less j):=
 { h with
  net:=fun m hm=>h.net m (by
   rcases List.mem_append.1 hm with hm|hm
   ·exact List.mem_of_mem_take hm
   exact List.mem_of_mem_drop hm)
  lnet:=by
   have:=h.lnet
   show(c.net.take j++c.net.drop (j+1)).length≤_
   rw[List.length_append,List.length_take,List.length_drop];omega }
theorem Qul (hc:QJ l=0)(h:WS l n X K g c){x:Sp}(hv:Xr l x.v=true→El l 40 x.v):∃X' g',WS l n X' (K+1) g' (J5 l c x)∧Qh4 l c (J5 l c x):=by
 have keep:∀c',c'=c→∃X' g',WS l n X' (K+1) g' c'∧Qh4 l c c':=fun c' e=>by subst e;exact⟨X,g,h.up (Nat.le_succ K),Qh4.refl hO h rfl⟩
 unfold J5
 split
 ·split
  ·exact keep _ rfl
  split
  ·exact keep _ rfl
  rename_i m hm
  have hmo:=h.net m (List.mem_of_getElem? hm)
  split
  ·exact⟨X,g,(h.less _).up (Nat.le_succ K),Qh4.refl hO h rfl⟩
  split
  ·obtain⟨g',a,b⟩:=QoM hO hc h hmo
   exact⟨X,g',a,b⟩
  obtain⟨g',a,b⟩:=QoM hO hc (h.less (Qcv c x.w).toNat) hmo;exact⟨X,g',a,b⟩
 split
 ·exact keep _ rfl
 split
 ·exact keep _ rfl
 rename_i y hF
 obtain⟨s,p⟩:=y
 have hlen:=h.len
 have n1:=h.n1
 have hr:=QbI (nd:=x.nd) (n:=c.F.length) (by omega)
 have i1:(((W8 x.nd c.F.length).toNat:Nat):Int)<n:=by omega
 obtain⟨b1,b2⟩:=h.nd _ s p hF
 split
 ·split
  ·rename_i hval
   have ev:=hv hval
   obtain⟨gX,gN,gM⟩:=h.give ev;obtain⟨-,st,ht⟩:=Qqu hO gX h.gh n1 b1 (gN _ s p hF).gen i1 hval (W3.of hO gX List.mem_cons_self)
   have hi:=Qju hO gX (gN _ s p hF) (v:=x.v) (fun _=>W3.of hO gX List.mem_cons_self)
   obtain⟨g',a1,a2,a3,a4,a5,a6,a7,a8⟩:=st
   have hlt:=(List.getElem?_eq_some_iff.1 hF).1
   have hii:(W8 x.nd c.F.length).toNat<c.ins.length:=by rw[h.inl];exact hlt
   obtain⟨vs,hvs⟩:∃vs,c.ins[(W8 x.nd c.F.length).toNat]?=some vs:=⟨_,List.getElem?_eq_getElem hii⟩
   have hF':∀(j:Nat) (s':Nd) (p':Option Pp),((c.inp (W8 x.nd c.F.length).toNat x.v (QB l s p x.v).1).F)[j]?=some (s',p')→j=(W8 x.nd c.F.length).toNat∧s'=(QB l s p x.v).1.1.1∧p'=(QB l s p x.v).1.1.2∨j≠(W8 x.nd c.F.length).toNat∧c.F[j]?=some (s',p'):=fun j s' p' hj=>by
    rcases Qeu hj with ⟨e1,e⟩|⟨e1,hj⟩
    ·exact .inl ⟨e1.symm,congrArg Prod.fst e,congrArg Prod.snd e⟩
    exact .inr ⟨fun e=>e1 e.symm,hj⟩
   refine⟨x.v::X,g',⟨a1,n1,h.n5,?_,?_,?_,fun j s' p' hj=>?_,fun m hm=>?_,fun v hv=>?_,gX,by have:=h.xl;rw[List.length_cons];omega,?_,?_,fun j ws hj=>?_,fun v hv=>?_⟩,fun j s' p' hj=>?_⟩
   ·show((c.F.set _ _).length:Int)=n
    rw[List.length_set];exact hlen
   ·show c.dn.length=(c.F.set _ _).length
    rw[List.length_set];exact h.dn
   ·show(c.ins.set _ _).length=(c.F.set _ _).length
    rw[List.length_set,List.length_set];exact h.inl
   ·rcases hF' j s' p' hj with ⟨rfl,rfl,rfl⟩|⟨e,hj⟩
    ·exact⟨a3,hi⟩
    exact⟨(h.nd j s' p' hj).1.up a2 e,(gN j s' p' hj).up (Nat.le_succ K) fun _ hx=>hx⟩
   ·rcases List.mem_append.1 hm with hm|hm
    ·exact(gM m hm).up a2 fun _ hx=>hx
    exact a5 m hm
   ·rcases List.mem_append.1 hv with hv|hv
    ·exact⟨(h.lrn v hv).1.up a2,(h.lrn v hv).2.up fun _ hx=>List.mem_cons_of_mem _ hx⟩
    obtain rfl:=List.mem_singleton.1 hv;exact⟨a3.lrn,hi.lrn⟩
   ·show(c.net++_).length≤36*(K+1)
    have h1:=h.lnet
    have h2:(QB l s p x.v).1.2.length≤36:=QjG b2.n2
    exact Nat.le_trans (Nat.le_of_eq (List.length_append ..)) (Nat.le_trans (Nat.add_le_add h1 h2) (by omega))
   ·show(c.lrn++[_]).length≤K+1
    have:=h.llrn
    rw[List.length_append,List.length_singleton];omega
   ·have hj:(c.ins.set (W8 x.nd c.F.length).toNat ((c.ins[(W8 x.nd c.F.length).toNat]?).getD []++[x.v]))[j]?=some ws:=hj
    rw[hvs] at hj
    rcases Qeu hj with ⟨e1,rfl⟩|⟨e1,hj⟩
    ·obtain⟨q1,q2⟩:=h.inp _ vs hvs
     refine⟨by show(vs++[x.v]).length≤K+1;rw[List.length_append,List.length_singleton];omega,fun v hv=>?_⟩
     have hv:v∈vs++[x.v]:=hv
     rcases List.mem_append.1 hv with hv|hv
     ·refine⟨List.mem_cons_of_mem _ (q2 v hv).1,fun s' p' hj2=>?_⟩
      rcases hF' j s' p' hj2 with ⟨-,rfl,rfl⟩|⟨e,-⟩
      ·exact Xu l hO _ _ _ (h.gX v (q2 v hv).1).1 (KZ hO h.gX b2.gen) (KZ hO gX a4) ((q2 v hv).2 s p hF) a8
      exact absurd e1.symm e
     obtain rfl:=List.mem_singleton.1 hv;refine⟨List.mem_cons_self,fun s' p' hj2=>?_⟩
     rcases hF' j s' p' hj2 with ⟨-,rfl,rfl⟩|⟨e,-⟩
     ·exact ht
     exact absurd e1.symm e
    obtain⟨q1,q2⟩:=h.inp j ws hj;refine⟨by omega,fun v hv=>⟨List.mem_cons_of_mem _ (q2 v hv).1,fun s' p' hj2=>?_⟩⟩
    rcases hF' j s' p' hj2 with ⟨e,-⟩|⟨-,hj2⟩
    ·exact absurd e.symm e1
    exact(q2 v hv).2 s' p' hj2
   ·have key:∀j ws,c.ins[j]?=some ws→v∈ws→∃(i:Nat) (vs:List Qz),(c.inp (W8 x.nd c.F.length).toNat x.v (QB l s p x.v).1).ins[i]?=some vs∧v∈vs:=fun j ws hj hw=>by
     by_cases e:(W8 x.nd c.F.length).toNat=j
     ·subst e
      rw[hvs] at hj
      cases hj
      exact⟨_,_,List.getElem?_set_self hii,by rw[hvs];exact List.mem_append_left _ hw⟩
     exact⟨j,ws,by show(c.ins.set _ _)[j]?=_;rw[List.getElem?_set_ne e];exact hj,hw⟩
    rcases List.mem_cons.1 hv with rfl|hv
    ·exact⟨_,_,List.getElem?_set_self hii,by rw[hvs];exact List.mem_append_right _ List.mem_cons_self⟩
    obtain⟨j,ws,hj,hw⟩:=h.cov v hv;exact key j ws hj hw
   by_cases e:(W8 x.nd c.F.length).toNat=j
   ·subst e
    rw[hF] at hj
    cases hj
    exact⟨_,_,List.getElem?_set_self hlt,a6,a7⟩
   obtain⟨-,hv⟩:=h.nd j s' p' hj;exact⟨s',p',by show(c.F.set _ _)[j]?=_;rw[List.getElem?_set_ne e];exact hj,Xo l hO _ (hv.acc.elem hO h.gX),Xo l hO _ (hv.lrn.elem hO h.gX)⟩
  exact keep _ rfl
 split
 ·have st:=Qsl hO h.gX h.gh n1 b1 b2.gen i1
  have hi:=Qrf hO h.gX b2
  obtain⟨g',a,-,b⟩:=h.mid hO hF st hi (Qmt b2.n2);exact⟨X,g',a,b⟩
 split
 ·refine⟨X,g,{ h.up (Nat.le_succ K) with dn:=?_ },Qh4.refl hO h rfl⟩
  show(c.dn.set _ _).length=c.F.length
  rw[List.length_set];exact h.dn
 exact keep _ rfl
theorem WS.chain (h:WS l n X K g c):∀v∈c.lrn,∀w∈c.lrn,QE l v w=true∨QE l w v=true:=fun v hv w hw=>Qlu hO h.n1 h.gh (h.lrn v hv).1 (h.lrn w hw).1
end
open Go.RowKit Go.ChangeShapes Go.WideShapes Go.ChangeAt
abbrev sps (l:List Sp):AV:=.sl (l.map fun a=>spC a) none
section
variable {H:Type}{enc:TypeId×Value→H}{w:World}{base:Nat}{spare:Nat→Bool}{held:Bool}
theorem QnS {fuel:Nat}{v:Value}{x:DataW H×List MemPlace}(h:DataW.trod enc Tryz.prog w base spare held fuel 91 [v]=some x):∃l:List Sp,FR w (Qgx w) v (sps l):=
 Qdk Tryz.underlying91 7 (by kernel_rfl) (by decide) h (fun b=>spC b) (fun _=>rfl) (fun m ds y _ hdl ht=>by
  obtain⟨u0,u1,u2,u3,u4,u5,u6,rfl⟩:∃a b c d e f g,ds=[a,b,c,d,e,f,g]:=by
   match ds,hdl with
   |[a,b,c,d,e,f,g],_=>exact⟨a,b,c,d,e,f,g,rfl⟩
  obtain⟨xs,k,-,rfl,hl,hlen,hf⟩:=DataW.trod_struct Tryz.underlying101 ht
  have f0:=hf 0 _ rfl
  have f1:=hf 1 _ rfl
  have f2:=hf 2 _ rfl
  have f3:=hf 3 _ rfl
  have hx0:xs[0]?=some (xs[0]'(by rw[hlen];decide)):=List.getElem?_eq_getElem _
  have hx1:xs[1]?=some (xs[1]'(by rw[hlen];decide)):=List.getElem?_eq_getElem _
  have hx2:xs[2]?=some (xs[2]'(by rw[hlen];decide)):=List.getElem?_eq_getElem _
  have hx3:xs[3]?=some (xs[3]'(by rw[hlen];decide)):=List.getElem?_eq_getElem _
  obtain⟨p0,hp0,-⟩:=DataW.trod_int Tryz.underlying3 (f0.trans hx0)
  have hq0:[u0]=[Value.int .i64 p0]:=hp0
  obtain⟨p1,hp1,-⟩:=DataW.trod_int Tryz.underlying3 (f1.trans hx1)
  have hq1:[u1]=[Value.int .i64 p1]:=hp1
  obtain⟨p2,hp2,-⟩:=DataW.trod_int Tryz.underlying3 (f2.trans hx2)
  have hq2:[u2]=[Value.int .i64 p2]:=hp2
  simp only[List.cons.injEq,and_true] at hq0 hq1 hq2
  subst hq0 hq1 hq2
  obtain⟨-,z,hz⟩:=Qxh _ _ _ (f3.trans hx3);refine⟨⟨p0,p1,p2,z⟩,fun i u a hi ha=>?_⟩
  match i,hi,ha with
  |0,hi,ha=>simp at hi ha;subst hi ha;exact .p _
  |1,hi,ha=>simp at hi ha;subst hi ha;exact .p _
  |2,hi,ha=>simp at hi ha;subst hi ha;exact .p _
  |3,hi,ha=>exact hz 0 u a hi ha
  |4,hi,ha=>exact hz 1 u a hi ha
  |5,hi,ha=>exact hz 2 u a hi ha
  |6,hi,ha=>exact hz 3 u a hi ha
  |i+7,hi,_=>simp at hi)
end
end Go.Proofs.YtnkkokmmeplbgaaGreat
