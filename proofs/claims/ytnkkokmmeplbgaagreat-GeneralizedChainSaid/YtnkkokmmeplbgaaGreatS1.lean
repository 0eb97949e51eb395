/-
  Contracts: the acceptor.
-/
import Derived.Test.YtnkkokmmeplbgaaGreatC12
import Derived.Test.YtnkkokmmeplbgaaGreatB23
import Derived.Test.YtnkkokmmeplbgaaGreatA8
namespace Go.Proofs.YtnkkokmmeplbgaaGreat
set_option maxRecDepth 100000
set_option maxHeartbeats 1000000
open Go.RowKit
def Qpz (l:Qv)(vs:List Qz)(k:Nat):Prop:=∀(i j:Nat) (x y:Qz),j<i→i<k→vs[i]?=some x→vs[j]?=some y→QiN l x y=true
theorem Qtd {l:Qv}{vs:List Qz}(hO:Yv l)(hc:QJ l=0)(hel:∀v∈vs,QA v l=true)(h:Qpz l vs vs.length):∀(i j:Nat),i<vs.length→j<vs.length→QE l (Kt vs i) (Kt vs j)=true∨QE l (Kt vs j) (Kt vs i)=true:=by
 intro i j hi hj;obtain⟨x,hx⟩:=Qw hi;obtain⟨y,hy⟩:=Qw hj
 have ex:=hel x (List.mem_of_getElem? hx)
 have ey:=hel y (List.mem_of_getElem? hy)
 rw[Qam hx,Qam hy]
 rcases Nat.lt_trichotomy i j with e|e|e
 ·have:=h j i y x e hj hy hx
  rw[Qhl hc ey ex,Bool.or_eq_true] at this;exact this.symm
 ·subst e;rw[hx] at hy;cases hy;exact .inl (Xo l hO x ex)
 have:=h i j x y e hi hx hy
 rw[Qhl hc ex ey,Bool.or_eq_true] at this;exact this
theorem Qn1 {l:Qv}{vs:List Qz}(hO:Yv l)(hc:QJ l=0)(hel:∀v∈vs,QA v l=true)(h:Qpz l vs vs.length):∃out,KE l vs vs.length=some out:=
 Qgs hO hel (fun i j x y hji hx hy=>by
  have:=h i j x y hji (List.getElem?_eq_some_iff.1 hx).1 hx hy
  rwa [Qhl hc (hel x (List.mem_of_getElem? hx)) (hel y (List.mem_of_getElem? hy))] at this) vs.length (Nat.le_refl _)
theorem Qok {l:Qv}{vs:List Qz}(hO:Yv l)(hc:QJ l=0)(hel:∀v∈vs,QA v l=true){i j:Nat}{x y:Qz}(hx:vs[i]?=some x)(hy:vs[j]?=some y)(h:QiN l x y=false):KE l vs vs.length=none:=by
 cases hn:KE l vs vs.length with
 |none=>rfl
 |some out=>
  exfalso
  obtain⟨m,nd,pw⟩:=QaF hO hel _ out (Nat.le_refl _) hn
  have ex:=hel x (List.mem_of_getElem? hx)
  have ey:=hel y (List.mem_of_getElem? hy)
  rw[Qhl hc ex ey,Bool.or_eq_false_iff] at h
  have hi:=(List.getElem?_eq_some_iff.1 hx).1
  have hj:=(List.getElem?_eq_some_iff.1 hy).1
  obtain⟨a,ha⟩:=List.mem_iff_getElem?.1 ((m (i:Int)).2 ⟨by omega,by omega⟩);obtain⟨b,hb⟩:=List.mem_iff_getElem?.1 ((m (j:Int)).2 ⟨by omega,by omega⟩);obtain⟨a1,a2⟩:=List.getElem?_eq_some_iff.1 ha;obtain⟨b1,b2⟩:=List.getElem?_eq_some_iff.1 hb
  rcases Nat.lt_trichotomy a b with e|e|e
  ·have:=List.pairwise_iff_getElem.1 pw a b a1 b1 e
   rw[a2,b2,Qam hx,Qam hy,h.1] at this;cases this
  ·subst e
   rw[a2] at b2
   obtain rfl:i=j:=by omega
   rw[hx] at hy;cases hy
   rw[Xo l hO x ex] at h;cases h.1
  have:=List.pairwise_iff_getElem.1 pw b a b1 a1 e
  rw[a2,b2,Qam hx,Qam hy,h.2] at this;cases this
theorem QmD {l:Qv}{vs:List Qz}{out:List Int}{i:Nat}{nx:Int}{c:Bool}(h:Qfz l vs out (i+1) (if c then(i:Int) else nx))(hc:c=true):Qfz l vs out (i+1) i:=by rwa [if_pos hc] at h
theorem Qj3 {l:Qv}{vs:List Qz}{out:List Int}{i:Nat}{nx:Int}{c:Bool}(h:Qfz l vs out (i+1) (if c then(i:Int) else nx))(hc:c=false):Qfz l vs out (i+1) nx:=by rwa [if_neg (by rw[hc];decide)] at h
theorem Qqh (l:Qv)(vs:List Qz)(hS:∀v∈vs,SmV 1000000 v)(hl:vs.length≤1000000):FC Tryz.prog 55 [.agg (Q7 l),Ki vs] (.tup [ivs (Qee l vs).1,bl (Qee l vs).2]):=by
 refine Qg [4,5] Tryz.func55 rfl rfl 87 Tryz.ntmps55 (Nat.le_of_ble_eq_true rfl) ?_
 intro E hN;refine X5 ?_;refine zP (Qd (QqD l vs) rfl rfl rfl) ?_;refine QR ?_
 refine zq ?_ ?_<;>intro h6
 ·have h1:¬JP l vs=0:=by simpa using h6
  refine QK ?_;refine zQ ?_
  rw[Qee,if_neg h1];rfl
 have h1:JP l vs=0:=by simpa using h6
 have hc:=Qgh h1
 have hO:=Q9 hc.1
 refine Xy ?_;refine Qq (fun x:{k:Nat // k≤(vs).length∧Qpz l vs k}=>⟨[(1,Ki vs),(2,.ptr 0 0),(6,i64 (x.1:Nat))],[(0,.var 26 (Q7 l))],1⟩) (fun x=>(vs).length-x.1) (⟨0,Nat.zero_le _,fun _ _ _ _ _ h=>absurd h (Nat.not_lt_zero _)⟩) ?_ ?_
 ·exact Qa rfl (YG trivial) ⟨rfl,rfl,rfl,trivial⟩
 rintro⟨k,hk,hg⟩;dsimp only;refine Jl ?_
 refine zq ?_ ?_<;>intro h10
 ·have hlt:k<(vs).length:=by simpa using h10
  obtain⟨x,hx⟩:=Qw hlt;refine Jl ?_;refine Qq (fun z:{j:Nat // j≤k∧∀(j':Nat) (y:Qz),j'<j→vs[j']?=some y→QiN l x y=true}=>⟨[(1,Ki vs),(2,.ptr 0 0),(6,i64 (k:Nat)),(7,i64 (z.1:Nat))],[(0,.var 26 (Q7 l))],1⟩) (fun z=>k-z.1) (⟨0,Nat.zero_le _,fun _ _ h=>absurd h (Nat.not_lt_zero _)⟩) ?_ ?_
  ·exact Qa rfl (Ks trivial) ⟨rfl,rfl,rfl,trivial⟩
  rintro⟨j,hj,hgj⟩;dsimp only;refine Xy ?_
  refine zq ?_ ?_<;>intro h14
  rotate_left
  ·have hgej:k≤j:=by have:=of_decide_eq_false h14;omega
   have ejk:j=k:=by omega
   have hg2:=hgj
   rw[ejk] at hg2;refine QL ?_;refine Qc ?_
   exact⟨⟨k+1,hlt,fun i' j' x' y' h1 h2 hx' hy'=>by
    by_cases e:i'=k
    ·subst e;rw[hx] at hx';cases hx';exact hg2 j' y' (by omega) hy'
    exact hg i' j' x' y' h1 (by omega) hx' hy'⟩,Qa rfl (Yw ⟨JC,rfl,trivial⟩) ⟨rfl,rfl,rfl,trivial⟩,by dsimp only;omega⟩
  have hjl:j<k:=by have:=of_decide_eq_true h14;omega
  obtain⟨y,hy⟩:=Qw (show j<vs.length by omega);refine QK ?_;refine zD 10 ?_;refine QI ?_;refine zp (Qh rfl rfl rfl k rfl _ (Q8 hx) rfl) ?_;refine QI ?_;refine zp (Qh rfl rfl rfl j rfl _ (Q8 hy) rfl) ?_;refine zl ?_;refine zp (Qd (Qtj l x y (hS x (List.mem_of_getElem? hx)) (hS y (List.mem_of_getElem? hy))) rfl rfl rfl) ?_;refine QR ?_
  refine zq ?_ ?_<;>intro h20
  ·have h9:QiN l x y=false:=by simpa using h20
   have hno:=Qok hO hc.1 hc.2 hx hy h9
   refine QK ?_;refine zQ ?_
   rw[Qee,if_pos h1,hno];rfl
  refine QL ?_;refine Qc ?_
  exact⟨⟨j+1,hjl,fun j' y' h1 hy'=>by
   by_cases e:j'=j
   ·subst e;rw[hy] at hy';cases hy';simp_all
   exact hgj j' y' (by omega) hy'⟩,Qa rfl (YG ⟨JC,rfl,trivial⟩) ⟨rfl,rfl,rfl,trivial⟩,by dsimp only;omega⟩
 have hge:vs.length≤k:=by simpa using h10
 have hpc:Qpz l vs vs.length:=by
  obtain rfl:k=vs.length:=by omega
  exact hg
 refine Xy ?_;obtain⟨o,ho⟩:=Qn1 hO hc.1 hc.2 hpc
 have tot:=Qtd hO hc.1 hc.2 hpc
 refine QC (QbN rfl 8 3 1 rfl) ?_;refine Qq (fun z:{out:List Int // Qs1 l vs out}=>⟨[(1,Ki vs),(2,.ptr 0 0),(8,.own 1 z.1.length)],[(0,.var 26 (Q7 l)),(1,.arr 3 1 (z.1.map iv1))],2⟩) (fun z=>vs.length-z.1.length) (⟨[],Qun⟩) ?_ ?_
 ·exact Qa rfl (YG trivial) ⟨rfl,rfl,rfl,rfl,rfl,(XM (fun _=>rfl) _),trivial⟩
 rintro⟨out,hSel⟩;dsimp only
 have hrg:=Qso hSel.rg hSel.nd
 refine QK ?_;refine zP ((YD rfl rfl rfl (by simp))) ?_;refine QK ?_
 refine zq ?_ ?_<;>intro h27
 rotate_left
 ·have hgo:vs.length≤out.length:=by have:=of_decide_eq_false h27;rw[List.length_map] at this;omega
  have heq:=QqE hO hc.2 ho hSel hgo
  refine Xy ?_;refine QC (JU 4 1 rfl rfl (by simp) (QN (fun _=>rfl) _) (QkE _) rfl) ?_;refine zR ?_;rw[Qee,if_pos h1,ho,heq]
 have hlo:out.length<vs.length:=by have:=of_decide_eq_true h27;rw[List.length_map] at this;omega
 refine JF ?_;refine Qq (fun z:{q:Nat×Int // q.1≤vs.length∧Qfz l vs out q.1 q.2}=>⟨[(1,Ki vs),(2,.ptr 0 0),(8,.own 1 out.length),(9,i64 z.1.2),(10,i64 (z.1.1:Nat))],[(0,.var 26 (Q7 l)),(1,.arr 3 1 (out.map iv1))],2⟩) (fun z=>vs.length-z.1.1) (⟨(0,-1),Nat.zero_le _,Qq3 _⟩) ?_ ?_
 ·exact Qa rfl (Ks (X2 trivial)) ⟨rfl,rfl,rfl,rfl,rfl,(XM (fun _=>rfl) _),trivial⟩
 rintro⟨⟨k,nx⟩,hk,hNx⟩;dsimp only at hk hNx ⊢;refine Jl ?_
 refine zq ?_ ?_<;>intro h33
 rotate_left
 ·have hge:vs.length≤k:=by simpa using h33
  obtain rfl:k=vs.length:=by omega
  have hsn:=Qtz hSel hlo hNx
  refine QK ?_;refine zP (Q0 rfl rfl rfl rfl (by exact rfl) (by decide) (by decide)) ?_;refine XA hN rfl rfl rfl (by simp) rfl rfl rfl (by simp[Xi];omega) rfl rfl rfl rfl ?_;refine zS ?_;refine Qc ?_;exact⟨⟨out++[nx],hsn.2.2⟩,Qa rfl (Yw ⟨(cgO (by simp[Xi])),rfl,trivial⟩) ⟨rfl,rfl,rfl,(cgA (by simp[Xi,iv1])),rfl,(XM (fun _=>rfl) _),trivial⟩,by simp only[List.length_append,List.length_singleton];omega⟩
 have hlt:k<(vs).length:=by simpa using h33
 obtain⟨x,hx⟩:=Qw hlt
 have hst:=Qqw hO hc.2 tot hlt hNx
 have hgx:Kt vs (k:Int)=x:=Qam hx
 rw[hgx] at hst;refine QK ?_;refine zD 32 ?_;refine QR ?_;refine zp (Qim (Qvn out (k:Int)) rfl rfl rfl (.cons (.own rfl (by simp) (QN (fun _=>rfl) _) (QkE _)) (.cons (.fz rfl) .nil))) ?_;refine QR ?_
 refine zd 52 ?_ ?_<;>intro h34
 rotate_left
 ·refine Qha ?_;refine X5 ?_;refine Qc ?_;exact⟨⟨(k+1,nx),hlt,Qj3 hst (by simp_all)⟩,Qa rfl (Ks ⟨JC,rfl,trivial⟩) ⟨rfl,rfl,rfl,rfl,rfl,(XM (fun _=>rfl) _),trivial⟩,by dsimp only;omega⟩
 refine QI ?_
 refine zd 55 ?_ ?_<;>intro h35
 ·refine Qvv ?_;refine vP (XT (m0 (n1 h34))) (XK rfl rfl h35 rfl) ?_;refine X5 ?_;refine Qc ?_;exact⟨⟨(k+1,(k:Int)),hlt,QmD hst (by simp_all)⟩,Qa rfl (Ks ⟨JC,rfl,trivial⟩) ⟨rfl,rfl,rfl,rfl,rfl,(XM (fun _=>rfl) _),trivial⟩,by dsimp only;omega⟩
 have hnx:0≤nx∧nx<vs.length:=by
  rcases hNx with ⟨h1,-⟩|⟨h1,h2,-⟩
  ·rw[h1] at h35;simp at h35
  exact⟨h1,by omega⟩
 obtain⟨y,hy⟩:=Qw (show nx.toNat<vs.length by omega);have hni:(nx.toNat:Int)=nx:=by omega
 have hgy:Kt vs nx=y:=by rw[←hni];exact Qam hy
 rw[hgy] at hst;refine QI ?_;refine vP (X3 h35) (Qh rfl rfl rfl k rfl _ (Q8 hx) rfl) ?_;refine QI ?_;refine vP (X3 h35) (Qh rfl rfl rfl nx.toNat hni.symm _ (Q8 hy) rfl) ?_;refine Yy ?_;refine vP (X3 h35) (Qd (Qho l hO x y (hc.2 x (List.mem_of_getElem? hx)) (hc.2 y (List.mem_of_getElem? hy)) (hS x (List.mem_of_getElem? hx))) rfl rfl rfl) ?_;refine Yy ?_
 refine zd 66 ?_ ?_<;>intro h42
 rotate_left
 ·refine X5 ?_;refine vP (X3 h35) (XG rfl rfl h42 rfl) ?_;refine vP (XT (m0 (n1 h34))) (XG rfl rfl h35 rfl) ?_;refine Jl ?_;refine Qc ?_;exact⟨⟨(k+1,nx),hlt,Qj3 hst (by simp_all)⟩,Qa rfl (Ks ⟨JC,rfl,trivial⟩) ⟨rfl,rfl,rfl,rfl,rfl,(XM (fun _=>rfl) _),trivial⟩,by dsimp only;omega⟩
 refine QI ?_;refine vP (XT h42) (Qh rfl rfl rfl nx.toNat hni.symm _ (Q8 hy) rfl) ?_;refine QI ?_;refine vP (XT h42) (Qh rfl rfl rfl k rfl _ (Q8 hx) rfl) ?_;refine Yy ?_;refine vP (XT h42) (Qd (Qho l hO y x (hc.2 y (List.mem_of_getElem? hy)) (hc.2 x (List.mem_of_getElem? hx)) (hS y (List.mem_of_getElem? hy))) rfl rfl rfl) ?_;refine Yy ?_;refine vP (X3 h35) (XK rfl rfl h42 rfl) ?_;refine vP (XT (m0 (n1 h34))) (XG rfl rfl h35 rfl) ?_;refine QR ?_
 refine zq ?_ ?_<;>intro h48
 ·refine Jl ?_;refine Qc ?_;exact⟨⟨(k+1,(k:Int)),hlt,QmD hst (by simp_all)⟩,Qa rfl (Ks ⟨JC,rfl,trivial⟩) ⟨rfl,rfl,rfl,rfl,rfl,(XM (fun _=>rfl) _),trivial⟩,by dsimp only;omega⟩
 refine QL ?_;refine Qc ?_;exact⟨⟨(k+1,nx),hlt,Qj3 hst (by simp_all)⟩,Qa rfl (Ks ⟨JC,rfl,trivial⟩) ⟨rfl,rfl,rfl,rfl,rfl,(XM (fun _=>rfl) _),trivial⟩,by dsimp only;omega⟩
end Go.Proofs.YtnkkokmmeplbgaaGreat
namespace Go.Proofs.YtnkkokmmeplbgaaGreat
open Go.RowKit
structure Kb where
 k:Int
 f:Int
 t:Int
 n:Int
 v:Qz
abbrev Ja (b:Kb):List AV:=[i64 b.k,i64 b.f,i64 b.t,i64 b.n,i64 b.v.N,Jz b.v.nm,Ki b.v.ps,ens b.v.es]
abbrev Qba (l:List Kb):AV:=.sl (l.map fun b=>Ja b) none
def Kb.zero:Kb:=⟨0,0,0,0,Qz.zero⟩
end Go.Proofs.YtnkkokmmeplbgaaGreat
