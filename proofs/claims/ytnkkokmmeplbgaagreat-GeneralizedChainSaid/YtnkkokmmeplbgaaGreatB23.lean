/-
  Contracts: registers, meets.
-/
import Derived.Test.YtnkkokmmeplbgaaGreatB18
import Derived.Test.YtnkkokmmeplbgaaGreatB20
import Derived.Test.YtnkkokmmeplbgaaGreatB14
namespace Go.Proofs.YtnkkokmmeplbgaaGreat
open Go.RowKit
theorem Qod {l:Qv}(hO:Yv l)(hk:l.k=10):QeL l.nm l.rs:=by
 obtain⟨h1,h2,h3⟩:=Qlf hO
 have h:=hO.four.1
 unfold JS Yi at h
 rw[hk,show KO 10=12 from rfl] at h
 have hl:(decide ((l.nm.length:Int) > 12)||decide ((l.rs.length:Int) > 32))=false:=by
  cases hb:(decide ((l.nm.length:Int) > 12)||decide ((l.rs.length:Int) > 32))
  ·rfl
  rw[hb] at h;cases h
 simp only[Bool.or_eq_false_iff,decide_eq_false_iff_not] at hl
 exact⟨h2 (by omega),h1,by omega,by omega,h3⟩
theorem JoL.of (l:Qv)(hO:Yv l):JoL l:=.mk l (fun hk s h1 h2=>Qlt l.nm l.rs (Qod hO hk) s h1 h2) (fun p hp=>JoL.of p (hO.part p hp))
termination_by l
decreasing_by exact Qv.sizeOf_ps ‹_›
section
variable {rs:List Ru}{s t c:List Nm}
theorem QsC {x:Nm}(h:x∈s):x∈Qaf rs s:=by
 unfold Qaf
 split
 ·exact List.mem_append_left _ h
 exact h
theorem QmA:∀(n:Nat) (s:List Nm) {x:Nm},x∈s→x∈YH rs n s
 |0,_,_,h=>h
 |n+1,s,_,h=>QmA n (Qaf rs s) (QsC h)
theorem Qsr (hc:Qai rs c=true)(h:∀x∈s,x∈c):∀x∈Qaf rs s,x∈c:=by
 unfold Qaf
 split
 ·rename_i r hr
  have h1:=List.find?_some hr
  simp only[Bool.and_eq_true] at h1
  have h2:=List.all_eq_true.1 hc r (List.mem_of_find?_eq_some hr)
  simp only[W4,Bool.not_eq_true',Bool.and_eq_false_iff,Bool.not_eq_false'] at h2
  have h3:Yu r.i c=true:=KS.2 fun x hx=>h x (KS.1 h1.1 x hx)
  rw[h3] at h2
  have h4:=Y2.1 (h2.resolve_left (by decide))
  intro x hx
  rcases List.mem_append.1 hx with hx|hx
  ·exact h x hx
  rw[List.mem_singleton.1 hx];exact h4
 exact h
theorem QmF (hc:Qai rs c=true):∀(n:Nat) (s:List Nm),(∀x∈s,x∈c)→∀x∈YH rs n s,x∈c
 |0,_,h=>h
 |n+1,s,h=>QmF hc n (Qaf rs s) (Qsr hc h)
theorem QqH:QaD (Yt (YH rs rs.length s)) rs 0=none:=by
 cases hf:QaD (Yt (YH rs rs.length s)) rs 0 with
 |none=>rfl
 |some p=>
  obtain⟨h1,h2⟩:=QbH _ rs 0 (j:=p.1) (r:=p.2) hf
  have key:∀(n:Nat) (t:List Nm),QiR rs t≤n→QiR rs (YH rs n t)=0∨QaD (Yt (YH rs n t)) rs 0=none:=by
   intro n
   induction n with
   |zero=>intro t h;exact .inl (by simp only[YH];omega)
   |succ n ih=>
    intro t h
    cases hf:QaD (Yt t) rs 0 with
    |none=>right;rw[QaK (QcZ hf)];exact hf
    |some p=>
     obtain⟨h1,h2⟩:=QbH _ rs 0 (j:=p.1) (r:=p.2) hf
     have h3:Qaf rs t=t++[p.2.t]:=by rw[QfS,hf]
     have h4:=Qc9 h2 h1
     show QiR rs (YH rs n (Qaf rs t))=0∨QaD (Yt (YH rs n (Qaf rs t))) rs 0=none
     rw[h3];exact ih _ (by omega)
  rcases key rs.length s QkZ with h|h
  ·have:=Qc9 h2 h1;omega
  rw[hf] at h;cases h
end
theorem QcO {u:List Nm}{rs:List Ru}{s:List Nm}{x:Nm}:x∈Qae u rs s↔x∈u∧x∈YH rs rs.length s:=by
 unfold Qae
 rw[List.mem_filter,Y2]
theorem Qkm {u:List Nm}{rs:List Ru}{s:List Nm}(h:QF u=true):QF (Qae u rs s)=true:=Qbq ((Ye h).filter _)
theorem QkI {u:List Nm}{rs:List Ru}{s:List Nm}(h:∀r∈rs,r.t∈u):Qai rs (Qae u rs s)=true:=by
 unfold Qai
 rw[List.all_eq_true];intro r hr
 have h1:=Qs8 (QqH (rs:=rs) (s:=s)) r hr
 simp only[W4,Bool.not_eq_true',Bool.and_eq_false_iff,Bool.not_eq_false']
 cases hs:Yu r.i (Qae u rs s)
 ·exact .inl rfl
 ·right
  have h2:Yu r.i (YH rs rs.length s)=true:=KS.2 fun x hx=>(QcO.1 (KS.1 hs x hx)).2
  rw[Yt,h2] at h1
  have h3:JL (YH rs rs.length s) r.t=true:=by simpa using h1
  exact Y2.2 (QcO.2 ⟨h r hr,Y2.1 h3⟩)
section
variable {a b:List En}
theorem WL (ha:YJ a)(hb:YJ b){x:En}:x∈Yc a b↔(x∈a∧¬ ∃y∈b,leE x y)∨(x∈b∧¬ ∃y∈a,ltE x y):=by
 unfold Yc
 rw[List.mem_mergeSort,List.mem_append,List.mem_filter,List.mem_filter];refine or_congr (and_congr_right fun hx=>?_) (and_congr_right fun hx=>?_)
 ·rw[←Qca (ha.valid x hx) hb.valid,Qbj];simp
 unfold QcP
 rw[Bool.not_eq_true',List.any_eq_false]
 constructor
 ·rintro h ⟨y,hy,hl⟩
  exact h y hy ((Qjn (hb.valid x hx) (ha.valid y hy)).2 hl)
 intro h y hy hl;exact h ⟨y,hy,(Qjn (hb.valid x hx) (ha.valid y hy)).1 hl⟩
theorem Qfg (ha:YJ a)(hb:YJ b){x:En}(h:x∈Yc a b):x∈a∨x∈b:=by
 rcases(WL ha hb).1 h with h|h
 ·exact .inl h.1
 exact .inr h.1
theorem Qqq (ha:YJ a)(hb:YJ b):YJ (Yc a b):=by
 have each:∀ {P:En→Prop},(∀x∈a,P x)→(∀x∈b,P x)→∀x∈Yc a b,P x:=fun h1 h2 x hx=>by
  rcases Qfg ha hb hx with h|h
  ·exact h1 x h
  exact h2 x h
 refine⟨each ha.valid hb.valid,each ha.ne hb.ne,each ha.name hb.name,?_,fun x hx y hy hl=>?_⟩
 ·have hn:(Yc a b).Nodup:=by
   unfold Yc
   rw[(List.mergeSort_perm _ _).nodup_iff,List.nodup_append];refine⟨ha.nodup.filter _,hb.nodup.filter _,fun x hx y hy e=>?_⟩
   subst e
   obtain⟨h1,h2⟩:=List.mem_filter.1 hx
   have h3:=(List.mem_filter.1 hy).1
   have:J9 b x=true:=(Qca (ha.valid x h1) hb.valid).2 ⟨x,h3,Qfv x⟩
   simp[Qbj,this] at h2
  have hs:(Yc a b).Pairwise (fun x y=>Qe5 x y=true):=List.pairwise_mergeSort (fun x y z h1 h2=>by
    simp only[Qe5,decide_eq_true_eq] at *
    exact YL.trans _ _ _ h1 h2) (fun x y=>by
    have:=YL.anti x y
    simp only[Qe5,Bool.or_eq_true,decide_eq_true_eq]
    omega) _
  refine(hs.and hn).imp fun {x y} h=>?_
  have h1:JV x y≤0:=of_decide_eq_true h.1
  have h2:JV x y≠0:=fun e=>h.2 (YL.eq x y e)
  omega
 rcases(WL ha hb).1 hx with h1|h1<;>rcases(WL ha hb).1 hy with h2|h2
 ·exact ha.anti x h1.1 y h2.1 hl
 ·exact h1.2 ⟨y,h2.1,.inl hl⟩
 ·exact h1.2 ⟨y,h2.1,hl⟩
 exact hb.anti x h1.1 y h2.1 hl
theorem Ql5 (ha:YJ a)(hb:YJ b):∀x∈a,∃y∈Yc a b,leE x y:=fun x hx=>by
 by_cases h:∃y∈b,leE x y
 ·obtain⟨y,hy,hl⟩:=h
  refine⟨y,(WL ha hb).2 (.inr ⟨hy,fun⟨z,hz,hlt⟩=>?_⟩),hl⟩;exact ha.anti x hx z hz (Qve hl hlt)
 exact⟨x,(WL ha hb).2 (.inl ⟨hx,h⟩),Qfv x⟩
theorem Qka (ha:YJ a)(hb:YJ b):∀x∈b,∃y∈Yc a b,leE x y:=fun x hx=>by
 by_cases h:∃y∈a,ltE x y
 ·obtain⟨y,hy,hl⟩:=h
  refine⟨y,(WL ha hb).2 (.inl ⟨hy,fun⟨z,hz,hle⟩=>?_⟩),.inl hl⟩;exact hb.anti x hx z hz (Qvp hl hle)
 exact⟨x,(WL ha hb).2 (.inr ⟨hx,h⟩),Qfv x⟩
end
structure Lub (l:Qv) (a b j:Qz):Prop where
 el:QA j l=true
 le1:QE l a j=true
 le2:QE l b j=true
 least:∀c,QA c l=true→QE l a c=true→QE l b c=true→QE l j c=true
theorem Qs6 {l:Qv}(hO:Yv l){a b:Qz}(ha:QA a l=true)(h:QE l b a=true):Lub l a b a:=⟨ha,Xo l hO a ha,h,fun _ _ h1 _=>h1⟩
theorem Qqk {l:Qv}(hO:Yv l){a b:Qz}(hb:QA b l=true)(h:QE l a b=true):Lub l a b b:=⟨hb,h,Xo l hO b hb,fun _ _ _ h2=>h2⟩
theorem Qd9 {q:Qv}{a b:Qz}(p3:a.nm.length=a.ps.length)(p4:QF a.nm=true)(q3:b.nm.length=b.ps.length)(q4:QF b.nm=true){s:Nm}(h:s∈a.nm∨s∈b.nm):
  (∃(i:Nat) (p:Qz),a.nm[i]?=some s∧a.ps[i]?=some p∧s∉b.nm∧Yx q a b s=p)∨(∃(j:Nat) (y:Qz),b.nm[j]?=some s∧b.ps[j]?=some y∧s∉a.nm∧Yx q a b s=y) ∨
  ∃(i:Nat) (p:Qz) (j:Nat) (y:Qz),a.nm[i]?=some s∧a.ps[i]?=some p∧b.nm[j]?=some s∧b.ps[j]?=some y∧Yx q a b s=Qs q p y:=by
 have at_:∀ {v:Qz},v.nm.length=v.ps.length→QF v.nm=true→s∈v.nm→∃(i:Nat) (p:Qz),v.nm[i]?=some s∧v.ps[i]?=some p∧YB v s=some p:=fun {v} h1 h2 h3=>by
  obtain⟨i,hi⟩:=List.mem_iff_getElem?.1 h3;obtain⟨p,hp⟩:=Qw (show i<v.ps.length by have:=(List.getElem?_eq_some_iff.1 hi).1;omega);exact⟨i,p,hi,hp,by rw[Qgi h2 hi,hp]⟩
 by_cases m1:s∈a.nm<;>by_cases m2:s∈b.nm
 ·obtain⟨i,p,e1,e2,e3⟩:=at_ p3 p4 m1
  obtain⟨j,y,f1,f2,f3⟩:=at_ q3 q4 m2;exact .inr (.inr ⟨i,p,j,y,e1,e2,f1,f2,Qya e3 f3⟩)
 ·obtain⟨i,p,e1,e2,e3⟩:=at_ p3 p4 m1
  exact .inl ⟨i,p,e1,e2,m2,QxV e3 (Qgc m2)⟩
 ·obtain⟨j,y,f1,f2,f3⟩:=at_ q3 q4 m2
  exact .inr (.inl ⟨j,y,f1,f2,m1,QxF (Qgc m1) f3⟩)
 rcases h with h|h
 ·exact absurd h m1
 exact absurd h m2
theorem Qfs {l:List Nm}(h:QF l=true){i j:Nat}{s:Nm}(hi:l[i]?=some s)(hj:l[j]?=some s):i=j:=Qix (Qef h) hi hj
theorem QnD (l:Qv)(hO:Yv l)(ih:∀q∈l.ps,∀x y,QA x q=true→QA y q=true→Lub q x y (Qs q x y))(a b:Qz)(ha:QA a l=true)(hb:QA b l=true):Lub l a b (Qs l a b):=by
 have tot:l.k≠4→l.k≠10→l.k≠9→l.k≠5→l.k≠6→(l.k=7→QbS l.ps a.ps b.ps=none)→QE l a b=true∨QE l b a=true→Lub l a b (Qs l a b):=fun h4 h10 h9 h5 h6 hx h=>by
  rw[Ko h4 h10 h9 h5 h6 hx]
  by_cases h1:QE l a b=true
  ·rw[if_pos h1];exact Qqk hO hb h1
  rw[if_neg h1]
  have h2:=h.resolve_left h1
  rw[if_pos h2];exact Qs6 hO ha h2
 rcases QfN hO with hk|hk|hk|hk|hk|hk|hk|hk|hk|hk
 ·exact tot (by omega) (by omega) (by omega) (by omega) (by omega) (fun h=>by omega) (by rw[YC (.inl hk),YC (.inl hk)];omega)
 ·exact tot (by omega) (by omega) (by omega) (by omega) (by omega) (fun h=>by omega) (by rw[YC (.inr hk),YC (.inr hk)];omega)
 ·exact tot (by omega) (by omega) (by omega) (by omega) (by omega) (fun h=>by omega) (by rw[QbB hk,QbB hk];omega)
 ·-- sets
  obtain⟨p1,p2,p3,p4,p5,p6⟩:=Ws ha (.inl hk);obtain⟨q1,q2,q3,q4,q5,q6⟩:=Ws hb (.inl hk)
  have hE:Qs l a b=.mk 0 (uni a.nm b.nm) [] []:=by rw[JN,hk];rfl
  rw[hE]
  have hm:∀z,z∈uni a.nm b.nm↔z∈a.nm∨z∈b.nm:=fun z=>Qdq p4 q4
  refine⟨Qrq hk rfl rfl rfl (Qdb p4 q4) fun s hs=>?_,(Kr (.inl hk)).2 fun x hx=>(hm x).2 (.inl hx),(Kr (.inl hk)).2 fun x hx=>(hm x).2 (.inr hx),fun c _ h1 h2=>(Kr (.inl hk)).2 fun x hx=>?_⟩
  ·rcases(hm s).1 hs with h|h
   ·exact p5 s h
   exact q5 s h
  rcases(hm x).1 hx with h|h
  ·exact(Kr (.inl hk)).1 h1 x h
  exact(Kr (.inl hk)).1 h2 x h
 ·-- maps
  obtain⟨q,hp⟩:=Qa1 hO hk
  have mq:q∈l.ps:=by rw[hp];simp
  obtain⟨p1,p2,p3,p4,p5,p6⟩:=WR ha hk hp;obtain⟨q1,q2,q3,q4,q5,q6⟩:=WR hb hk hp
  obtain⟨U,hU⟩:∃U,U=uni a.nm b.nm:=⟨_,rfl⟩
  have hE:Qs l a b=.mk 0 U (U.map (Yx q a b)) []:=by rw[JN,hk,hp,QgF,hU];rfl
  rw[hE]
  have hm:∀z,z∈U↔z∈a.nm∨z∈b.nm:=fun z=>by rw[hU];exact Qdq p4 q4
  have hs:QF U=true:=by rw[hU];exact Qdb p4 q4
  have hlen:U.length=(U.map (Yx q a b)).length:=by simp
  have oq:=hO.part q mq
  have G:∀ {i j:Nat} {x y:Qz},a.ps[i]?=some x→b.ps[j]?=some y→Lub q x y (Qs q x y):=fun h1 h2=>ih q mq _ _ (p6 _ (List.mem_of_getElem? h1)).1 (q6 _ (List.mem_of_getElem? h2)).1
  have at_:∀ {i:Nat} {s:Nm} {z:Qz},U[i]?=some s→(U.map (Yx q a b))[i]?=some z→z=Yx q a b s∧(s∈a.nm∨s∈b.nm):=fun h1 h2=>by
   rw[List.getElem?_map,h1] at h2
   cases h2
   exact⟨rfl,(hm _).1 (List.mem_of_getElem? h1)⟩
  have jl:(Qz.mk 0 U (U.map (Yx q a b)) []).nm.length=(Qz.mk 0 U (U.map (Yx q a b)) []).ps.length:=hlen
  refine⟨Qr8 hk hp rfl rfl hlen hs (fun s hs=>?_) (fun z hz=>?_),(Qbd hk hp p3 jl hs).2 fun i s p h1 h2=>?_,(Qbd hk hp q3 jl hs).2 fun i s p h1 h2=>?_,fun c hc h1 h2=>?_⟩
  ·rcases(hm s).1 hs with h|h
   ·exact p5 s h
   exact q5 s h
  ·have hz:z∈U.map (Yx q a b):=hz
   obtain⟨s,hsU,rfl⟩:=List.mem_map.1 hz
   rcases Qd9 (q:=q) p3 p4 q3 q4 ((hm s).1 hsU) with ⟨i,p,e1,e2,-,e4⟩|⟨j,y,e1,e2,-,e4⟩|⟨i,p,j,y,e1,e2,e3,e4,e5⟩
   ·rw[e4];exact p6 p (List.mem_of_getElem? e2)
   ·rw[e4];exact q6 y (List.mem_of_getElem? e2)
   rw[e5]
   have L:=G e2 e4
   refine⟨L.el,fun e=>?_⟩
   have hpm:=p6 p (List.mem_of_getElem? e2)
   exact hpm.2 (QbG q oq p _ hpm.1 (Qak q oq) (by rw[←e];exact L.le1) (KC q oq p hpm.1))
  ·obtain⟨j,hj⟩:=List.mem_iff_getElem?.1 ((hm s).2 (.inl (List.mem_of_getElem? h1)))
   refine⟨j,Yx q a b s,hj,by show(U.map (Yx q a b))[j]?=_;rw[List.getElem?_map,hj];rfl,?_⟩
   rcases Qd9 (q:=q) p3 p4 q3 q4 (.inl (List.mem_of_getElem? h1)) with ⟨i',p',e1,e2,-,e4⟩|⟨_,_,_,_,e3,_⟩|⟨i',p',j',y,e1,e2,e3,e4,e5⟩
   ·have:=Qfs p4 h1 e1;subst this
    rw[h2] at e2;cases e2
    rw[e4];exact Xo q oq p (p6 p (List.mem_of_getElem? h2)).1
   ·exact absurd (List.mem_of_getElem? h1) e3
   have:=Qfs p4 h1 e1;subst this
   rw[h2] at e2;cases e2
   rw[e5];exact(G h2 e4).le1
  ·obtain⟨j,hj⟩:=List.mem_iff_getElem?.1 ((hm s).2 (.inr (List.mem_of_getElem? h1)))
   refine⟨j,Yx q a b s,hj,by show(U.map (Yx q a b))[j]?=_;rw[List.getElem?_map,hj];rfl,?_⟩
   rcases Qd9 (q:=q) p3 p4 q3 q4 (.inr (List.mem_of_getElem? h1)) with ⟨_,_,_,_,e3,_⟩|⟨i',p',e1,e2,-,e4⟩|⟨i',p',j',y,e1,e2,e3,e4,e5⟩
   ·exact absurd (List.mem_of_getElem? h1) e3
   ·have:=Qfs q4 h1 e1;subst this
    rw[h2] at e2;cases e2
    rw[e4];exact Xo q oq p (q6 p (List.mem_of_getElem? h2)).1
   have:=Qfs q4 h1 e3;subst this
   rw[h2] at e4;cases e4
   rw[e5];exact(G e2 h2).le2
  obtain⟨-,-,r3,r4,-,r6⟩:=WR hc hk hp
  have l1:=(Qbd hk hp p3 r3 r4).1 h1
  have l2:=(Qbd hk hp q3 r3 r4).1 h2
  refine(Qbd hk hp jl r3 r4).2 fun i s z hs hz=>?_
  obtain⟨rfl,hor⟩:=at_ hs hz
  rcases Qd9 (q:=q) p3 p4 q3 q4 hor with ⟨i',p,e1,e2,-,e4⟩|⟨j',y,e1,e2,-,e4⟩|⟨i',p,j',y,e1,e2,e3,e4,e5⟩
  ·rw[e4];exact l1 i' s p e1 e2
  ·rw[e4];exact l2 j' s y e1 e2
  obtain⟨k1,z1,g1,g2,g3⟩:=l1 i' s p e1 e2;obtain⟨k2,z2,g4,g5,g6⟩:=l2 j' s y e3 e4
  have:=Qfs r4 g1 g4;subst this
  rw[g2] at g5;cases g5
  exact⟨k1,z1,g1,g2,by rw[e5];exact(G e2 e4).least z1 (r6 z1 (List.mem_of_getElem? g2)).1 g3 g6⟩
 ·-- products
  obtain⟨p1,p2,p3,p4,p5⟩:=YN ha (.inl hk);obtain⟨q1,q2,q3,q4,q5⟩:=YN hb (.inl hk)
  have hE:Qs l a b=.mk 0 [] (Qa8 l.ps a.ps b.ps) []:=by rw[JN,hk];rfl
  rw[hE]
  have hlen:=Qj8 p4 q4
  have hat:∀ {k:Nat} {z:Qz},(Qa8 l.ps a.ps b.ps)[k]?=some z→∃q x y,l.ps[k]?=some q∧a.ps[k]?=some x∧b.ps[k]?=some y∧z=Qs q x y:=fun hz=>QvZ p4 q4 hz hlen (fun q x y h1 h2 h3=>QkD h1 h2 h3)
  have G:∀ {k:Nat} {q:Qv} {x y:Qz},l.ps[k]?=some q→a.ps[k]?=some x→b.ps[k]?=some y→Lub q x y (Qs q x y):=fun h1 h2 h3=>ih _ (List.mem_of_getElem? h1) _ _ (Jo p5 h2 h1) (Jo q5 h3 h1)
  refine⟨Qhv (.inl hk) rfl rfl rfl hlen ((Qez hlen).2 fun k z q hz hq=>?_),?_,?_,fun c hc h1 h2=>?_⟩
  ·obtain⟨q',x,y,e1,e2,e3,rfl⟩:=hat hz
   rw[hq] at e1;cases e1
   exact(G hq e2 e3).el
  ·rw[WG hk]
   refine QkV p4 hlen fun k q x z hq hx hz=>?_
   obtain⟨q',x',y,e1,e2,e3,rfl⟩:=hat hz
   rw[hq] at e1;cases e1
   rw[hx] at e2;cases e2
   exact(G hq hx e3).le1
  ·rw[WG hk]
   refine QkV q4 hlen fun k q y z hq hy hz=>?_
   obtain⟨q',x,y',e1,e2,e3,rfl⟩:=hat hz
   rw[hq] at e1;cases e1
   rw[hy] at e3;cases e3
   exact(G hq e2 hy).le2
  obtain⟨-,-,-,r4,r5⟩:=YN hc (.inl hk);rw[WG hk,K0 p4 r4] at h1;rw[WG hk,K0 q4 r4] at h2;rw[WG hk]
  refine QkV hlen r4 fun k q z u hq hz hu=>?_
  obtain⟨q',x,y,e1,e2,e3,rfl⟩:=hat hz
  rw[hq] at e1;cases e1
  exact(G hq e2 e3).least u (Jo r5 hu hq) (h1 k q x u hq e2 hu) (h2 k q y u hq e3 hu)
 ·-- pairs
  obtain⟨p,q,hp⟩:=Wz hO.shape hk
  have mq:q∈l.ps:=by rw[hp];simp
  obtain⟨x1,x2,ea,u1,u2⟩:=Kc ha hk hp;obtain⟨y1,y2,eb,v1,v2⟩:=Kc hb hk hp
  by_cases e:x1=y1
  ·subst e
   have hE:Qs l a b=.mk 0 [] [x1,Qs q x2 y2] []:=by rw[JN,hk,hp,ea,eb];simp[QbS,(KJ x1 x1).2 rfl]
   rw[hE]
   have G:=ih q mq x2 y2 u2 v2
   have hps:(Qz.mk 0 [] [x1,Qs q x2 y2] []).ps=[x1,Qs q x2 y2]:=rfl
   refine⟨Qhv (.inr hk) rfl rfl rfl (by rw[hps,hp];rfl) (by rw[hps,hp];simp[Ku,u1,G.el]),(We hk hp ea hps).2 (.inl ⟨rfl,G.le1⟩),(We hk hp eb hps).2 (.inl ⟨rfl,G.le2⟩),fun c hc h1 h2=>?_⟩;obtain⟨z1,z2,ec,w1,w2⟩:=Kc hc hk hp;refine(We hk hp hps ec).2 ?_
   rcases(We hk hp ea ec).1 h1 with ⟨e1,g1⟩|⟨e1,g1⟩
   ·rcases(We hk hp eb ec).1 h2 with ⟨e2,g2⟩|⟨e2,g2⟩
    ·exact .inl ⟨e1,G.least z2 w2 g1 g2⟩
    exact absurd e1 e2
   exact .inr ⟨e1,g1⟩
  have hx:QbS l.ps a.ps b.ps=none:=by rw[hp,ea,eb,QbS,if_neg (fun h=>e ((KJ _ _).1 h))]
  refine tot (by omega) (by omega) (by omega) (by omega) (by omega) (fun _=>hx) ?_;rw[We hk hp ea eb,We hk hp eb ea]
  rcases Qp2 hO hk hp u1 v1 with h|h
  ·exact .inl (.inr ⟨e,h⟩)
  exact .inr (.inr ⟨fun e'=>e e'.symm,h⟩)
 ·-- flat lattices
  by_cases h1:QE l a b=true
  ·exact tot (by omega) (by omega) (by omega) (by omega) (by omega) (fun h=>by omega) (.inl h1)
  by_cases h2:QE l b a=true
  ·exact tot (by omega) (by omega) (by omega) (by omega) (by omega) (fun h=>by omega) (.inr h2)
  have hE:Qs l a b=.mk 2 [] [] []:=by rw[Ko (by omega) (by omega) (by omega) (by omega) (by omega) (fun h=>by omega),if_neg h1,if_neg h2]
  rw[hE];rw[Wm hk] at h1 h2
  have hz:QA (.mk 2 [] [] []) l=true:=by rw[Qx,hk];rfl
  refine⟨hz,(Wm hk).2 (.inr (.inl rfl)),(Wm hk).2 (.inr (.inl rfl)),fun c hc g1 g2=>(Wm hk).2 ?_⟩
  rcases(Wm hk).1 g1 with g|g|g
  ·exact absurd (.inl g) h1
  ·exact .inr (.inl g)
  rcases(Wm hk).1 g2 with g'|g'|g'
  ·exact absurd (.inl g') h2
  ·exact .inr (.inl g')
  exact absurd (.inr (.inr (g.trans g'.symm))) h1
 ·-- registers
  obtain⟨p1,p2,p3,p4⟩:=WU ha hk;obtain⟨q1,q2,q3,q4⟩:=WU hb hk
  have hE:Qs l a b=.mk 0 [] [] (Yc a.es b.es):=by rw[JN,hk];rfl
  rw[hE]
  have hM:YJ (Qz.mk 0 [] [] (Yc a.es b.es)).es:=Qqq p4 q4
  refine⟨by rw[Qx,hk];simp[J3,Qz.N,Qz.nm,Qz.ps];exact hM.regB_,(Qbb hk p4 hM).2 (Ql5 p4 q4),(Qbb hk q4 hM).2 (Qka p4 q4),fun c hc h1 h2=>?_⟩;obtain⟨-,-,-,r4⟩:=WU hc hk
  refine(Qbb hk hM r4).2 fun x hx=>?_
  rcases Qfg p4 q4 hx with h|h
  ·exact(Qbb hk p4 r4).1 h1 x h
  exact(Qbb hk q4 r4).1 h2 x h
 obtain⟨p1,p2,p3,p4,p5,p6⟩:=Ws ha (.inr hk);obtain⟨q1,q2,q3,q4,q5,q6⟩:=Ws hb (.inr hk)
 have hE:Qs l a b=.mk 0 (Qae l.nm l.rs (uni a.nm b.nm)) [] []:=by rw[JN,hk];rfl
 rw[hE]
 have sy:=Qod hO hk
 have hm:∀z,z∈uni a.nm b.nm↔z∈a.nm∨z∈b.nm:=fun z=>Qdq p4 q4
 have up:∀ {z},z∈a.nm∨z∈b.nm→z∈Qae l.nm l.rs (uni a.nm b.nm):=fun {z} h=>by
  refine QcO.2 ⟨?_,QmA _ _ ((hm z).2 h)⟩
  rcases h with h|h
  ·exact Qdi hO hk ha z h
  exact Qdi hO hk hb z h
 refine⟨Qjx hk rfl rfl rfl (Qkm sy.s) (fun s hs=>?_) (QkI fun r hr=>(sy.r r hr).2.2),(Kr (.inr hk)).2 fun x hx=>up (.inl hx),(Kr (.inr hk)).2 fun x hx=>up (.inr hx),fun c hc h1 h2=>(Kr (.inr hk)).2 fun x hx=>?_⟩
 ·have hu:=(QcO.1 hs).1
  simp[YR,sy.v s hu,Y2.2 hu]
 obtain⟨-,-,-,-,-,r6⟩:=Ws hc (.inr hk);refine QmF (r6 hk) _ _ (fun z hz=>?_) x (QcO.1 hx).2
 rcases(hm z).1 hz with h|h
 ·exact(Kr (.inr hk)).1 h1 z h
 exact(Kr (.inr hk)).1 h2 z h
theorem Ys (l:Qv)(hO:Yv l)(a b:Qz)(ha:QA a l=true)(hb:QA b l=true):Lub l a b (Qs l a b):=QnD l hO (fun q hq x y hx hy=>Ys q (hO.part q hq) x y hx hy) a b ha hb
termination_by l
decreasing_by exact Qv.sizeOf_ps ‹_›
section
variable {l:Qv}{a b c:Qz}
theorem QgM (hO:Yv l)(ha:QA a l=true)(hb:QA b l=true)(h:QE l a b=true):Qs l a b=b:=by
 have L:=Ys l hO a b ha hb
 exact QbG l hO _ _ L.el hb (L.least b hb h (Xo l hO b hb)) L.le2
theorem Qf7 (hO:Yv l)(ha:QA a l=true):Qs l (Qy l) a=a:=QgM hO (Qak l hO) ha (KC l hO a ha)
end
theorem QqM {n m:Nat}(hnm:64≤n+m)(l:Qv)(hO:Yv l)(ih:∀q∈l.ps,∀x y,QA x q=true→QA y q=true→SmV n x→SmV m y→SmV (n+m) (Qs q x y))(a b:Qz)(ha:QA a l=true)(hb:QA b l=true)(sa:SmV n a)(sb:SmV m b):SmV (n+m) (Qs l a b):=by
 have na:=sa.nm
 have nb:=sb.nm
 have nil:∀ {N:Int} {u:List Nm},u.length≤n+m→SmV (n+m) (.mk N u [] []):=fun {N u} h=>.mk _ h (Nat.zero_le _) (Nat.zero_le _) (by intro e he;cases he) (by intro e he;cases he)
 have els:∀ {v:Qz},v=a∨v=b∨v=.mk 2 [] [] []→SmV (n+m) v:=fun h=>by
  rcases h with h|h|h
  ·exact h▸sa.up (by omega)
  ·exact h▸sb.up (by omega)
  rw[h];exact nil (Nat.zero_le _)
 have tot:l.k≠4→l.k≠10→l.k≠9→l.k≠5→l.k≠6→(l.k=7→QbS l.ps a.ps b.ps=none)→SmV (n+m) (Qs l a b):=fun h4 h10 h9 h5 h6 hx=>by
  rw[Ko h4 h10 h9 h5 h6 hx]
  split
  ·exact els (.inr (.inl rfl))
  split
  ·exact els (.inl rfl)
  exact els (.inr (.inr rfl))
 rcases QfN hO with hk|hk|hk|hk|hk|hk|hk|hk|hk|hk
 ·exact tot (by omega) (by omega) (by omega) (by omega) (by omega) (fun h=>by omega)
 ·exact tot (by omega) (by omega) (by omega) (by omega) (by omega) (fun h=>by omega)
 ·exact tot (by omega) (by omega) (by omega) (by omega) (by omega) (fun h=>by omega)
 ·obtain⟨-,-,-,p4,-,-⟩:=Ws ha (.inl hk)
  obtain⟨-,-,-,q4,-,-⟩:=Ws hb (.inl hk)
  have hE:Qs l a b=.mk 0 (uni a.nm b.nm) [] []:=by rw[JN,hk];rfl
  have:=Qki p4 q4
  rw[hE];exact nil (by omega)
 ·obtain⟨q,hp⟩:=Qa1 hO hk
  have mq:q∈l.ps:=by rw[hp];simp
  obtain⟨-,-,p3,p4,-,p6⟩:=WR ha hk hp;obtain⟨-,-,q3,q4,-,q6⟩:=WR hb hk hp
  have hE:Qs l a b=.mk 0 (uni a.nm b.nm) ((uni a.nm b.nm).map (Yx q a b)) []:=by rw[JN,hk,hp,QgF];rfl
  have hl:=Qki p4 q4
  rw[hE];refine .mk _ (show(uni a.nm b.nm).length≤n+m by omega) (show((uni a.nm b.nm).map (Yx q a b)).length≤n+m by rw[List.length_map];omega) (Nat.zero_le _) (by intro e he;cases he) (fun z hz=>?_);obtain⟨s,hs,rfl⟩:=List.mem_map.1 (show z∈(uni a.nm b.nm).map (Yx q a b) from hz)
  rcases Qd9 (q:=q) p3 p4 q3 q4 ((Qdq p4 q4).1 hs) with ⟨i,p,e1,e2,-,e4⟩|⟨j,y,e1,e2,-,e4⟩|⟨i,p,j,y,e1,e2,e3,e4,e5⟩
  ·rw[e4];exact(sa.part p (List.mem_of_getElem? e2)).up (by omega)
  ·rw[e4];exact(sb.part y (List.mem_of_getElem? e2)).up (by omega)
  have m1:=List.mem_of_getElem? e2
  have m2:=List.mem_of_getElem? e4
  rw[e5];exact ih q mq p y (p6 p m1).1 (q6 y m2).1 (sa.part p m1) (sb.part y m2)
 ·obtain⟨-,-,-,p4,p5⟩:=YN ha (.inl hk)
  obtain⟨-,-,-,q4,q5⟩:=YN hb (.inl hk)
  have hE:Qs l a b=.mk 0 [] (Qa8 l.ps a.ps b.ps) []:=by rw[JN,hk];rfl
  have hlen:=Qj8 p4 q4
  have:=hO.small
  rw[hE];refine .mk _ (Nat.zero_le _) (show(Qa8 l.ps a.ps b.ps).length≤n+m by omega) (Nat.zero_le _) (by intro e he;cases he) (fun z hz=>?_);obtain⟨k,hk'⟩:=List.mem_iff_getElem?.1 (show z∈Qa8 l.ps a.ps b.ps from hz);obtain⟨q,x,y,e1,e2,e3,rfl⟩:=QvZ p4 q4 hk' hlen (fun q x y h1 h2 h3=>QkD h1 h2 h3);exact ih q (List.mem_of_getElem? e1) x y (Jo p5 e2 e1) (Jo q5 e3 e1) (sa.part x (List.mem_of_getElem? e2)) (sb.part y (List.mem_of_getElem? e3))
 ·obtain⟨p,q,hp⟩:=Wz hO.shape hk
  have mq:q∈l.ps:=by rw[hp];simp
  obtain⟨x1,x2,ea,u1,u2⟩:=Kc ha hk hp;obtain⟨y1,y2,eb,v1,v2⟩:=Kc hb hk hp
  by_cases e:x1=y1
  ·subst e
   have hE:Qs l a b=.mk 0 [] [x1,Qs q x2 y2] []:=by rw[JN,hk,hp,ea,eb];simp[QbS,(KJ x1 x1).2 rfl]
   rw[hE];refine .mk _ (Nat.zero_le _) (show 2≤n+m by omega) (Nat.zero_le _) (by intro e he;cases he) (fun z hz=>?_)
   have hz:z∈[x1,Qs q x2 y2]:=hz
   rcases List.mem_cons.1 hz with rfl|hz
   ·exact(sa.part z (by rw[ea];simp)).up (by omega)
   rcases List.mem_cons.1 hz with rfl|hz
   ·exact ih q mq x2 y2 u2 v2 (sa.part x2 (by rw[ea];simp)) (sb.part y2 (by rw[eb];simp))
   cases hz
  have hx:QbS l.ps a.ps b.ps=none:=by rw[hp,ea,eb,QbS,if_neg (fun h=>e ((KJ _ _).1 h))]
  exact tot (by omega) (by omega) (by omega) (by omega) (by omega) (fun _=>hx)
 ·exact tot (by omega) (by omega) (by omega) (by omega) (by omega) (fun h=>by omega)
 ·obtain⟨-,-,-,p4⟩:=WU ha hk
  obtain⟨-,-,-,q4⟩:=WU hb hk
  have hE:Qs l a b=.mk 0 [] [] (Yc a.es b.es):=by rw[JN,hk];rfl
  have h1:=sa.es
  have h2:=sb.es
  have hl:(Yc a.es b.es).length≤n+m:=by
   unfold Yc
   rw[List.length_mergeSort,List.length_append]
   have:=List.length_filter_le (Qbj b.es) a.es
   have:=List.length_filter_le (QcP a.es) b.es
   omega
  rw[hE];refine .mk _ (Nat.zero_le _) (Nat.zero_le _) hl (fun e he=>?_) (by intro e he;cases he)
  rcases Qfg p4 q4 (show e∈Yc a.es b.es from he) with h|h
  ·exact sa.en e h
  exact sb.en e h
 have sy:=Qod hO hk
 have hE:Qs l a b=.mk 0 (Qae l.nm l.rs (uni a.nm b.nm)) [] []:=by rw[JN,hk];rfl
 obtain⟨-,-,-,p4,-,-⟩:=Ws ha (.inr hk);obtain⟨-,-,-,q4,-,-⟩:=Ws hb (.inr hk)
 have h:=hO.four.1
 have hl:l.nm.length≤64:=by
  unfold JS Yi at h
  rw[hk,show KO 10=12 from rfl] at h
  by_cases hg:(l.nm.length:Int) > 12
  ·simp[hg] at h
  omega
 have:=List.length_filter_le (JL (YH l.rs l.rs.length (uni a.nm b.nm))) l.nm
 rw[hE];exact nil (by show(l.nm.filter _).length≤_;omega)
theorem Qo9 {n m:Nat}(hnm:64≤n+m)(l:Qv)(hO:Yv l)(a b:Qz)(ha:QA a l=true)(hb:QA b l=true)(sa:SmV n a)(sb:SmV m b):SmV (n+m) (Qs l a b):=QqM hnm l hO (fun q hq x y hx hy sx sy=>Qo9 hnm q (hO.part q hq) x y hx hy sx sy) a b ha hb sa sb
termination_by l
decreasing_by exact Qv.sizeOf_ps ‹_›
theorem Qrr (l:Qv)(hO:Yv l):SmV 64 (Qy l):=by
 have h:=hO.small
 refine .mk _ (by rw[Qnv];exact Nat.zero_le _) ?_ (by rw[Qky];exact Nat.zero_le _) (by rw[Qky];intro e he;cases he) (fun p hp=>?_)
 ·rw[Qku];split<;>simp<;>omega
 rw[Qku] at hp
 split at hp
 ·obtain⟨q,hq,rfl⟩:=List.mem_map.1 hp
  exact Qrr q (hO.part q hq)
 cases hp
termination_by l
decreasing_by exact Qv.sizeOf_ps ‹_›
theorem Qrm {l:Qv}(hO:Yv l){a b:Qz}(ha:QA a l=true):YZ l [a,b]=Qs l a b:=by
 show Qs l (Qs l (Qy l) a) b=_
 rw[Qf7 hO ha]
theorem QlG {l:Qv}(hO:Yv l):∀(vs:List Qz) (s:Qz),QA s l=true→(∀v∈vs,QA v l=true) →
  QA (vs.foldl (Qs l) s) l=true∧QE l s (vs.foldl (Qs l) s)=true∧(∀v∈vs,QE l v (vs.foldl (Qs l) s)=true) ∧
  ∀c,QA c l=true→QE l s c=true→(∀v∈vs,QE l v c=true)→QE l (vs.foldl (Qs l) s) c=true
 |[],s,hs,_=>⟨hs,Xo l hO s hs,by simp,fun c _ h _=>h⟩
 |x::vs,s,hs,h=>by
  have hx:=h x (List.mem_cons_self ..)
  have L:=Ys l hO s x hs hx
  obtain⟨h1,h2,h3,h4⟩:=QlG hO vs (Qs l s x) L.el (fun v hv=>h v (List.mem_cons_of_mem _ hv));refine⟨h1,Xu l hO _ _ _ hs L.el h1 L.le1 h2,fun v hv=>?_,fun c hc g1 g2=>h4 c hc (L.least c hc g1 (g2 x (List.mem_cons_self ..))) (fun v hv=>g2 v (List.mem_cons_of_mem _ hv))⟩
  rcases List.mem_cons.1 hv with rfl|hv
  ·exact Xu l hO _ _ _ hx L.el h1 L.le2 h2
  exact h3 v hv
theorem Ke {l:Qv}(hO:Yv l){vs:List Qz}(h:∀v∈vs,QA v l=true):QA (YZ l vs) l=true∧(∀v∈vs,QE l v (YZ l vs)=true)∧∀c,QA c l=true→(∀v∈vs,QE l v c=true)→QE l (YZ l vs) c=true:=by
 obtain⟨h1,-,h3,h4⟩:=QlG hO vs (Qy l) (Qak l hO) h;exact⟨h1,h3,fun c hc g=>h4 c hc (KC l hO c hc) g⟩
end Go.Proofs.YtnkkokmmeplbgaaGreat
namespace Go.Proofs.YtnkkokmmeplbgaaGreat
open Go.RowKit
end Go.Proofs.YtnkkokmmeplbgaaGreat
namespace Go.Proofs.YtnkkokmmeplbgaaGreat
open Go.RowKit
end Go.Proofs.YtnkkokmmeplbgaaGreat
