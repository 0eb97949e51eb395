/-
  Contracts: the law JoinOrder.
-/
import Derived.Test.YtnkkokmmeplbgaaGreatB14
import Derived.Test.YtnkkokmmeplbgaaGreatB16
import Derived.Test.YtnkkokmmeplbgaaGreatB11
namespace Go.Proofs.YtnkkokmmeplbgaaGreat
open Go.RowKit
theorem QdI {F G:Qv→Int→Int×Int}:∀(l:List Qv) (n n':Int),(∀q∈l,∀n n',n'≤n→(F q n).1=0→(G q n').1=0∧(G q n').2+n=(F q n).2+n'∧n≤(F q n).2)→n'≤n→(JZ F l n).1=0 →
  (JZ G l n').1=0∧(JZ G l n').2+n=(JZ F l n).2+n'∧n≤(JZ F l n).2∧∀q∈l,∃m,n≤m∧(F q m).1=0
 |[],n,n',_,_,_=>by simp[JZ];omega
 |q::r,n,n',hF,hn,h=>by
  unfold JZ at h ⊢
  split at h
  ·rename_i h0
   have h0':(F q n).1=0:=by simpa using h0
   obtain⟨g1,g2,g3⟩:=hF q (by simp) n n' hn h0';rw[if_pos (by simpa using g1),if_pos h0];obtain⟨k1,k2,k3,k4⟩:=QdI r (F q n).2 (G q n').2 (fun p hp=>hF p (by simp[hp])) (by omega) h;refine⟨k1,by omega,by omega,fun p hp=>?_⟩
   rcases List.mem_cons.1 hp with rfl|hp
   ·exact⟨n,Int.le_refl _,h0'⟩
   obtain⟨m,hm,he⟩:=k4 p hp;exact⟨m,by omega,he⟩
  rename_i h0
  exact absurd (by simpa using h) h0
theorem Qei:∀(f:Nat) (l:Qv) (n n':Int),n'≤n→(Xk f l n).1=0→∀g,f≤g→(Xk g l n').1=0∧(Xk g l n').2+n=(Xk f l n).2+n'∧n≤(Xk f l n).2
 |0,l,n,n',_,h=>by simp[Xk] at h
 |f+1,l,n,n',hn,h=>by
  intro g hg
  obtain⟨g,rfl⟩:∃k,g=k+1:=⟨g-1,by omega⟩
  by_cases h64:n≥64
  ·rw[QlS h64] at h;simp at h
  have h64:n<64:=by omega
  cases hs:XB l != 0 with
  |true=>rw[QfH h64 hs] at h;simp at h;simp[h] at hs
  |false=>
   cases ho:orE [JS l,Jx l,Je l,JA l] != 0 with
   |true=>rw[Qr4 h64 hs ho] at h;simp at h;simp[h] at ho
   |false=>
    rw[Qc5 h64 hs ho] at h ⊢
    rw[Qc5 (by omega) hs ho];obtain⟨k1,k2,k3,-⟩:=QdI (F:=Xk f) (G:=Xk g) l.ps (n+1) (n'+1) (fun q _ n n' hn h=>Qei f q n n' hn h g (by omega)) (by omega) h;exact⟨k1,by omega,by omega⟩
theorem orE4 {a b c d:Int}(h:orE [a,b,c,d]=0):a=0∧b=0∧c=0∧d=0:=by
 simp only[orE] at h
 split at h
 ·rename_i ha
  split at h
  ·rename_i hb
   split at h
   ·rename_i hc
    split at h
    ·rename_i hd
     exact⟨by simpa using ha,by simpa using hb,by simpa using hc,by simpa using hd⟩
    rename_i hd;exact absurd (by simpa using h) hd
   rename_i hc;exact absurd (by simpa using h) hc
  rename_i hb;exact absurd (by simpa using h) hb
 rename_i ha;exact absurd (by simpa using h) ha
theorem Yv.four {l:Qv}(h:Yv l):JS l=0∧Jx l=0∧Je l=0∧JA l=0:=by cases h;exact orE4 (by assumption)
theorem Qnt {l q:Qv}(h:QJ l=0)(hq:q∈l.ps):QJ q=0:=by
 unfold QJ at h ⊢
 have h':=h
 have hO:=Q9 h
 have hs:(XB l != 0)=false:=by simp[hO.shape]
 have ho:(orE [JS l,Jx l,Je l,JA l] != 0)=false:=by
  obtain⟨h1,h2,h3,h4⟩:=hO.four
  rw[h1,h2,h3,h4];rfl
 rw[show(6:Nat)=5+1 from rfl,Qc5 (by decide) hs ho] at h';obtain⟨-,-,-,k4⟩:=QdI (F:=Xk 5) (G:=Xk 5) l.ps (0+1) (0+1) (fun q _ n n' hn h=>Qei 5 q n n' hn h 5 (Nat.le_refl _)) (Int.le_refl _) h';obtain⟨m,hm,he⟩:=k4 q hq;exact(Qei 5 q m 0 (by omega) he 6 (by decide)).1
theorem ChL.of (l:Qv)(h:QJ l=0):ChL l:=.mk l h (fun p hp=>ChL.of p (Qnt h hp))
termination_by l
decreasing_by exact Qv.sizeOf_ps ‹_›
theorem QpO {l:Qv}(h:Yv l):l.lo≤l.hi:=by
 have h:=h.four.2.2.1
 unfold Je Yi at h
 split at h
 ·cases h
 rename_i h1
 simp only[Bool.or_eq_true,decide_eq_true_eq,not_or] at h1
 omega
theorem Qez:∀ {xs:List Qz} {ls:List Qv},xs.length=ls.length→(Ku xs ls=true↔∀(k:Nat) (x:Qz) (q:Qv),xs[k]?=some x→ls[k]?=some q→QA x q=true)
 |[],[],_=>by simp[Ku]
 |x::xs,q::ls,h=>by
  rw[Ku,Bool.and_eq_true,Qez (by simpa using h)]
  constructor
  ·rintro⟨h1,h2⟩ k y p hy hp
   cases k with
   |zero=>simp at hy hp;subst hy hp;exact h1
   |succ k=>exact h2 k y p (by simpa using hy) (by simpa using hp)
  intro h;exact⟨h 0 x q rfl rfl,fun k y p hy hp=>h (k+1) y p (by simpa using hy) (by simpa using hp)⟩
 |[],_::_,h=>by simp at h
 |_::_,[],h=>by simp at h
section
variable {l:Qv}{v:Qz}
theorem Qhv (hk:l.k=6∨l.k=7)(h1:v.N=0)(h2:v.nm=[])(h3:v.es=[])(h4:v.ps.length=l.ps.length)(h5:Ku v.ps l.ps=true):QA v l=true:=by
 rw[Qx]
 rcases hk with hk|hk<;>rw[hk]<;>simp[J3,h1,h2,h3,h4,h5]
theorem Qrq (hk:l.k=4)(h1:v.N=0)(h2:v.ps=[])(h3:v.es=[])(h4:QF v.nm=true)(h5:∀s∈v.nm,YR l.nm s=true):QA v l=true:=by
 rw[Qx,hk];simp[J3,Ji,h1,h2,h3,h4];exact h5
theorem Qjx (hk:l.k=10)(h1:v.N=0)(h2:v.ps=[])(h3:v.es=[])(h4:QF v.nm=true)(h5:∀s∈v.nm,YR l.nm s=true)(h6:Qai l.rs v.nm=true):QA v l=true:=by
 rw[Qx,hk];simp[J3,Ji,h1,h2,h3,h4,h6];exact h5
theorem Qr8 (hk:l.k=5){q:Qv}{r:List Qv}(hp:l.ps=q::r)(h1:v.N=0)(h2:v.es=[])(h3:v.nm.length=v.ps.length)(h4:QF v.nm=true)(h5:∀s∈v.nm,YR l.nm s=true)(h6:∀p∈v.ps,QA p q=true∧p≠Qy q):QA v l=true:=by
 rw[Qx,hk,hp]
 simp[J3,Ji,Qbw,Qbg,h1,h2,h3,h4]
 refine⟨h5,fun p hp=>⟨(h6 p hp).1,?_⟩⟩
 have:=(h6 p hp).2
 rw[Bool.eq_false_iff]
 exact fun e=>this ((KJ _ _).1 e)
end
theorem Qv7 (l:Qv):(Qy l).N=if l.k==2 then l.lo else if l.k==3 then l.hi else 0:=by rw[JM];rfl
theorem Qnv (l:Qv):(Qy l).nm=[]:=by rw[JM];rfl
theorem Qky (l:Qv):(Qy l).es=[]:=by rw[JM];rfl
theorem Qku (l:Qv):(Qy l).ps=if l.k==6||l.k==7 then l.ps.map Qy else[]:=by rw[JM];rfl
theorem QrN {l:Qv}(h:Yv l):∀r∈l.rs,r.i≠[]:=fun r hr e=>by
 have h:=h.four.2.1
 unfold Jx at h
 split at h
 ·rename_i h1
  simp only[Bool.and_eq_true,List.all_eq_true] at h1
  have:=h1.2 r hr
  simp[Qac,e] at this
 ·cases h
theorem QuN (l:Qv)(hO:Yv l)(ih:∀q∈l.ps,QA (Qy q) q=true):QA (Qy l) l=true:=by
 have hN:=Qv7 l
 have hnm:=Qnv l
 have hes:=Qky l
 have hps:=Qku l
 have hr:=QpO hO
 rcases QfN hO with hk|hk|hk|hk|hk|hk|hk|hk|hk|hk
 ·rw[Qx,hk];simp[hk] at hN hps;simp[J3,hN,hnm,hes,hps]
 ·rw[Qx,hk];simp[hk] at hN hps;simp[J3,hN,hnm,hes,hps,hr]
 ·rw[Qx,hk];simp[hk] at hN hps;simp[J3,hN,hnm,hes,hps,hr]
 ·simp[hk] at hN hps;exact Qrq hk hN hps hes (by rw[hnm];rfl) (by rw[hnm];simp)
 ·obtain⟨q,hq⟩:=Qa1 hO hk
  simp[hk] at hN hps;exact Qr8 hk hq hN hes (by rw[hnm,hps];rfl) (by rw[hnm];rfl) (by rw[hnm];simp) (by rw[hps];simp)
 ·simp[hk] at hN hps
  refine Qhv (.inl hk) hN hnm hes (by rw[hps];simp) ?_;rw[hps,Qez (by simp)];intro k x q hx hq;rw[List.getElem?_map,hq] at hx
  cases hx
  exact ih q (List.mem_of_getElem? hq)
 ·simp[hk] at hN hps
  refine Qhv (.inr hk) hN hnm hes (by rw[hps];simp) ?_;rw[hps,Qez (by simp)];intro k x q hx hq;rw[List.getElem?_map,hq] at hx
  cases hx
  exact ih q (List.mem_of_getElem? hq)
 ·rw[Qx,hk];simp[hk] at hN hps;simp[J3,hN,hnm,hes,hps]
 ·rw[Qx,hk];simp[hk] at hN hps;simp[J3,hN,hnm,hes,hps];rfl
 simp[hk] at hN hps
 refine Qjx hk hN hps hes (by rw[hnm];rfl) (by rw[hnm];simp) ?_;rw[hnm]
 unfold Qai
 rw[List.all_eq_true];intro r hr
 have:=QrN hO r hr
 unfold W4
 have h2:Yu r.i []=false:=by
  rw[Bool.eq_false_iff];intro e
  cases hi:r.i with
  |nil=>exact this hi
  |cons a b=>have:=KS.1 e a (by rw[hi];simp);simp at this
 rw[h2];rfl
theorem Qak (l:Qv)(hO:Yv l):QA (Qy l) l=true:=QuN l hO (fun q hq=>Qak q (hO.part q hq))
termination_by l
decreasing_by exact Qv.sizeOf_ps ‹_›
theorem Qui (l:Qv)(hO:Yv l)(ih:∀q∈l.ps,∀x,QA x q=true→QE q (Qy q) x=true)(a:Qz)(ha:QA a l=true):QE l (Qy l) a=true:=by
 have hN:=Qv7 l
 have hnm:=Qnv l
 have hes:=Qky l
 have hps:=Qku l
 have hb:=Qak l hO
 rcases QfN hO with hk|hk|hk|hk|hk|hk|hk|hk|hk|hk
 ·simp[hk] at hN
  refine(YC (.inl hk)).2 ?_;rw[Qx,hk] at ha
  simp at ha
  rcases ha.2 with h|h<;>omega
 ·simp[hk] at hN
  refine(YC (.inr hk)).2 ?_;rw[Qx,hk] at ha
  simp at ha
  omega
 ·simp[hk] at hN
  refine(QbB hk).2 ?_;rw[Qx,hk] at ha
  simp at ha
  omega
 ·exact(Kr (.inl hk)).2 (by rw[hnm];simp)
 ·obtain⟨q,hq⟩:=Qa1 hO hk
  obtain⟨-,-,h3,h4,-,-⟩:=WR ha hk hq;obtain⟨-,-,g3,-,-,-⟩:=WR hb hk hq;exact(Qbd hk hq g3 h3 h4).2 (by rw[hnm];simp)
 ·obtain⟨-,-,-,h4,h5⟩:=YN ha (.inl hk)
  obtain⟨-,-,-,g4,-⟩:=YN hb (.inl hk)
  simp[hk] at hps
  rw[WG hk,K0 g4 h4];intro k q x y e1 e2 e3;rw[hps,List.getElem?_map,e1] at e2
  cases e2
  exact ih q (List.mem_of_getElem? e1) y (Jo h5 e3 e1)
 ·obtain⟨p,q,hp⟩:=Wz hO.shape hk
  obtain⟨y1,y2,eb,v1,v2⟩:=Kc ha hk hp
  simp[hk,hp] at hps
  refine(We hk hp hps eb).2 ?_
  by_cases e:Qy p=y1
  ·exact .inl ⟨e,ih q (by rw[hp];simp) y2 v2⟩
  exact .inr ⟨e,ih p (by rw[hp];simp) y1 v1⟩
 ·simp[hk] at hN
  exact(Wm hk).2 (.inl hN)
 ·obtain⟨-,-,-,h⟩:=WU ha hk
  obtain⟨-,-,-,g⟩:=WU hb hk;exact(Qbb hk g h).2 (by rw[hes];simp)
 exact(Kr (.inr hk)).2 (by rw[hnm];simp)
theorem KC (l:Qv)(hO:Yv l)(a:Qz)(ha:QA a l=true):QE l (Qy l) a=true:=Qui l hO (fun q hq x hx=>KC q (hO.part q hq) x hx) a ha
termination_by l
decreasing_by exact Qv.sizeOf_ps ‹_›
theorem Qd4:∀(n:Nat) (l:Qv),SizeOf.sizeOf l<n→Yv l→chainB l=true→∀a b,QA a l=true→QA b l=true→QE l a b=true∨QE l b a=true
 |0,_,h,_,_,_,_,_,_=>absurd h (Nat.not_lt_zero _)
 |n+1,l,hn,hO,hc,a,b,ha,hb=>by
  rcases QfN hO with hk|hk|hk|hk|hk|hk|hk|hk|hk|hk
  ·rw[YC (.inl hk),YC (.inl hk)];omega
  ·rw[YC (.inr hk),YC (.inr hk)];omega
  ·rw[QbB hk,QbB hk];omega
  ·rw[YF (by rw[hk];rfl) (by rw[hk];rfl) (by rw[hk];rfl) (.inl (by rw[hk];rfl))] at hc;cases hc
  ·rw[YF (by rw[hk];rfl) (by rw[hk];rfl) (by rw[hk];rfl) (.inl (by rw[hk];rfl))] at hc;cases hc
  ·rw[YF (by rw[hk];rfl) (by rw[hk];rfl) (by rw[hk];rfl) (.inl (by rw[hk];rfl))] at hc;cases hc
  ·obtain⟨p,q,hp⟩:=Wz hO.shape hk
   rw[Qd7 (by rw[hk];rfl) hp,Bool.and_eq_true] at hc;obtain⟨x1,x2,ea,u1,u2⟩:=Kc ha hk hp;obtain⟨y1,y2,eb,v1,v2⟩:=Kc hb hk hp
   have mp:p∈l.ps:=by rw[hp];simp
   have mq:q∈l.ps:=by rw[hp];simp
   rw[We hk hp ea eb,We hk hp eb ea]
   by_cases e:x1=y1
   ·rcases Qd4 n q (by have:=Qv.sizeOf_ps mq;omega) (hO.part q mq) hc.2 x2 y2 u2 v2 with h|h
    ·exact .inl (.inl ⟨e,h⟩)
    exact .inr (.inl ⟨e.symm,h⟩)
   rcases Qd4 n p (by have:=Qv.sizeOf_ps mp;omega) (hO.part p mp) hc.1 x1 y1 u1 v1 with h|h
   ·exact .inl (.inr ⟨e,h⟩)
   exact .inr (.inr ⟨fun e'=>e e'.symm,h⟩)
  ·rw[YF (by rw[hk];rfl) (by rw[hk];rfl) (by rw[hk];rfl) (.inl (by rw[hk];rfl))] at hc;cases hc
  ·rw[YF (by rw[hk];rfl) (by rw[hk];rfl) (by rw[hk];rfl) (.inl (by rw[hk];rfl))] at hc;cases hc
  rw[YF (by rw[hk];rfl) (by rw[hk];rfl) (by rw[hk];rfl) (.inl (by rw[hk];rfl))] at hc;cases hc
theorem Qp2 {l:Qv}(hO:Yv l)(hk:l.k=7){p q:Qv}(hp:l.ps=[p,q]){x y:Qz}(hx:QA x p=true)(hy:QA y p=true):QE p x y=true∨QE p y x=true:=by
 have hc:=hO.four.2.2.2
 unfold JA Yi at hc
 rw[hk,hp] at hc
 simp at hc
 exact Qd4 _ p (Nat.lt_succ_self _) (hO.part p (by rw[hp];simp)) hc x y hx hy
theorem Qlf {l:Qv}(hO:Yv l):(∀s∈l.nm,XU s=true)∧(l.k≠6→QF l.nm=true)∧∀r∈l.rs,QF r.i=true∧(∀x∈r.i,x∈l.nm)∧r.t∈l.nm:=by
 have h:=hO.four.2.1
 unfold Jx at h
 split at h
 ·rename_i h1
  simp only[Bool.and_eq_true,List.all_eq_true,Bool.or_eq_true,beq_iff_eq] at h1
  obtain⟨⟨h1,h2⟩,h3⟩:=h1;refine⟨fun s hs=>?_,fun hk=>h2.resolve_left hk,fun r hr=>?_⟩
  ·obtain⟨i,hi⟩:=List.mem_iff_getElem?.1 hs
   have h4:=h1 (s,i) (List.mem_of_getElem? (by simp[hi]:l.nm.zipIdx[i]?=some (s,i)))
   unfold Qbc at h4
   rw[Bool.and_eq_true] at h4;exact h4.1
  have h4:=h3 r hr
  simp only[Qac,Bool.and_eq_true] at h4
  exact⟨h4.1.1.2,KS.1 h4.1.2,Y2.1 h4.2⟩
 cases h
theorem QwR {l:Qv}(hO:Yv l):l.nm.length≤32∧l.rs.length≤32:=by
 have h:=hO.four.1
 unfold JS Yi at h
 have hm:KO l.k≤32:=by
  unfold KO
  split
  ·decide
  split<;>decide
 have hl:(decide ((l.nm.length:Int) > KO l.k)||decide ((l.rs.length:Int) > 32))=false:=by
  cases hb:(decide ((l.nm.length:Int) > KO l.k)||decide ((l.rs.length:Int) > 32))
  ·rfl
  rw[hb] at h;cases h
 simp only[Bool.or_eq_false_iff,decide_eq_false_iff_not] at hl
 exact⟨by omega,by omega⟩
theorem Qes {α:Type}[BEq α][LawfulBEq α]:∀(a b:List α),a.Nodup→(∀x∈a,x∈b)→a.length≤b.length
 |[],b,_,_=>Nat.zero_le _
 |x::r,b,h,hs=>by
  have hx:=hs x List.mem_cons_self
  obtain⟨h1,h2⟩:=List.nodup_cons.1 h
  have:=Qes r (b.erase x) h2 (fun y hy=>(List.mem_erase_of_ne (fun e=>h1 (by rw[←e];exact hy))).2 (hs y (List.mem_cons_of_mem _ hy)))
  rw[List.length_erase_of_mem hx] at this
  have:=List.length_pos_of_mem hx
  simp only[List.length_cons];omega
theorem Qw4 {l:Qv}(hO:Yv l):∀r∈l.rs,r.i.length≤1000000:=fun r hr=>by
 obtain⟨h1,h2,-⟩:=(Qlf hO).2.2 r hr
 have:=Qes r.i l.nm (Qef h1) h2
 have:=(QwR hO).1
 omega
theorem QkV {ls:List Qv}{xs ys:List Qz}(h1:xs.length=ls.length)(h2:ys.length=ls.length)(h:∀(k:Nat) (q:Qv) (x y:Qz),ls[k]?=some q→xs[k]?=some x→ys[k]?=some y→QE q x y=true):Qdj ls xs ys=true:=(K0 h1 h2).2 h
theorem QvZ {ls:List Qv}{xs ys:List Qz}(h1:xs.length=ls.length)(h2:ys.length=ls.length){k:Nat}{z:Qz}{f:Qv→Qz→Qz→Qz}{zs:List Qz}(hz:zs[k]?=some z)(hl:zs.length=ls.length)(hf:∀q x y,ls[k]?=some q→xs[k]?=some x→ys[k]?=some y→zs[k]?=some (f q x y)):
  ∃q x y,ls[k]?=some q∧xs[k]?=some x∧ys[k]?=some y∧z=f q x y:=by
 have hk:=(List.getElem?_eq_some_iff.1 hz).1
 obtain⟨q,hq⟩:=Qw (show k<ls.length by omega);obtain⟨x,hx⟩:=Qw (show k<xs.length by omega);obtain⟨y,hy⟩:=Qw (show k<ys.length by omega);refine⟨q,x,y,hq,hx,hy,?_⟩
 have:=hf q x y hq hx hy
 rw[hz] at this;exact Option.some.inj this
end Go.Proofs.YtnkkokmmeplbgaaGreat
namespace Go.Proofs.YtnkkokmmeplbgaaGreat
open Go.RowKit
theorem fcb {f:FuncId}{args:List AV}{b c:Bool}(h:FC Tryz.prog f args (bl b))(e:b=c):FC Tryz.prog f args (bl c):=e▸h
structure On (l:Qv) (a b c:Qz):Prop where
 hc:QJ l=0
 ha:QA a l=true
 hb:QA b l=true
 hd:QA c l=true
theorem On.refl {l:Qv}{a b c:Qz}(h:On l a b c):QeI l a a=true:=by rw[Qc6 h.hc h.ha h.ha];exact Xo l (Q9 h.hc) a h.ha
theorem On.anti {l:Qv}{a b c:Qz}(h:On l a b c)(h1:QeI l a b=true)(h2:QeI l b a=true):eqV a b=true:=by
 rw[Qc6 h.hc h.ha h.hb] at h1;rw[Qc6 h.hc h.hb h.ha] at h2;exact(KJ _ _).2 (QbG l (Q9 h.hc) a b h.ha h.hb h1 h2)
theorem On.trans {l:Qv}{a b c:Qz}(h:On l a b c)(h1:QeI l a b=true)(h2:QeI l b c=true):QeI l a c=true:=by
 rw[Qc6 h.hc h.ha h.hb] at h1;rw[Qc6 h.hc h.hb h.hd] at h2;rw[Qc6 h.hc h.ha h.hd];exact Xu l (Q9 h.hc) a b c h.ha h.hb h.hd h1 h2
end Go.Proofs.YtnkkokmmeplbgaaGreat
