/-
  Plain: runs of nodes: what is kept of the past (the values t
-/
import Derived.Test.YtnkkokmmeplbgaaGreatN9
namespace Go.Proofs.YtnkkokmmeplbgaaGreat
open Go.RowKit
theorem W3.elem {l:Qv}(hO:Yv l){X:List Qz}(hX:Giv l X){v:Qz}(h:W3 l X v):QA v l=true:=by
 obtain⟨S,s1,rfl⟩:=h;exact(Ke hO fun v hv=>(hX v (s1 v hv)).1).1
structure Gh where
 A:Nat→List Qz
 pv:Nat→Int→Qz
 num:Nat→Int
 D:List Qz
def Qm (n:Int)(A:Nat→List Qz)(v:Qz):Prop:=∃q:Nat→Bool,(∀j,q j=true→(j:Int)<n∧v∈A j)∧QdU n≤(QnU q:Int)
structure Qb3 (l:Qv) (n:Int) (g:Gh):Prop where
 el:∀k,∀v∈g.A k,QA v l=true
 chain:∀k,∀v∈g.A k,∀w∈g.A k,QE l v w=true∨QE l w v=true
 dq:∀v∈g.D,Qm n g.A v
def Dec (l:Qv)(g:Gh)(v:Qz):Prop:=v∈g.D∨v=Qy l
theorem QlF {p q r:Nat→Bool}(h1:∀j,p j=true→r j=true)(h2:∀j,q j=true→r j=true)(hd:∀j,p j=true→q j=true→False):∀xs:List Nat,xs.countP p+xs.countP q≤xs.countP r
 |[]=>by simp
 |x::xs=>by
  have ih:=QlF h1 h2 hd xs
  have a:=h1 x
  have b:=h2 x
  have d:=hd x
  rw[List.countP_cons,List.countP_cons,List.countP_cons]
  cases hp:p x<;>cases hq:q x<;>cases hr:r x<;>simp_all<;>omega
theorem QjF (m:Nat):∀k,(List.range k).countP (fun j=>decide (j<m))≤m∧(List.range k).countP (fun j=>decide (j<m))≤k
 |0=>by simp
 |k+1=>by
  obtain⟨h1,h2⟩:=QjF m k;rw[List.range_succ,List.countP_append,List.countP_singleton]
  by_cases h:k<m
  ·simp only[h,decide_true,if_true];omega
  simp only[h,decide_false,Bool.false_eq_true,if_false];omega
theorem Qpv {n:Int}{A:Nat→List Qz}{v w:Qz}(h1:1≤n)(hv:Qm n A v)(hw:Qm n A w):∃j,v∈A j∧w∈A j:=by
 obtain⟨q,q1,q2⟩:=hv;obtain⟨r,r1,r2⟩:=hw
 refine Classical.byContradiction fun hne=>?_
 have h:=QlF (p:=q) (q:=r) (r:=fun j=>decide (j<n.toNat)) (fun j hj=>by have:=(q1 j hj).1;simp;omega) (fun j hj=>by have:=(r1 j hj).1;simp;omega) (fun j a b=>hne ⟨j,(q1 j a).2,(r1 j b).2⟩) (List.range 12)
 have h3:=(QjF n.toNat 12).1
 unfold QdU QnU at *
 omega
theorem Dec.el {l:Qv}(hO:Yv l){n:Int}{g:Gh}(h1:1≤n)(hg:Qb3 l n g){v:Qz}(h:Dec l g v):QA v l=true:=by
 rcases h with h|h
 ·obtain⟨j,hj,-⟩:=Qpv h1 (hg.dq v h) (hg.dq v h)
  exact hg.el j v hj
 rw[h];exact Qak l hO
theorem Qlu {l:Qv}(hO:Yv l){n:Int}{g:Gh}(h1:1≤n)(hg:Qb3 l n g){v w:Qz}(hv:Dec l g v)(hw:Dec l g w):QE l v w=true∨QE l w v=true:=by
 have ev:=hv.el hO h1 hg
 have ew:=hw.el hO h1 hg
 rcases hv with hv|hv
 ·rcases hw with hw|hw
  ·obtain⟨j,a,b⟩:=Qpv h1 (hg.dq v hv) (hg.dq w hw)
   exact hg.chain j v a w b
  exact .inr (by rw[hw];exact KC l hO v ev)
 ·exact .inl (by rw[hv];exact KC l hO w ew)
structure Gle (i:Nat) (g g':Gh):Prop where
 A:∀k,∀v∈g.A k,v∈g'.A k
 Ao:∀k,k≠i→g'.A k=g.A k
 num:g.num i≤g'.num i
 numo:∀k,k≠i→g'.num k=g.num k
 pv:∀k n,1≤n→n≤g.num k→g'.pv k n=g.pv k n
 D:∀v∈g.D,v∈g'.D
theorem Gle.refl (i:Nat)(g:Gh):Gle i g g:=⟨fun _ _ h=>h,fun _ _=>rfl,Int.le_refl _,fun _ _=>rfl,fun _ _ _ _=>rfl,fun _ h=>h⟩
theorem Gle.nums {i:Nat}{g g':Gh}(h:Gle i g g')(k:Nat):g.num k≤g'.num k:=by
 by_cases e:k=i
 ·subst e;exact h.num
 rw[h.numo k e];exact Int.le_refl _
theorem Gle.trans {i:Nat}{g g' g'':Gh}(h:Gle i g g')(k:Gle i g' g''):Gle i g g'':=
 ⟨fun j v hv=>k.A j v (h.A j v hv),fun j hj=>(k.Ao j hj).trans (h.Ao j hj),Int.le_trans h.num k.num,fun j hj=>(k.numo j hj).trans (h.numo j hj),
  fun j n h1 h2=>(k.pv j n h1 (Int.le_trans h2 (h.nums j))).trans (h.pv j n h1 h2),fun v hv=>k.D v (h.D v hv)⟩
theorem Dec.up {l:Qv}{i:Nat}{g g':Gh}(hle:Gle i g g'){v:Qz}(h:Dec l g v):Dec l g' v:=h.elim (fun h=>.inl (hle.D v h)) .inr
structure Qbn (l:Qv) (n:Int) (g:Gh) (i:Nat) (s:Nd) (c:Option Pp):Prop where
 nn:s.n=n
 self:s.self=(i:Nat)
 num:g.num i=s.num
 above:∀v∈g.A i,QE l v s.acc=true
 lrn:Dec l g s.lrn
 p:∀p,c=some p→1≤s.num∧p.v=g.pv i s.num∧∀j,p.ack j=true→(j:Int)<n∧p.v∈g.A j
theorem Qbn.up {l:Qv}{n:Int}{g g':Gh}{i j:Nat}{s:Nd}{c:Option Pp}(hle:Gle i g g')(hj:j≠i)(h:Qbn l n g j s c):Qbn l n g' j s c:=by
 refine⟨h.nn,h.self,(hle.numo j hj).trans h.num,fun v hv=>h.above v (by rw[←hle.Ao j hj];exact hv),h.lrn.up hle,fun p hp=>?_⟩;obtain⟨h1,h2,h3⟩:=h.p p hp;exact⟨h1,by rw[hle.pv j _ h1 (by rw[h.num];exact Int.le_refl _)];exact h2,fun k hk=>⟨(h3 k hk).1,hle.A k _ (h3 k hk).2⟩⟩
theorem Qbn.none {l:Qv}{n:Int}{g:Gh}{i:Nat}{s:Nd}{c:Option Pp}(h:Qbn l n g i s c):Qbn l n g i s none:={ h with p:=fun p hp=>by cases hp }
structure Qb6 (l:Qv) (n:Int) (X:List Qz) (g:Gh) (m:Kb):Prop where
 f0:0≤m.f
 f1:m.f<n
 t0:0≤m.t
 t1:m.t<n
 ft:m.f≠m.t
 gen:m.k≠2→W3 l X m.v
 k:m.k=1∧1≤m.n∧m.n≤g.num m.f.toNat∧m.v=g.pv m.f.toNat m.n∨m.k=2∧1≤m.n∧m.n≤g.num m.t.toNat∧m.v=Qz.zero∧g.pv m.t.toNat m.n∈g.A m.f.toNat∨m.k=3∧1≤m.n∨m.k=4∧m.n=0∧Dec l g m.v
theorem Qb6.up {l:Qv}{n:Int}{X Y:List Qz}{g g':Gh}{i:Nat}{m:Kb}(hle:Gle i g g')(hs:∀x∈X,x∈Y)(h:Qb6 l n X g m):Qb6 l n Y g' m:=by
 refine⟨h.f0,h.f1,h.t0,h.t1,h.ft,fun k=>(h.gen k).up hs,?_⟩
 rcases h.k with ⟨a,b,d,e⟩|⟨a,b,d,e,f⟩|h|⟨a,b,d⟩
 ·exact .inl ⟨a,b,Int.le_trans d (hle.nums _),by rw[hle.pv _ _ b d];exact e⟩
 ·exact .inr (.inl ⟨a,b,Int.le_trans d (hle.nums _),e,by rw[hle.pv _ _ b d];exact hle.A _ _ f⟩)
 ·exact .inr (.inr (.inl h))
 exact .inr (.inr (.inr ⟨a,b,d.up hle⟩))
theorem Qb6.chk {l:Qv}(hO:Yv l)(hc:QJ l=0){n:Int}{X:List Qz}(hX:Giv l X){g:Gh}{m:Kb}(h:Qb6 l n X g m){s:Nd}(hn:s.n=n)(hs:m.t=s.self):Wy l s m=0:=by
 have h1:=h.f0;have h2:=h.f1;have h3:=h.ft
 have hv:m.k≠2→Xr l m.v=true:=fun k=>by
  unfold Xr
  simp[hc,(h.gen k).elem hO hX]
 have hz:eqV Qz.zero Qz.zero=true:=(KJ _ _).2 rfl
 rcases h.k with ⟨a,b,-,-⟩|⟨a,b,-,e,-⟩|⟨a,b⟩|⟨a,b,-⟩
 ·simp[Wy,QeZ,cB1,cB2,cB3,cB4,cB5,cB6,a,hv (by omega),hn,←hs];omega
 ·simp[Wy,QeZ,cB1,cB2,cB3,cB4,cB5,cB6,a,e,hz,hn,←hs];omega
 ·simp[Wy,QeZ,cB1,cB2,cB3,cB4,cB5,cB6,a,hv (by omega),hn,←hs];omega
 ·simp[Wy,QeZ,cB1,cB2,cB3,cB4,cB5,cB6,a,b,hv (by omega),hn,←hs];omega
structure Wg (l:Qv) (X:List Qz) (s:Nd) (c:Option Pp):Prop where
 acc:W3 l X s.acc
 lrn:W3 l X s.lrn
 wt:W3 l X s.wt
 num0:0≤s.num
 p:∀p,c=some p→W3 l X p.v∧W3 l X p.g
theorem WO.gen {l:Qv}{X:List Qz}{s:Nd}{c:Option Pp}{k:Nat}(h:WO l X s c k):Wg l X s c:=⟨h.acc,h.lrn,h.wt,h.num0,fun p hp=>⟨(h.p p hp).1,(h.p p hp).2.1⟩⟩
theorem Wg.none {l:Qv}{X:List Qz}{s:Nd}{c:Option Pp}(h:Wg l X s c):Wg l X s none:={ h with p:=fun p hp=>by cases hp }
def Qcl (l:Qv)(s:Nd)(c:Option Pp):Qz:=Qs l (Qs l s.lrn s.wt) (match c with|none=>Qy l|some p=>p.v)
def Stp (l:Qv)(n:Int)(X:List Qz)(g:Gh)(i:Nat)(s:Nd)(c:Option Pp)(r:Nst):Prop:=
 ∃g',Qb3 l n g'∧Gle i g g'∧Qbn l n g' i r.1.1 r.1.2∧Wg l X r.1.1 r.1.2∧(∀b∈r.2,Qb6 l n X g' b)∧QE l s.acc r.1.1.acc=true∧QE l s.lrn r.1.1.lrn=true∧QE l (Qcl l s c) (Qcl l r.1.1 r.1.2)=true
theorem QfP {self:Int}{m:Kb}{to:Nat→Bool}{i:Nat}{b:Kb}(h:b∈Ww self m to i):∃j:Nat,j<i∧(j:Int)≠self∧b=⟨m.k,self,(j:Int),m.n,m.v⟩:=by
 unfold Ww at h
 obtain⟨j,hj,rfl⟩:=List.mem_map.1 h;obtain⟨h1,h2⟩:=List.mem_filter.1 hj;refine⟨j,List.mem_range.1 h1,?_,rfl⟩;intro e;rw[e] at h2
 simp at h2
section
variable {l:Qv}(hO:Yv l){X:List Qz}(hX:Giv l X){n:Int}{g:Gh}{i:Nat}{s:Nd}{c:Option Pp}
include hO hX
theorem Wg.els (h:Wg l X s c):QA s.acc l=true∧QA s.lrn l=true∧QA s.wt l=true:=⟨h.acc.elem hO hX,h.lrn.elem hO hX,h.wt.elem hO hX⟩
theorem KZ (h:Wg l X s c):QA (Qcl l s c) l=true:=by
 obtain⟨-,e2,e3⟩:=h.els hO hX
 have h1:=(Ys l hO _ _ e2 e3).el
 unfold Qcl
 cases c with
 |none=>exact(Ys l hO _ _ h1 (Qak l hO)).el
 |some p=>exact(Ys l hO _ _ h1 ((h.p p rfl).1.elem hO hX)).el
theorem YP (h:Wg l X s c):QE l s.lrn (Qcl l s c)=true∧QE l s.wt (Qcl l s c)=true∧(∀p,c=some p→QE l p.v (Qcl l s c)=true) ∧
  ∀u,QA u l=true→QE l s.lrn u=true→QE l s.wt u=true→(∀p,c=some p→QE l p.v u=true)→QE l (Qcl l s c) u=true:=by
 obtain⟨-,e2,e3⟩:=h.els hO hX
 have j1:=Ys l hO _ _ e2 e3
 have key:∀w,QA w l=true→QE l s.lrn (Qs l (Qs l s.lrn s.wt) w)=true∧QE l s.wt (Qs l (Qs l s.lrn s.wt) w)=true∧QE l w (Qs l (Qs l s.lrn s.wt) w)=true∧∀u,QA u l=true→QE l s.lrn u=true→QE l s.wt u=true→QE l w u=true→QE l (Qs l (Qs l s.lrn s.wt) w) u=true:=fun w hw=>by
  have j2:=Ys l hO _ _ j1.el hw
  exact⟨Xu l hO _ _ _ e2 j1.el j2.el j1.le1 j2.le1,Xu l hO _ _ _ e3 j1.el j2.el j1.le2 j2.le1,j2.le2,fun u hu h1 h2 h3=>j2.least u hu (j1.least u hu h1 h2) h3⟩
 cases c with
 |none=>
  obtain⟨h1,h2,-,h4⟩:=key (Qy l) (Qak l hO);exact⟨h1,h2,fun p hp=>(by cases hp),fun u hu a b _=>h4 u hu a b (KC l hO u hu)⟩
 |some p=>
  obtain⟨h1,h2,h3,h4⟩:=key p.v ((h.p p rfl).1.elem hO hX);exact⟨h1,h2,fun q hq=>by cases hq;exact h3,fun u hu a b d=>h4 u hu a b (d p rfl)⟩
theorem Qgr {s':Nd}{c':Option Pp}(h:Wg l X s c)(h':Wg l X s' c')(a:QE l s.lrn (Qcl l s' c')=true)(b:QE l s.wt (Qcl l s' c')=true)(d:∀p,c=some p→QE l p.v (Qcl l s' c')=true):QE l (Qcl l s c) (Qcl l s' c')=true:=
 (YP hO hX h).2.2.2 _ (KZ hO hX h') a b d
theorem Stp.trans {s2:Nd}{c2:Option Pp}{out:List Kb}{r:Nst}(h0:Wg l X s c)(h:Stp l n X g i s c ((s2,c2),out))(f:∀g',Qb3 l n g'→Qbn l n g' i s2 c2→Wg l X s2 c2→Stp l n X g' i s2 c2 r):Stp l n X g i s c (r.1,out++r.2):=by
 obtain⟨g1,a1,a2,a3,i2,a4,a5,a6,a7⟩:=h;obtain⟨g2,b1,b2,b3,i3,b4,b5,b6,b7⟩:=f g1 a1 a3 i2;refine⟨g2,b1,a2.trans b2,b3,i3,fun b hb=>?_,?_,?_,?_⟩
 ·rcases List.mem_append.1 hb with hb|hb
  ·exact(a4 b hb).up b2 fun x hx=>hx
  exact b4 b hb
 ·exact Xu l hO _ _ _ (h0.els hO hX).1 (i2.els hO hX).1 (i3.els hO hX).1 a5 b5
 ·exact Xu l hO _ _ _ (h0.els hO hX).2.1 (i2.els hO hX).2.1 (i3.els hO hX).2.1 a6 b6
 exact Xu l hO _ _ _ (KZ hO hX h0) (KZ hO hX i2) (KZ hO hX i3) a7 b7
end
theorem Qm.up {n:Int}{A A':Nat→List Qz}(h:∀j,∀v∈A j,v∈A' j){v:Qz}(q:Qm n A v):Qm n A' v:=by
 obtain⟨q,q1,q2⟩:=q;exact⟨q,fun j hj=>⟨(q1 j hj).1,h j v (q1 j hj).2⟩,q2⟩
def Gh.ack (g:Gh)(i:Nat)(v:Qz):Gh:={ g with A:=fun k=>if k=i then v::g.A k else g.A k }
def Gh.ren (g:Gh)(i:Nat)(m:Int)(v:Qz):Gh:={ g.ack i v with pv:=fun k j=>if k=i∧j=m then v else g.pv k j,num:=fun k=>if k=i then m else g.num k }
theorem QkB {g:Gh}{i k:Nat}{v w:Qz}(h:w∈g.A k):w∈(g.ack i v).A k:=by
 show w∈(if k=i then v::g.A k else g.A k)
 split
 ·exact List.mem_cons_of_mem _ h
 exact h
theorem Qmb {g:Gh}{i:Nat}{v:Qz}:v∈(g.ack i v).A i:=by
 show v∈(if i=i then v::g.A i else g.A i)
 rw[if_pos rfl];exact List.mem_cons_self
theorem Qn3 {g:Gh}{i:Nat}{v:Qz}:Gle i g (g.ack i v):=
 ⟨fun _ _ h=>QkB h,fun k hk=>(by show(if k=i then v::g.A k else g.A k)=_;rw[if_neg hk]),Int.le_refl _,fun _ _=>rfl,fun _ _ _ _=>rfl,fun _ h=>h⟩
section
variable {l:Qv}(hO:Yv l){X:List Qz}(hX:Giv l X){n:Int}{g:Gh}{i:Nat}{s:Nd}{c:Option Pp}
include hO
theorem QtN (hg:Qb3 l n g){a v:Qz}(h:∀w∈g.A i,QE l w a=true)(ea:QA a l=true)(ev:QA v l=true)(hv:QE l a v=true):Qb3 l n (g.ack i v)∧∀w∈(g.ack i v).A i,QE l w v=true:=by
 have up:∀w∈g.A i,QE l w v=true:=fun w hw=>Xu l hO _ _ _ (hg.el i w hw) ea ev (h w hw) hv
 have cs:∀ {k w},w∈(g.ack i v).A k→w∈g.A k∨k=i∧w=v:=fun {k w} hw=>by
  have hw:w∈(if k=i then v::g.A k else g.A k):=hw
  split at hw
  ·rename_i e
   rcases List.mem_cons.1 hw with h|h
   ·exact .inr ⟨e,h⟩
   exact .inl h
  exact .inl hw
 have rf:QE l v v=true:=Xo l hO v ev
 refine⟨⟨fun k w hw=>?_,fun k w hw u hu=>?_,fun w hw=>(hg.dq w hw).up fun j u hu=>QkB hu⟩,fun w hw=>?_⟩
 ·rcases cs hw with h|⟨-,h⟩
  ·exact hg.el k w h
  rw[h];exact ev
 ·rcases cs hw with h1|⟨e1,h1⟩<;>rcases cs hu with h2|⟨e2,h2⟩
  ·exact hg.chain k w h1 u h2
  ·subst e2;rw[h2];exact .inl (up w h1)
  ·subst e1;rw[h1];exact .inr (up u h2)
  rw[h1,h2];exact .inl rf
 rcases cs hw with h|⟨-,h⟩
 ·exact up w h
 rw[h];exact rf
include hX
theorem Qpf (hg:Qb3 l n g)(hn:Qbn l n g i s c)(h:Wg l X s c)(i1:(i:Int)<n){p:Pp}(gv:W3 l X p.v)(hv:QE l s.acc p.v=true)(to:Nat→Bool):
  ∃g',Qb3 l n g'∧Gle i g g'∧Qbn l n g' i (QbO s p) (some (QdJ l s p))∧Wg l X (QbO s p) (some (QdJ l s p))∧(∀b∈J4 (QbO s p) (QdJ l s p) to,Qb6 l n X g' b):=by
 obtain⟨ea,-,-⟩:=h.els hO hX
 have ev:=gv.elem hO hX
 obtain⟨k1,k2⟩:=QtN hO (i:=i) (n:=n) hg hn.above ea ev hv
 have h0:=h.num0
 have hnum:∀k,(g.ren i (s.num+1) p.v).num k=if k=i then s.num+1 else g.num k:=fun _=>rfl
 have hpv:∀k j,(g.ren i (s.num+1) p.v).pv k j=if k=i∧j=s.num+1 then p.v else g.pv k j:=fun _ _=>rfl
 have hle:Gle i g (g.ren i (s.num+1) p.v):=⟨Qn3.A,Qn3.Ao,by rw[hnum,if_pos rfl,hn.num];omega,fun k hk=>by rw[hnum,if_neg hk],fun k j a b=>by
  rw[hpv,if_neg];rintro⟨rfl,rfl⟩
  rw[hn.num] at b;omega,fun _ h=>h⟩
 refine⟨g.ren i (s.num+1) p.v,⟨k1.el,k1.chain,k1.dq⟩,hle,⟨hn.nn,hn.self,by rw[hnum,if_pos rfl];rfl,k2,hn.lrn.up hle,fun q hq=>?_⟩,⟨gv,h.lrn,h.wt,by show 0≤s.num+1;omega,fun q hq=>?_⟩,fun b hb=>?_⟩
 ·cases hq
  refine⟨by show 1≤s.num+1;omega,?_,fun j hj=>?_⟩
  ·show p.v=(g.ren i (s.num+1) p.v).pv i (s.num+1)
   rw[hpv,if_pos ⟨rfl,rfl⟩]
  have hj:upN (fun _=>false) s.self.toNat true j=true:=hj
  rw[upN] at hj
  split at hj
  ·rename_i e
   have hs:=hn.self
   obtain rfl:j=i:=by omega
   exact⟨i1,Qmb⟩
  cases hj
 ·cases hq;exact⟨gv,W3.bot⟩
 obtain⟨j,j1,j2,rfl⟩:=QfP hb
 have hs:(QbO s p).self=(i:Int):=hn.self
 have hs2:(QbO s p).n=n:=hn.nn
 rw[hs2] at j1;refine⟨by show 0≤(QbO s p).self;omega,by show(QbO s p).self<n;omega,by show(0:Int)≤(j:Int);omega,by show(j:Int)<n;omega,fun e=>j2 e.symm,fun _=>gv,.inl ⟨rfl,by show 1≤s.num+1;omega,?_,?_⟩⟩
 ·show s.num+1≤(g.ren i (s.num+1) p.v).num (QbO s p).self.toNat
  rw[hs,hnum,if_pos (by simp)];exact Int.le_refl _
 show p.v=(g.ren i (s.num+1) p.v).pv (QbO s p).self.toNat (s.num+1)
 rw[hs,hpv,if_pos ⟨by simp,rfl⟩]
theorem Qos (hg:Qb3 l n g)(n1:1≤n){p:Pp}(hn:Qbn l n g i s (some p))(h:Wg l X s (some p))(i1:(i:Int)<n)(hq:Qav s p=true):Stp l n X g i s (some p) ((Xv l s p,none),Qa2 (Xv l s p)):=by
 obtain⟨ea,el,ew⟩:=h.els hO hX;obtain⟨gv,gg⟩:=h.p p rfl
 have ev:=gv.elem hO hX
 obtain⟨p1,p2,p3⟩:=hn.p p rfl
 have hq:QdU s.n≤(QnU p.ack:Int):=by simpa [Qav] using hq
 have hle:Gle i g { g with D:=p.v::g.D }:=⟨fun _ _ h=>h,fun _ _=>rfl,Int.le_refl _,fun _ _=>rfl,fun _ _ _ _=>rfl,fun _ h=>List.mem_cons_of_mem _ h⟩
 have hg':Qb3 l n { g with D:=p.v::g.D }:=⟨hg.el,hg.chain,fun v hv=>by
  rcases List.mem_cons.1 hv with rfl|hv
  ·exact⟨p.ack,p3,by rw[←hn.nn];exact hq⟩
  exact hg.dq v hv⟩
 have dv:Dec l { g with D:=p.v::g.D } p.v:=.inl List.mem_cons_self
 have dl:=hn.lrn.up hle
 have hl:Dec l { g with D:=p.v::g.D } (Xv l s p).lrn∧W3 l X (Xv l s p).lrn∧QE l s.lrn (Xv l s p).lrn=true∧QE l p.v (Xv l s p).lrn=true:=by
  show Dec l _ (if QE l s.lrn p.v then p.v else s.lrn)∧W3 l X (if QE l s.lrn p.v then p.v else s.lrn)∧QE l s.lrn (if QE l s.lrn p.v then p.v else s.lrn)=true∧QE l p.v (if QE l s.lrn p.v then p.v else s.lrn)=true
  cases hb:QE l s.lrn p.v with
  |true=>rw[if_pos rfl];exact⟨dv,gv,hb,Xo l hO _ ev⟩
  |false=>
   rw[if_neg (by decide)];refine⟨dl,h.lrn,Xo l hO _ el,?_⟩
   rcases Qlu hO n1 hg' dl dv with h1|h1
   ·rw[hb] at h1;cases h1
   exact h1
 obtain⟨l1,l2,l3,l4⟩:=hl
 have gn:Wg l X (Xv l s p) none:=⟨h.acc,l2,h.wt,h.num0,fun q hq=>absurd hq (by simp)⟩
 have tl:=YP hO hX gn
 have el':=l2.elem hO hX
 refine⟨_,hg',hle,⟨hn.nn,hn.self,hn.num,hn.above,l1,fun q hq=>absurd hq (by simp)⟩,gn,fun b hb=>?_,Xo l hO _ ea,l3,Qgr hO hX h gn (Xu l hO _ _ _ el el' (KZ hO hX gn) l3 tl.1) tl.2.1 fun q hq=>?_⟩
 ·obtain⟨j,j1,j2,rfl⟩:=QfP hb
  have hs:(Xv l s p).self=(i:Int):=hn.self
  have hs2:(Xv l s p).n=n:=hn.nn
  rw[hs2] at j1;exact⟨by show 0≤(Xv l s p).self;omega,by show(Xv l s p).self<n;omega,by show(0:Int)≤(j:Int);omega,by show(j:Int)<n;omega,fun e=>j2 e.symm,fun _=>l2,.inr (.inr (.inr ⟨rfl,rfl,l1⟩))⟩
 cases hq;exact Xu l hO _ _ _ ev el' (KZ hO hX gn) l4 tl.1
theorem Qil (hg:Qb3 l n g)(n1:1≤n)(hn:Qbn l n g i s none)(h:Wg l X s none)(i1:(i:Int)<n):Stp l n X g i s none (Qd5 l s):=by
 obtain⟨ea,el,ew⟩:=h.els hO hX
 have gv:W3 l X (Qs l s.acc s.wt):=h.acc.join hO hX h.wt
 have ev:=gv.elem hO hX
 have J:=Ys l hO _ _ ea ew
 obtain⟨g1,a1,a2,a3,a4,a5⟩:=Qpf hO hX hg (s:={ s with wt:=Qy l }) (c:=none) (p:=QiP l s) ⟨hn.nn,hn.self,hn.num,hn.above,hn.lrn,fun p hp=>by cases hp⟩ ⟨h.acc,h.lrn,W3.bot,h.num0,fun p hp=>by cases hp⟩ i1 gv J.le1 Jn
 have tl:=YP hO hX a4
 have te:=KZ hO hX a4
 have hT:QE l (Qcl l s none) (Qcl l (Jv l s) (some (Ju l s)))=true:=Qgr hO hX h a4 tl.1 (Xu l hO _ _ _ ew ev te J.le2 (tl.2.2.1 _ rfl)) fun p hp=>by cases hp
 have st:Stp l n X g i s none ((Jv l s,some (Ju l s)),J4 (Jv l s) (Ju l s) Jn):=⟨g1,a1,a2,a3,a4,a5,J.le1,Xo l hO _ el,hT⟩
 unfold Qd5
 cases hq:Qav (Jv l s) (Ju l s) with
 |true=>
  rw[if_pos rfl]
  exact st.trans hO hX h fun g' b1 b2 b3=>Qos hO hX b1 n1 b2 b3 i1 hq
 |false=>rw[if_neg (by decide)];exact st
theorem Stp.stay (hg:Qb3 l n g){s':Nd}{c':Option Pp}{out:List Kb}(h:Wg l X s c)(hn':Qbn l n g i s' c')(h':Wg l X s' c')(ho:∀b∈out,Qb6 l n X g b)(h1:QE l s.acc s'.acc=true)(h2:QE l s.lrn s'.lrn=true)(h3:QE l s.wt (Qcl l s' c')=true)(h4:∀p,c=some p→QE l p.v (Qcl l s' c')=true):Stp l n X g i s c ((s',c'),out):=
 ⟨g,hg,Gle.refl _ _,hn',h',ho,h1,h2,Qgr hO hX h h' (Xu l hO _ _ _ (h.els hO hX).2.1 (h'.els hO hX).2.1 (KZ hO hX h') h2 (YP hO hX h').1) h3 h4⟩
theorem Stp.same (hg:Qb3 l n g)(hn:Qbn l n g i s c)(h:Wg l X s c){out:List Kb}(ho:∀b∈out,Qb6 l n X g b):Stp l n X g i s c ((s,c),out):=
 Stp.stay hO hX hg h hn h ho (Xo l hO _ (h.els hO hX).1) (Xo l hO _ (h.els hO hX).2.1) (YP hO hX h).2.1 (YP hO hX h).2.2.1
theorem Qmy (hg:Qb3 l n g)(n1:1≤n)(hn:Qbn l n g i s none)(h:Wg l X s none)(i1:(i:Int)<n):Stp l n X g i s none (Qf1 l s):=by
 unfold Qf1
 cases eqV s.wt (Qy l) with
 |true=>rw[if_pos rfl];exact Stp.same hO hX hg hn h fun b hb=>by cases hb
 |false=>rw[if_neg (by decide)];exact Qil hO hX hg n1 hn h i1
theorem Qru (hg:Qb3 l n g)(n1:1≤n){p:Pp}(hn:Qbn l n g i s (some p))(h:Wg l X s (some p))(i1:(i:Int)<n):Stp l n X g i s (some p) (Qb2 l s p):=by
 unfold Qb2
 cases hq:Qav s p with
 |true=>
  rw[if_pos rfl]
  exact(Qos hO hX hg n1 hn h i1 hq).trans hO hX h fun g' b1 b2 b3=>Qmy hO hX b1 n1 b2 b3 i1
 |false=>rw[if_neg (by decide)];exact Stp.same hO hX hg hn h fun b hb=>by cases hb
theorem QrS (hg:Qb3 l n g)(n1:1≤n){p:Pp}(hn:Qbn l n g i s (some p))(h:Wg l X s (some p))(i1:(i:Int)<n):Stp l n X g i s (some p) (Qa6 l s p):=by
 unfold Qa6
 cases hb:QE l p.v s.lrn with
 |true=>
  rw[if_pos rfl]
  have st:Stp l n X g i s (some p) ((s,none),[]):=Stp.stay hO hX hg h hn.none h.none (fun b hb=>by cases hb) (Xo l hO _ (h.els hO hX).1) (Xo l hO _ (h.els hO hX).2.1) (YP hO hX h.none).2.1 fun q hq=>by
   cases hq
   exact Xu l hO _ _ _ ((h.p p rfl).1.elem hO hX) (h.els hO hX).2.1 (KZ hO hX h.none) hb (YP hO hX h.none).1
  exact st.trans hO hX h fun g' b1 b2 b3=>Qmy hO hX b1 n1 b2 b3 i1
 |false=>rw[if_neg (by decide)];exact Stp.same hO hX hg hn h fun b hb=>by cases hb
theorem QlL (hg:Qb3 l n g)(hn:Qbn l n g i s c)(h:Wg l X s c){m:Kb}(gm:W3 l X m.v)(dm:Dec l g m.v):Stp l n X g i s c ((Jh l s m,c),[]):=by
 obtain⟨ea,el,ew⟩:=h.els hO hX
 have hl:Dec l g (Jh l s m).lrn∧W3 l X (Jh l s m).lrn∧QE l s.lrn (Jh l s m).lrn=true:=by
  show Dec l _ (if QE l s.lrn m.v then m.v else s.lrn)∧W3 l X (if QE l s.lrn m.v then m.v else s.lrn)∧QE l s.lrn (if QE l s.lrn m.v then m.v else s.lrn)=true
  cases hb:QE l s.lrn m.v with
  |true=>rw[if_pos rfl];exact⟨dm,gm,hb⟩
  |false=>rw[if_neg (by decide)];exact⟨hn.lrn,h.lrn,Xo l hO _ el⟩
 have gn:Wg l X (Jh l s m) c:=⟨h.acc,hl.2.1,h.wt,h.num0,h.p⟩
 exact Stp.stay hO hX hg h ⟨hn.nn,hn.self,hn.num,hn.above,hl.1,hn.p⟩ gn (fun b hb=>by cases hb) (Xo l hO _ ea) hl.2.2 (YP hO hX gn).2.1 (YP hO hX gn).2.2.1
theorem Qsd (hc:QJ l=0)(hg:Qb3 l n g)(n1:1≤n)(hn:Qbn l n g i s c)(h:Wg l X s c)(i1:(i:Int)<n){m:Kb}(hm:Qb6 l n X g m)(ht:m.t=(i:Int)):(Jd l s c m).2=0∧Stp l n X g i s c (Jd l s c m).1:=by
 have hok:Wy l s m=0:=hm.chk hO hc hX hn.nn (by rw[hn.self];exact ht)
 obtain⟨ea,el,ew⟩:=h.els hO hX
 have f0:=hm.f0;have f1:=hm.f1
 unfold Jd
 rw[if_neg (fun hn=>hn hok)]
 by_cases k1:m.k=1
 ·rw[if_pos k1]
  refine⟨rfl,?_⟩
  have gm:=hm.gen (by omega)
  have em:=gm.elem hO hX
  have gj:W3 l X (Qs l s.acc m.v):=h.acc.join hO hX gm
  have J:=Ys l hO _ _ ea em
  have gn:Wg l X { s with acc:=Qs l s.acc m.v } c:=⟨gj,h.lrn,h.wt,h.num0,h.p⟩
  have T:=YP hO hX gn
  have hk:1≤m.n∧m.n≤g.num m.f.toNat∧m.v=g.pv m.f.toNat m.n:=by
   rcases hm.k with h|h|h|h
   ·exact h.2
   all_goals (exfalso;have:=h.1;omega)
  obtain⟨q1,q2,q3⟩:=hk
  show Stp l n X g i s c (({ s with acc:=Qs l s.acc m.v },c),[Qg9 l s m])
  unfold Qg9
  cases hb:QE l s.acc m.v with
  |true=>
   rw[if_pos rfl]
   have ej:Qs l s.acc m.v=m.v:=QgM hO ea em hb
   obtain⟨k2,k3⟩:=QtN hO (i:=i) (n:=n) hg hn.above ea em hb
   have hle:Gle i g (g.ack i m.v):=Qn3
   refine⟨g.ack i m.v,k2,hle,⟨hn.nn,hn.self,hn.num,fun v hv=>by show QE l v (Qs l s.acc m.v)=true;rw[ej];exact k3 v hv,hn.lrn.up hle,fun p hp=>?_⟩,gn,fun b hb=>?_,J.le1,Xo l hO _ el,Qgr hO hX h gn T.1 T.2.1 T.2.2.1⟩
   ·obtain⟨p1,p2,p3⟩:=hn.p p hp
    exact⟨p1,p2,fun j hj=>⟨(p3 j hj).1,QkB (p3 j hj).2⟩⟩
   obtain rfl:=List.mem_singleton.1 hb
   have hs:=hn.self
   refine⟨by show 0≤s.self;omega,by show s.self<n;omega,f0,f1,fun e=>hm.ft (by show m.f=m.t;rw[ht,←hs];exact e.symm),fun hk=>absurd rfl hk,.inr (.inl ⟨rfl,q1,q2,rfl,?_⟩)⟩
   show g.pv m.f.toNat m.n∈(g.ack i m.v).A s.self.toNat
   rw[←q3,show s.self.toNat=i by omega];exact Qmb
  |false=>
   rw[if_neg (by decide)];refine⟨g,hg,Gle.refl _ _,⟨hn.nn,hn.self,hn.num,fun v hv=>Xu l hO _ _ _ (hg.el i v hv) ea J.el (hn.above v hv) J.le1,hn.lrn,hn.p⟩,gn,fun b hb=>?_,J.le1,Xo l hO _ el,Qgr hO hX h gn T.1 T.2.1 T.2.2.1⟩;obtain rfl:=List.mem_singleton.1 hb
   have hs:=hn.self
   exact⟨by show 0≤s.self;omega,by show s.self<n;omega,f0,f1,fun e=>hm.ft (by show m.f=m.t;rw[ht,←hs];exact e.symm),fun _=>gj,.inr (.inr (.inl ⟨rfl,q1⟩))⟩
 rw[if_neg k1]
 have d4:m.k=4→Dec l g m.v:=fun k4=>by
  rcases hm.k with h|h|h|h
  ·exact absurd h.1 k1
  ·have:=h.1;omega
  ·have:=h.1;omega
  exact h.2.2
 cases c with
 |none=>
  refine⟨rfl,?_⟩
  show Stp l n X g i s none ((if m.k=4 then Jh l s m else s,none),[])
  by_cases k4:m.k=4
  ·rw[if_pos k4];exact QlL hO hX hg hn h (hm.gen (by omega)) (d4 k4)
  rw[if_neg k4];exact Stp.same hO hX hg hn h fun b hb=>by cases hb
 |some p=>
  show(if m.k=4 then(Qa6 l (Jh l s m) p,(0:Int)) else if ¬m.n=s.num then(((s,some p),[]),0) else if m.k=2 then(Qb2 l s { p with ack:=upN p.ack m.f.toNat true },0) else(((s,some { p with g:=Qs l p.g m.v }),[]),0)).2=0∧Stp l n X g i s (some p) (if m.k=4 then(Qa6 l (Jh l s m) p,(0:Int)) else if ¬m.n=s.num then(((s,some p),[]),0) else if m.k=2 then(Qb2 l s { p with ack:=upN p.ack m.f.toNat true },0) else(((s,some { p with g:=Qs l p.g m.v }),[]),0)).1
  obtain⟨gv,gg⟩:=h.p p rfl;obtain⟨p1,p2,p3⟩:=hn.p p rfl
  by_cases k4:m.k=4
  ·rw[if_pos k4]
   refine⟨rfl,?_⟩
   have:=(QlL hO hX hg hn h (hm.gen (by omega)) (d4 k4)).trans hO hX h fun g' b1 b2 b3=>QrS hO hX b1 n1 b2 b3 i1
   rwa [List.nil_append] at this
  rw[if_neg k4]
  by_cases kn:m.n=s.num
  ·rw[if_neg (fun hn=>hn kn)]
   by_cases k2:m.k=2
   ·rw[if_pos k2]
    refine⟨rfl,?_⟩
    have hk:g.pv i s.num∈g.A m.f.toNat:=by
     rcases hm.k with h|h|h|h
     ·exact absurd h.1 k1
     ·have h:=h.2.2.2.2
      rwa [ht,kn] at h
     ·have:=h.1;omega
     exact absurd h.1 k4
    have hn2:Qbn l n g i s (some { p with ack:=upN p.ack m.f.toNat true }):=⟨hn.nn,hn.self,hn.num,hn.above,hn.lrn,fun q hq=>by
     cases hq
     refine⟨p1,p2,fun j hj=>?_⟩
     have hj:upN p.ack m.f.toNat true j=true:=hj
     rw[upN] at hj
     split at hj
     ·rename_i e
      subst e
      exact⟨by omega,by show p.v∈_;rw[p2];exact hk⟩
     exact p3 j hj⟩
    have gn:Wg l X s (some { p with ack:=upN p.ack m.f.toNat true }):=⟨h.acc,h.lrn,h.wt,h.num0,fun q hq=>by cases hq;exact⟨gv,gg⟩⟩
    have st:Stp l n X g i s (some p) ((s,some { p with ack:=upN p.ack m.f.toNat true }),[]):=Stp.stay hO hX hg h hn2 gn (fun b hb=>by cases hb) (Xo l hO _ ea) (Xo l hO _ el) (YP hO hX gn).2.1 (fun q hq=>by cases hq;exact(YP hO hX gn).2.2.1 ({ p with ack:=upN p.ack m.f.toNat true }:Pp) rfl)
    have:=st.trans hO hX h fun g' b1 b2 b3=>Qru hO hX b1 n1 b2 b3 i1
    rwa [List.nil_append] at this
   rw[if_neg k2];refine⟨rfl,?_⟩
   have gn:Wg l X s (some { p with g:=Qs l p.g m.v }):=⟨h.acc,h.lrn,h.wt,h.num0,fun q hq=>by cases hq;exact⟨gv,gg.join hO hX (hm.gen k2)⟩⟩
   exact Stp.stay hO hX hg h ⟨hn.nn,hn.self,hn.num,hn.above,hn.lrn,fun q hq=>by cases hq;exact⟨p1,p2,p3⟩⟩ gn (fun b hb=>by cases hb) (Xo l hO _ ea) (Xo l hO _ el) (YP hO hX gn).2.1 (fun q hq=>by cases hq;exact(YP hO hX gn).2.2.1 ({ p with g:=Qs l p.g m.v }:Pp) rfl)
  rw[if_pos kn];exact⟨rfl,Stp.same hO hX hg hn h fun b hb=>by cases hb⟩
theorem Qsl (hg:Qb3 l n g)(n1:1≤n)(hn:Qbn l n g i s c)(h:Wg l X s c)(i1:(i:Int)<n):Stp l n X g i s c (Yo l s c):=by
 obtain⟨ea,el,ew⟩:=h.els hO hX
 have hs:=hn.self
 have hs2:=hn.nn
 cases c with
 |none=>
  refine Stp.same hO hX hg hn h fun b hb=>?_
  split at hb
  ·cases hb
  obtain⟨j,j1,j2,rfl⟩:=QfP hb;rw[hs2] at j1;exact⟨by show 0≤s.self;omega,by show s.self<n;omega,by show(0:Int)≤(j:Int);omega,by show(j:Int)<n;omega,fun e=>j2 e.symm,fun _=>h.lrn,.inr (.inr (.inr ⟨rfl,rfl,hn.lrn⟩))⟩
 |some p=>
  obtain⟨gv,gg⟩:=h.p p rfl;obtain⟨p1,p2,p3⟩:=hn.p p rfl
  unfold Yo
  dsimp only
  cases hb:QE l p.g p.v with
  |true=>
   rw[if_pos rfl]
   refine Stp.same hO hX hg hn h fun b hb=>?_
   obtain⟨j,j1,j2,rfl⟩:=QfP hb;rw[hs2] at j1;refine⟨by show 0≤s.self;omega,by show s.self<n;omega,by show(0:Int)≤(j:Int);omega,by show(j:Int)<n;omega,fun e=>j2 e.symm,fun _=>gv,.inl ⟨rfl,p1,?_,?_⟩⟩
   ·show s.num≤g.num s.self.toNat
    rw[show s.self.toNat=i by omega,hn.num];exact Int.le_refl _
   show p.v=g.pv s.self.toNat s.num
   rw[show s.self.toNat=i by omega];exact p2
  |false=>
   rw[if_neg (by decide)]
   have ev:=gv.elem hO hX
   have eg:=gg.elem hO hX
   have J1:=Ys l hO _ _ ev eg
   have J2:=Ys l hO _ _ J1.el ea
   have gj:W3 l X (Qaa l s p).v:=(gv.join hO hX gg).join hO hX h.acc
   obtain⟨g1,a1,a2,a3,a4,a5⟩:=Qpf hO hX hg hn h i1 (p:=Qaa l s p) gj J2.le2 Jn
   have T:=YP hO hX a4
   have te:=KZ hO hX a4
   refine⟨g1,a1,a2,a3,a4,a5,J2.le2,Xo l hO _ el,Qgr hO hX h a4 T.1 T.2.1 fun q hq=>?_⟩
   cases hq
   exact Xu l hO _ _ _ ev J2.el te (Xu l hO _ _ _ ev J1.el J2.el J1.le1 J2.le1) (T.2.2.1 _ rfl)
theorem Qn2 (hg:Qb3 l n g)(hn:Qbn l n g i s c)(h:Wg l X s c){v:Qz}(gv:W3 l X v):Stp l n X g i s c (({ s with wt:=Qs l s.wt v },c),[])∧QE l v (Qcl l { s with wt:=Qs l s.wt v } c)=true:=by
 obtain⟨ea,el,ew⟩:=h.els hO hX
 have ev:=gv.elem hO hX
 have J:=Ys l hO _ _ ew ev
 have gn:Wg l X { s with wt:=Qs l s.wt v } c:=⟨h.acc,h.lrn,h.wt.join hO hX gv,h.num0,h.p⟩
 have T:=YP hO hX gn
 have te:=KZ hO hX gn
 exact⟨Stp.stay hO hX hg h ⟨hn.nn,hn.self,hn.num,hn.above,hn.lrn,hn.p⟩ gn (fun b hb=>by cases hb) (Xo l hO _ ea) (Xo l hO _ el) (Xu l hO _ _ _ ew J.el te J.le1 T.2.1) T.2.2.1,Xu l hO _ _ _ ev J.el te J.le2 T.2.1⟩
theorem Qqu (hg:Qb3 l n g)(n1:1≤n)(hn:Qbn l n g i s c)(h:Wg l X s c)(i1:(i:Int)<n){v:Qz}(hv:Xr l v=true)(gv:W3 l X v):(QB l s c v).2=0∧Stp l n X g i s c (QB l s c v).1∧QE l v (Qcl l (QB l s c v).1.1.1 (QB l s c v).1.1.2)=true:=by
 obtain⟨w1,w2⟩:=Qn2 hO hX hg hn h gv
 unfold QB
 rw[if_neg (by rw[hv];decide)]
 cases c with
 |some p=>exact⟨rfl,w1,w2⟩
 |none=>
  refine⟨rfl,?_⟩;obtain⟨g1,a1,a2,a3,a4,a5,a6,a7,a8⟩:=w1
  have st:=Qil hO hX a1 n1 a3 a4 i1
  have hw:QE l v (Qcl l (Qd5 l { s with wt:=Qs l s.wt v }).1.1 (Qd5 l { s with wt:=Qs l s.wt v }).1.2)=true:=by
   obtain⟨g2,-,-,-,b4,-,-,-,b8⟩:=st;exact Xu l hO _ _ _ (gv.elem hO hX) (KZ hO hX a4) (KZ hO hX b4) w2 b8
  refine⟨?_,hw⟩
  have:=(show Stp l n X g i s none (({ s with wt:=Qs l s.wt v },none),[]) from⟨g1,a1,a2,a3,a4,a5,a6,a7,a8⟩).trans hO hX h fun g' b1 b2 b3=>Qil hO hX b1 n1 b2 b3 i1
  rwa [List.nil_append] at this
end
end Go.Proofs.YtnkkokmmeplbgaaGreat
