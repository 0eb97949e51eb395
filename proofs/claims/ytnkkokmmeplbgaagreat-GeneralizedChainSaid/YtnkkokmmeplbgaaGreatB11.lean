/-
  Plain laws: values are compared by a total order; clocks, en
-/
import Derived.Test.YtnkkokmmeplbgaaGreatB10
import Derived.Test.YtnkkokmmeplbgaaGreatB4
namespace Go.Proofs.YtnkkokmmeplbgaaGreat
open Go.RowKit
theorem QlT {α β:Type}(c:α→α→Int)(f:β→α):∀a b:List β,XD c (a.map f) (b.map f)=XD (fun x y=>c (f x) (f y)) a b
 |[],[]=>rfl
 |[],_::_=>rfl
 |_::_,[]=>rfl
 |x::a,y::b=>by simp only[List.map,XD];rw[QlT c f a b]
abbrev VS (n:Nat):= {v:Qz // SizeOf.sizeOf v<n}
def VS.down {n:Nat}(v:VS (n+1)):List (VS n):=v.1.ps.attach.map fun p=>⟨p.1,by have:=Qz.sizeOf_ps p.2;have:=v.2;omega⟩
theorem VS.down_map {n:Nat}(v:VS (n+1)):v.down.map Subtype.val=v.1.ps:=by
 unfold VS.down;rw[List.map_map];exact List.attach_map_subtype_val _
theorem QfJ:∀n,Qab (fun x y:VS n=>JH x.1 y.1)
 |0=>⟨fun x=>absurd x.2 (Nat.not_lt_zero _),fun x=>absurd x.2 (Nat.not_lt_zero _),fun x=>absurd x.2 (Nat.not_lt_zero _)⟩
 |n+1=>by
  have ih:=QfJ n
  have h3:=Qf4 (α:=List (VS n)×List En) Prod.fst Prod.snd (Qgb ih) (Qgb YL) (fun x y h1 h2=>Prod.ext h1 h2)
  have h2:=Qf4 (α:=List Nm×(List (VS n)×List En)) Prod.fst Prod.snd (Qgb Yg) h3 (fun x y h1 h2=>Prod.ext h1 h2)
  have h1:=Qf4 (α:=VS (n+1)) (fun v=>v.1.N) (fun v=>(v.1.nm,(v.down,v.1.es))) Ky h2 (fun x y e1 e2=>by
   have e3:=congrArg Prod.fst e2
   have e4:=congrArg (fun p=>p.2.1) e2
   have e5:=congrArg (fun p=>p.2.2) e2
   simp only at e3 e4 e5
   have e6:x.1.ps=y.1.ps:=by rw[←VS.down_map,←VS.down_map,e4]
   apply Subtype.ext
   rw[←Qz.eta x.1,←Qz.eta y.1,e1,e3,e6,e5])
  refine Eq.mpr (congrArg Qab ?_) h1
  funext x y
  rw[Wj,←VS.down_map x,←VS.down_map y,QlT,Qg6]
  simp only[Qog]
  by_cases c1:Lib.compareInt x.1.N y.1.N=0
  ·by_cases c2:XD Lib.compareBytes x.1.nm y.1.nm=0
   ·by_cases c3:XD (fun x y:VS n=>JH x.1 y.1) x.down y.down=0
    ·simp only[c1,c2,c3,ne_eq,not_true,if_true,if_false]
    simp only[c1,c2,c3,ne_eq,not_true,not_false_eq_true,if_true,if_false]
   simp only[c1,c2,ne_eq,not_false_eq_true,if_true,if_false]
  simp only[c1,ne_eq,not_false_eq_true,if_true,if_false]
theorem QjB:Qab JH where
 anti x y:=(QfJ (SizeOf.sizeOf x+SizeOf.sizeOf y+1)).anti ⟨x,by omega⟩ ⟨y,by omega⟩
 trans x y z:=(QfJ (SizeOf.sizeOf x+SizeOf.sizeOf y+SizeOf.sizeOf z+1)).trans ⟨x,by omega⟩ ⟨y,by omega⟩ ⟨z,by omega⟩
 eq x y h:=congrArg Subtype.val ((QfJ (SizeOf.sizeOf x+SizeOf.sizeOf y+1)).eq ⟨x,by omega⟩ ⟨y,by omega⟩ h)
theorem KJ (x y:Qz):eqV x y=true↔x=y:=by
 unfold eqV;rw[beq_iff_eq]
 exact⟨QjB.eq x y,fun h=>h▸QjB.refl x⟩
theorem Y7 {last:Int}{t:Tk}:Qeg last t=true↔last<t.1∧t.1≤63∧1≤t.2∧t.2≤1000000000000000:=by
 simp only[Qeg,Bool.not_eq_true',Bool.or_eq_false_iff,decide_eq_false_iff_not];omega
theorem Wn {last:Int}{x:Tk}{r:List Tk}:Q2 last (x::r)=true↔Qeg last x=true∧Q2 x.1 r=true:=by
 rw[Q2,Bool.and_eq_true]
theorem XZ (x:Tk)(r:List Tk)(p:Int):QeG (x::r) p=if x.1=p then x.2 else QeG r p:=by
 unfold QeG
 rw[List.find?_cons]
 by_cases h:x.1=p
 ·rw[if_pos h,show(x.1==p)=true from beq_iff_eq.2 h]
 rw[if_neg h,show(x.1==p)=false from beq_eq_false_iff_ne.2 h]
theorem QaP:∀(l:List Tk) (last p:Int),Q2 last l=true→p≤last→QeG l p=0
 |[],_,_,_,_=>rfl
 |x::r,last,p,h,hp=>by
  obtain⟨h1,h2⟩:=Wn.1 h
  have:=Y7.1 h1
  rw[XZ,if_neg (by omega)];exact QaP r x.1 p h2 (by omega)
theorem Qep:∀(l:List Tk) (last p:Int),Q2 last l=true→0≤QeG l p
 |[],_,_,_=>Int.le_refl _
 |x::r,last,p,h=>by
  obtain⟨h1,h2⟩:=Wn.1 h
  have:=Y7.1 h1
  rw[XZ]
  split
  ·omega
  exact Qep r x.1 p h2
def cle (a b:List Tk):Prop:=∀p,QeG a p≤QeG b p
theorem Qij (a:List Tk):cle a a:=fun _=>Int.le_refl _
theorem QjA {a b c:List Tk}(h:cle a b)(k:cle b c):cle a c:=fun p=>Int.le_trans (h p) (k p)
theorem Qkr {p k:Int}{l:List Tk}(h:k > 0):QdC p k l≠[]:=by unfold QdC;rw[if_pos h];simp
theorem Qj4 {p k:Int}{l:List Tk}(h:¬k > 0):QdC p k l=l:=by unfold QdC;rw[if_neg h]
theorem Qo0 {l:List Tk}{a b:Int}(h:Q2 a l=true)(hb:∀x r,l=x::r→b<x.1):Q2 b l=true:=by
 cases l with
 |nil=>rfl
 |cons x r=>
  obtain⟨h1,h2⟩:=Wn.1 h
  have:=Y7.1 h1
  have:=hb x r rfl
  exact Wn.2 ⟨Y7.2 ⟨by omega,by omega,by omega,by omega⟩,h2⟩
theorem Qf0:∀(n:Nat) (a b:List Tk) (l1 l2:Int),a.length+b.length≤n→Q2 l1 a=true→Q2 l2 b=true→(Wx Wi a b=[]↔cle a b)
 |_,[],[],_,_,_,_,_=>⟨fun _=>Qij _,fun _=>rfl⟩
 |0,_::_,_,_,_,h,_,_=>by simp at h
 |0,[],_::_,_,_,h,_,_=>by simp at h
 |n+1,x::r,[],l1,l2,_,ha,_=>by
  obtain⟨h1,h2⟩:=Wn.1 ha
  have:=Y7.1 h1
  rw[Qwc];refine⟨fun h=>absurd h (Qkr ?_),fun h=>?_⟩
  ·unfold Wi;split<;>omega
  have h3:=h x.1
  rw[XZ,if_pos rfl] at h3
  have:QeG [] x.1=0:=rfl
  omega
 |n+1,[],y::s,l1,l2,hl,ha,hb=>by
  obtain⟨h1,h2⟩:=Wn.1 hb
  have:=Y7.1 h1
  rw[Qw5,Qj4 (by unfold Wi;split<;>omega),Qf0 n [] s l1 y.1 (by simp at hl ⊢;omega) ha h2];exact⟨fun _ p=>Qep _ _ p hb,fun _ p=>Qep _ _ p h2⟩
 |n+1,x::r,y::s,l1,l2,hl,ha,hb=>by
  obtain⟨h1,h2⟩:=Wn.1 ha;obtain⟨k1,k2⟩:=Wn.1 hb
  have o1:=Y7.1 h1
  have o2:=Y7.1 k1
  simp only[List.length_cons] at hl
  by_cases e1:x.1<y.1
  ·rw[QtE e1]
   refine⟨fun h=>absurd h (Qkr (by unfold Wi;split<;>omega)),fun h=>?_⟩
   have h3:=h x.1
   have hb':Q2 x.1 (y::s)=true:=Qo0 hb (fun z q e=>by cases e;exact e1)
   rw[XZ,if_pos rfl,QaP _ _ _ hb' (Int.le_refl _)] at h3
   omega
  by_cases e2:y.1<x.1
  ·rw[QtJ e1 e2,Qj4 (by unfold Wi;split<;>omega),Qf0 n (x::r) s l1 y.1 (by simp;omega) ha k2]
   have ha':Q2 y.1 (x::r)=true:=Qo0 ha (fun z q e=>by cases e;exact e2)
   constructor
   ·intro h p
    rw[XZ y]
    by_cases hp:y.1=p
    ·rw[if_pos hp,←hp,QaP _ _ _ ha' (Int.le_refl _)];omega
    rw[if_neg hp];exact h p
   intro h p
   have:=h p
   rw[XZ y] at this
   by_cases hp:y.1=p
   ·rw[←hp,QaP _ _ _ ha' (Int.le_refl _)];exact Qep _ _ _ k2
   rw[if_neg hp] at this;exact this
  have e:x.1=y.1:=by omega
  rw[Qs3 e1 e2]
  by_cases hg:x.2 > y.2
  ·refine⟨fun h=>absurd h (Qkr (by unfold Wi;rw[if_pos hg];omega)),fun h=>?_⟩
   have:=h x.1
   rw[XZ,if_pos rfl,XZ,if_pos e.symm] at this
   omega
  rw[Qj4 (by unfold Wi;rw[if_neg hg];omega),Qf0 n r s x.1 y.1 (by omega) h2 k2]
  constructor
  ·intro h p
   rw[XZ,XZ,←e]
   by_cases hp:x.1=p
   ·rw[if_pos hp,if_pos hp];omega
   rw[if_neg hp,if_neg hp];exact h p
  intro h p
  have:=h p
  rw[XZ,XZ,←e] at this
  by_cases hp:x.1=p
  ·rw[←hp,QaP _ _ _ h2 (Int.le_refl _)];exact Qep _ _ _ k2
  rw[if_neg hp,if_neg hp] at this;exact this
theorem Qo8:∀(a b:List Tk) (l1 l2:Int),Q2 l1 a=true→Q2 l2 b=true→cle a b→cle b a→a=b
 |[],[],_,_,_,_,_,_=>rfl
 |x::r,[],_,_,ha,_,h,_=>by
  have:=Y7.1 (Wn.1 ha).1
  have:=h x.1
  rw[XZ,if_pos rfl] at this
  have:QeG [] x.1=0:=rfl
  omega
 |[],y::s,_,_,_,hb,_,h=>by
  have:=Y7.1 (Wn.1 hb).1
  have:=h y.1
  rw[XZ,if_pos rfl] at this
  have:QeG [] y.1=0:=rfl
  omega
 |x::r,y::s,l1,l2,ha,hb,h,k=>by
  obtain⟨h1,h2⟩:=Wn.1 ha;obtain⟨k1,k2⟩:=Wn.1 hb
  have o1:=Y7.1 h1
  have o2:=Y7.1 k1
  have e:x.1=y.1:=by
   rcases Int.lt_trichotomy x.1 y.1 with e|e|e
   ·have h3:=h x.1
    rw[XZ,if_pos rfl,QaP _ _ _ (Qo0 hb (fun z q e'=>by cases e';exact e)) (Int.le_refl _)] at h3
    omega
   ·exact e
   have h3:=k y.1
   rw[XZ,if_pos rfl,QaP _ _ _ (Qo0 ha (fun z q e'=>by cases e';exact e)) (Int.le_refl _)] at h3
   omega
  have e2:x.2=y.2:=by
   have h3:=h x.1
   have h4:=k x.1
   rw[XZ,if_pos rfl,XZ,if_pos e.symm] at h3;rw[XZ,if_pos e.symm,XZ,if_pos rfl] at h4
   omega
  have e3:x=y:=Prod.ext e e2
  subst e3
  have tl:∀(u v:List Tk),Q2 x.1 u=true→Q2 x.1 v=true→cle (x::u) (x::v)→cle u v:=fun u v hu hv h p=>by
   have:=h p
   rw[XZ,XZ] at this
   by_cases hp:x.1=p
   ·rw[←hp,QaP _ _ _ hu (Int.le_refl _)];exact Qep _ _ _ hv
   rw[if_neg hp,if_neg hp] at this;exact this
  rw[Qo8 r s x.1 x.1 h2 k2 (tl _ _ h2 k2 h) (tl _ _ k2 h2 k)]
open Classical in
theorem Qk0 {a b:List Tk}(ha:Q2 (-1) a=true)(hb:Q2 (-1) b=true):QfI a b=if cle a b then(if cle b a then 0 else 1) else if cle b a then 2 else 3:=by
 have e:∀a b:List Tk,Q2 (-1) a=true→Q2 (-1) b=true→((Qgy a b).length==0)=decide (cle a b):=fun a b ha hb=>by
  unfold Qgy QjV
  rw[ha,hb,Bool.and_self,if_pos rfl]
  have:=Qf0 _ a b (-1) (-1) (Nat.le_refl _) ha hb
  by_cases h:cle a b
  ·rw[this.2 h];simp[h]
  have h2:Wx Wi a b≠[]:=fun e=>h (this.1 e)
  have h3:(Wx Wi a b).length≠0:=fun e=>h2 (List.eq_nil_of_length_eq_zero e)
  simp[h,h3]
 unfold QfI
 rw[ha,hb,e a b ha hb,e b a hb ha]
 simp
def ltE (x y:En):Prop:=cle x.1 y.1∧¬cle y.1 x.1
def leE (x y:En):Prop:=ltE x y∨x=y
theorem Qiu (x:En):¬ltE x x:=fun h=>h.2 h.1
theorem QeD {x y z:En}(h1:ltE x y)(h2:ltE y z):ltE x z:=⟨QjA h1.1 h2.1,fun h=>h2.2 (QjA h h1.1)⟩
theorem Qfv (x:En):leE x x:=.inr rfl
theorem QjZ {x y z:En}(h1:leE x y)(h2:leE y z):leE x z:=by
 rcases h1 with h1|rfl
 ·rcases h2 with h2|rfl
  ·exact .inl (QeD h1 h2)
  exact .inl h1
 exact h2
theorem Qvp {x y z:En}(h1:ltE x y)(h2:leE y z):ltE x z:=by
 rcases h2 with h2|rfl
 ·exact QeD h1 h2
 exact h1
theorem Qve {x y z:En}(h1:leE x y)(h2:ltE y z):ltE x z:=by
 rcases h1 with h1|rfl
 ·exact QeD h1 h2
 exact h2
theorem QeU {x y:En}(hx:Q2 (-1) x.1=true)(hy:Q2 (-1) y.1=true):Qdc x y=true↔leE x y:=by
 unfold Qdc
 rw[Qk0 hx hy]
 by_cases h1:cle x.1 y.1<;>by_cases h2:cle y.1 x.1
 ·have e:=Qo8 _ _ _ _ hx hy h1 h2
  simp only[h1,h2,if_true]
  constructor
  ·intro h;exact .inr (Prod.ext e (by simpa using h))
  rintro(h|rfl)
  ·exact absurd h2 h.2
  simp
 ·simp only[h1,h2,if_true,if_false]
  exact⟨fun _=>.inl ⟨h1,h2⟩,fun _=>by simp⟩
 ·simp only[h1,h2,if_true,if_false]
  exact⟨fun h=>by simp at h,fun h=>by
   rcases h with h|rfl
   ·exact absurd h.1 h1
   exact absurd (Qij _) h1⟩
 simp only[h1,h2,if_false]
 exact⟨fun h=>by simp at h,fun h=>by
  rcases h with h|rfl
  ·exact absurd h.1 h1
  exact absurd (Qij _) h1⟩
theorem Qjn {x y:En}(hx:Q2 (-1) x.1=true)(hy:Q2 (-1) y.1=true):Qpt x y=true↔ltE x y:=by
 unfold Qpt ltE
 rw[Qk0 hx hy]
 by_cases h1:cle x.1 y.1<;>by_cases h2:cle y.1 x.1<;>simp[h1,h2]
theorem QhF {x y:En}(hx:Q2 (-1) x.1=true)(hy:Q2 (-1) y.1=true):QfV x y=true↔¬ltE x y∧¬ltE y x:=by
 unfold QfV ltE
 rw[Qk0 hx hy]
 by_cases h1:cle x.1 y.1<;>by_cases h2:cle y.1 x.1<;>simp[h1,h2]
structure YJ (es:List En):Prop where
 valid:∀x∈es,Q2 (-1) x.1=true
 ne:∀x∈es,x.1≠[]
 name:∀x∈es,XU x.2=true
 sorted:es.Pairwise (fun x y=>JV x y<0)
 anti:∀x∈es,∀y∈es,¬ltE x y
theorem Qvc {x y z:En}(h1:JV x y<0)(h2:JV y z<0):JV x z<0:=by
 have:=(YL.swo (fun x:En=>x)).trans x y z (decide_eq_true h1) (decide_eq_true h2)
 exact of_decide_eq_true this
theorem Qag:∀(es:List En),(∀j e d,es[j+1]?=some e→es[j]?=some d→JV d e<0)→es.Pairwise (fun x y=>JV x y<0)
 |[],_=>List.Pairwise.nil
 |[_],_=>List.pairwise_singleton _ _
 |a::b::r,h=>by
  have ih:=Qag (b::r) (fun j e d he hd=>h (j+1) e d (by simpa using he) (by simpa using hd))
  have hab:=h 0 b a rfl rfl
  refine List.Pairwise.cons (fun y hy=>?_) ih
  rcases List.mem_cons.1 hy with rfl|hy
  ·exact hab
  exact Qvc hab ((List.pairwise_cons.1 ih).1 y hy)
theorem QkA {l:List En}:QkH l=true↔∀k x,l[k]?=some x→Qft l x k=true:=by
 unfold QkH
 rw[List.all_eq_true]
 constructor
 ·intro h k x hx
  exact h (x,k) (List.mem_of_getElem? (Jr hx))
 rintro h ⟨x,k⟩ hm;obtain⟨i,hi⟩:=List.mem_iff_getElem?.1 hm
 have h2:=(List.getElem?_eq_some_iff.1 hi).1
 rw[Qfx] at h2
 have h3:=Jr (List.getElem?_eq_getElem h2)
 rw[hi] at h3
 cases h3
 exact h k _ (List.getElem?_eq_getElem h2)
theorem QhC {l:List En}{k:Nat}{x:En}(hx:l[k]?=some x):Qft l x k=true↔x.1≠[]∧Q2 (-1) x.1=true∧XU x.2=true∧(∀y,0<k→l[k-1]?=some y→JV y x<0)∧∀y∈l.take k,QfV x y=true:=by
 have hkl:=(List.getElem?_eq_some_iff.1 hx).1
 unfold Qft
 simp only[Bool.and_eq_true,Bool.not_eq_true',List.all_eq_true,and_assoc]
 refine and_congr ?_ (and_congr Iff.rfl (and_congr Iff.rfl (and_congr ?_ Iff.rfl)))
 ·cases x.1<;>simp;omega
 by_cases hk:0<k
 ·have h1:l[k-1]?=some l[k-1]:=List.getElem?_eq_getElem (by omega)
  have h0:((k:Int) > 0):=by omega
  rw[h1]
  simp[hk]
 have h0:¬((k:Int) > 0):=by omega
 simp only[h0,decide_false,Bool.false_and]
 exact⟨fun _ y h=>absurd h hk,fun _=>trivial⟩
theorem YJ.of {es:List En}(h:QkH es=true):YJ es:=by
 have h':=fun k x hx=>(QhC hx).1 (QkA.1 h k x hx)
 have hj:∀x∈es,∃j:Nat,es[j]?=some x:=fun x hx=>List.mem_iff_getElem?.1 hx
 have hv:∀x∈es,Q2 (-1) x.1=true:=fun x hx=>by obtain⟨j,hj⟩:=hj x hx;exact(h' j x hj).2.1
 refine⟨hv,fun x hx=>?_,fun x hx=>?_,?_,fun x hx y hy hlt=>?_⟩
 ·obtain⟨j,hj⟩:=hj x hx;exact(h' j x hj).1
 ·obtain⟨j,hj⟩:=hj x hx;exact(h' j x hj).2.2.1
 ·exact Qag es (fun j e d he hd=>(h' (j+1) e he).2.2.2.1 d (by omega) hd)
 obtain⟨j,hj⟩:=hj x hx;obtain⟨k,hk⟩:=List.mem_iff_getElem?.1 hy
 rcases Nat.lt_trichotomy j k with e|e|e
 ·have hm:x∈es.take k:=by rw[List.mem_take_iff_getElem];obtain⟨g1,g2⟩:=List.getElem?_eq_some_iff.1 hj;exact⟨j,by omega,g2⟩
  exact((QhF (hv y hy) (hv x hx)).1 ((h' k y hk).2.2.2.2 x hm)).2 hlt
 ·subst e
  rw[hj] at hk;cases hk
  exact Qiu _ hlt
 have hm:y∈es.take j:=by rw[List.mem_take_iff_getElem];obtain⟨g1,g2⟩:=List.getElem?_eq_some_iff.1 hk;exact⟨k,by omega,g2⟩
 exact((QhF (hv x hx) (hv y hy)).1 ((h' j x hj).2.2.2.2 y hm)).1 hlt
theorem YJ.regB_ {es:List En}(h:YJ es):QkH es=true:=by
 refine QkA.2 fun k x hx=>(QhC hx).2 ?_
 have hm:=List.mem_of_getElem? hx
 refine⟨h.ne x hm,h.valid x hm,h.name x hm,fun y hk hy=>?_,fun y hy=>?_⟩
 ·obtain⟨h1,rfl⟩:=List.getElem?_eq_some_iff.1 hx
  obtain⟨h2,rfl⟩:=List.getElem?_eq_some_iff.1 hy;exact List.pairwise_iff_getElem.1 h.sorted (k-1) k h2 h1 (by omega)
 have hy:=List.mem_of_mem_take hy
 exact(QhF (h.valid x hm) (h.valid y hy)).2 ⟨h.anti x hm y hy,h.anti y hy x hm⟩
theorem YJ.nodup {es:List En}(h:YJ es):es.Nodup:=h.sorted.imp (fun {a b} h e=>by subst e;rw[YL.refl] at h;exact absurd h (by decide))
theorem QiV {a b:List En}(hp:a.Perm b)(ha:a.Pairwise (fun x y=>JV x y≤0))(hb:b.Pairwise (fun x y=>JV x y≤0)):a=b:=
 hp.eq_of_pairwise (fun x y _ _ h1 h2=>YL.eq x y (by have:=YL.anti y x;omega)) ha hb
theorem YJ.ext_ {a b:List En}(ha:YJ a)(hb:YJ b)(h:∀x,x∈a↔x∈b):a=b:=
 QiV ((List.perm_ext_iff_of_nodup ha.nodup hb.nodup).2 h) (ha.sorted.imp (fun h=>by omega)) (hb.sorted.imp (fun h=>by omega))
theorem YJ.le_eq {es:List En}(h:YJ es){x y:En}(hx:x∈es)(hy:y∈es)(hl:leE x y):x=y:=by
 rcases hl with hl|hl
 ·exact absurd hl (h.anti x hx y hy)
 exact hl
theorem Qca {x:En}{es:List En}(hx:Q2 (-1) x.1=true)(hv:∀y∈es,Q2 (-1) y.1=true):J9 es x=true↔∃y∈es,leE x y:=by
 unfold J9
 rw[List.any_eq_true];exact⟨fun⟨y,hy,h⟩=>⟨y,hy,(QeU hx (hv y hy)).1 h⟩,fun⟨y,hy,h⟩=>⟨y,hy,(QeU hx (hv y hy)).2 h⟩⟩
theorem QnV {a b:List En}(ha:∀x∈a,Q2 (-1) x.1=true)(hb:∀x∈b,Q2 (-1) x.1=true):a.all (J9 b)=true↔∀x∈a,∃y∈b,leE x y:=by
 rw[List.all_eq_true];exact⟨fun h x hx=>(Qca (ha x hx) hb).1 (h x hx),fun h x hx=>(Qca (ha x hx) hb).2 (h x hx)⟩
theorem Y2 {l:List Nm}{s:Nm}:JL l s=true↔s∈l:=by
 unfold JL;rw[List.any_eq_true]
 exact⟨fun⟨x,hx,h⟩=>by rw[beq_iff_eq] at h;exact h▸hx,fun h=>⟨s,h,by simp⟩⟩
theorem KS {a b:List Nm}:Yu a b=true↔∀x∈a,x∈b:=by
 unfold Yu;rw[List.all_eq_true]
 exact⟨fun h x hx=>Y2.1 (h x hx),fun h x hx=>Y2.2 (h x hx)⟩
theorem Quo {a b:Nm}(h:Op.bytesLess a b=true)(k:Op.bytesLess b a=true):False:=by
 have:=QbE h k;rw[Qdd] at this;cases this
theorem Qwj:∀ {a b:List Nm},a.Pairwise (fun a b=>Op.bytesLess a b=true)→b.Pairwise (fun a b=>Op.bytesLess a b=true)→(∀x,x∈a↔x∈b)→a=b:=fun {a b} ha hb h=>by
 have na:a.Nodup:=ha.imp (fun {x y} h e=>by subst e;rw[Qdd] at h;cases h)
 have nb:b.Nodup:=hb.imp (fun {x y} h e=>by subst e;rw[Qdd] at h;cases h)
 exact((List.perm_ext_iff_of_nodup na nb).2 h).eq_of_pairwise (fun x y _ _ h1 h2=>absurd h2 fun h2=>Quo h1 h2) ha hb
theorem Qfa {a b:List Nm}(ha:QF a=true)(hb:QF b=true)(h:∀x,x∈a↔x∈b):a=b:=Qwj (Ye ha) (Ye hb) h
theorem Qbq:∀ {l:List Nm},l.Pairwise (fun a b=>Op.bytesLess a b=true)→QF l=true
 |[],_=>rfl
 |[_],_=>rfl
 |a::b::l,h=>by
  show(Op.bytesLess a b&&QF (b::l))=true
  rw[List.pairwise_cons] at h
  rw[h.1 b (by simp),Qbq h.2];rfl
theorem Qef {l:List Nm}(h:QF l=true):l.Nodup:=(Ye h).imp (fun {x y} h e=>by subst e;rw[Qdd] at h;cases h)
theorem QjS {s:Nm}:∀(l:List Nm) (i k:Nat),l.Nodup→l[k]?=some s→XN s l i=((i+k:Nat):Int)
 |[],_,_,_,h=>by simp at h
 |x::l,i,0,_,h=>by
  simp at h;subst h
  unfold XN;simp
 |x::l,i,k+1,hn,h=>by
  rw[List.nodup_cons] at hn
  have h:l[k]?=some s:=by simpa using h
  have hne:(s==x)=false:=by
   rw[beq_eq_false_iff_ne]
   intro e;subst e
   exact hn.1 (List.mem_of_getElem? h)
  unfold XN
  rw[hne]
  simp only[Bool.false_eq_true,if_false]
  rw[QjS l (i+1) k hn.2 h]
  congr 1;omega
theorem Qgi {v:Qz}{s:Nm}{k:Nat}(hs:QF v.nm=true)(h:v.nm[k]?=some s):YB v s=v.ps[k]?:=by
 unfold YB
 rw[QjS v.nm 0 k (Qef hs) h,if_neg (by omega)]
 simp
theorem Qg4 {s:Nm}:∀(l:List Nm) (i:Nat),s∉l→XN s l i = -1
 |[],_,_=>rfl
 |x::l,i,h=>by
  simp only[List.mem_cons,not_or] at h
  unfold XN
  rw[show(s==x)=false from beq_eq_false_iff_ne.2 h.1]
  simp only[Bool.false_eq_true,if_false]
  exact Qg4 l (i+1) h.2
theorem Qgc {v:Qz}{s:Nm}(h:s∉v.nm):YB v s=none:=by
 unfold YB;rw[Qg4 _ _ h];rfl
theorem QfN {l:Qv}(h:Yv l):l.k=1∨l.k=2∨l.k=3∨l.k=4∨l.k=5∨l.k=6∨l.k=7∨l.k=8∨l.k=9∨l.k=10:=by
 have h:=h.shape
 unfold XB at h
 by_cases hk:Y6 l.k=true
 ·simp[Y6,Jg,Jm] at hk;omega
 rw[if_neg hk] at h;cases h
theorem Qz.ext_ {v w:Qz}(h1:v.N=w.N)(h2:v.nm=w.nm)(h3:v.ps=w.ps)(h4:v.es=w.es):v=w:=by
 rw[←v.eta,←w.eta,h1,h2,h3,h4]
theorem J3 {v:Qz}{n li pa en:Bool}:Xf v n li pa en=true↔(n=true∨v.N=0)∧(li=true∨v.nm=[])∧(pa=true∨v.ps=[])∧(en=true∨v.es=[]):=by
 unfold Xf
 simp[and_assoc]
section
variable {l:Qv}{v:Qz}
theorem Qtr (h:QA v l=true)(hk:l.k=1∨l.k=2∨l.k=3):v.nm=[]∧v.ps=[]∧v.es=[]:=by
 rw[Qx] at h
 rcases hk with hk|hk|hk<;>rw[hk] at h<;>simp[J3] at h<;>simp[h]
theorem Ws (h:QA v l=true)(hk:l.k=4∨l.k=10):v.N=0∧v.ps=[]∧v.es=[]∧QF v.nm=true∧(∀s∈v.nm,YR l.nm s=true)∧(l.k=10→Qai l.rs v.nm=true):=by
 rw[Qx] at h
 rcases hk with hk|hk
 ·rw[hk] at h;simp[J3,Ji] at h
  exact⟨h.1.1,h.1.2.1,h.1.2.2,h.2.1,h.2.2,fun e=>by omega⟩
 rw[hk] at h;simp[J3,Ji] at h
 exact⟨h.1.1.1,h.1.1.2.1,h.1.1.2.2,h.1.2.1,h.1.2.2,fun _=>h.2⟩
theorem WR (h:QA v l=true)(hk:l.k=5){q:Qv}{r:List Qv}(hp:l.ps=q::r):v.N=0∧v.es=[]∧v.nm.length=v.ps.length∧QF v.nm=true∧(∀s∈v.nm,YR l.nm s=true)∧∀p∈v.ps,QA p q=true∧p≠Qy q:=by
 rw[Qx,hk,hp] at h
 simp only[show((5:Int)==1)=false from rfl,show((5:Int)==2)=false from rfl,show((5:Int)==3)=false from rfl,show((5:Int)==4)=false from rfl,show((5:Int)==10)=false from rfl,show((5:Int)==8)=false from rfl,show((5:Int)==9)=false from rfl,show((5:Int)==5)=true from rfl,Bool.or_self,Bool.false_eq_true,if_false,if_true,Bool.and_eq_true,J3,Ji,Qbw,List.all_eq_true,beq_iff_eq,Qbg,false_or,true_or,true_and,Bool.not_eq_true'] at h
 obtain⟨⟨⟨⟨h1,h2⟩,h3⟩,h4,h5⟩,h6⟩:=h;refine⟨h1,h2,by omega,h4,h5,fun p hp=>⟨(h6 p hp).1,fun e=>?_⟩⟩
 have:=(h6 p hp).2
 rw[(KJ _ _).2 e] at this
 cases this
theorem YN (h:QA v l=true)(hk:l.k=6∨l.k=7):v.N=0∧v.nm=[]∧v.es=[]∧v.ps.length=l.ps.length∧Ku v.ps l.ps=true:=by
 obtain⟨h1,h2⟩:=Qqi h hk;rw[Qx] at h
 rcases hk with hk|hk<;>rw[hk] at h<;>simp[J3] at h<;>exact⟨h.1.1.1,h.1.1.2.1,h.1.1.2.2,h1,h2⟩
theorem Qhc (h:QA v l=true)(hk:l.k=8):(v.N=0∨v.N=2)∧v=.mk v.N [] [] []∨v.N=1∧∃s,v=.mk 1 [s] [] []∧YR l.nm s=true:=by
 rw[Qx,hk] at h
 simp at h
 by_cases h0:v.N=0∨v.N=2
 ·rw[if_pos h0] at h
  simp[J3] at h
  exact .inl ⟨h0,Qz.ext_ rfl h.1 h.2.1 h.2.2⟩
 rw[if_neg h0] at h;obtain⟨h1,h⟩:=h
 simp[J3,Ji] at h
 obtain⟨⟨h2,h3⟩,h4,h5⟩:=h;obtain⟨s,hs⟩:=List.length_eq_one_iff.1 (show v.nm.length=1 by omega);exact .inr ⟨h1,s,Qz.ext_ h1 hs h2.1 h2.2,h5 s (by rw[hs];simp)⟩
theorem WU (h:QA v l=true)(hk:l.k=9):v.N=0∧v.nm=[]∧v.ps=[]∧YJ v.es:=by
 rw[Qx,hk] at h
 simp[J3] at h
 exact⟨h.1.1,h.1.2.1,h.1.2.2,.of h.2⟩
theorem Qa1 (h:Yv l)(hk:l.k=5):∃q,l.ps=[q]:=by
 have h:=h.shape
 unfold XB at h
 rw[if_pos (by rw[hk];decide)] at h
 have hb:Wh l=false:=by
  cases hb:Wh l
  ·rfl
  rw[hb] at h;simp[Yi] at h
 have h2:l.ps.length=1:=by
  simp only[Wh,Yb,hk] at hb
  simp at hb
  omega
 obtain⟨q,hq⟩:=List.length_eq_one_iff.1 h2;exact⟨q,hq⟩
end
section
variable {l:Qv}{a b:Qz}
theorem YC (hk:l.k=1∨l.k=2):QE l a b=true↔a.N≤b.N:=by
 rw[X1];rcases hk with hk|hk<;>simp[hk]
theorem QbB (hk:l.k=3):QE l a b=true↔b.N≤a.N:=by
 rw[X1];simp[hk]
theorem Kr (hk:l.k=4∨l.k=10):QE l a b=true↔∀x∈a.nm,x∈b.nm:=by
 rw[X1,←KS];rcases hk with hk|hk<;>simp[hk]
theorem Qbd (hk:l.k=5){q:Qv}{r:List Qv}(hp:l.ps=q::r)(_:a.nm.length=a.ps.length)(_:b.nm.length=b.ps.length)(hs:QF b.nm=true):
  QE l a b=true↔∀(i:Nat) (s:Nm) (p:Qz),a.nm[i]?=some s→a.ps[i]?=some p→∃(j:Nat) (y:Qz),b.nm[j]?=some s∧b.ps[j]?=some y∧QE q p y=true:=by
 rw[X1,hk,hp]
 simp only[show((5:Int)==1)=false from rfl,show((5:Int)==2)=false from rfl,show((5:Int)==3)=false from rfl,show((5:Int)==4)=false from rfl,show((5:Int)==10)=false from rfl,show((5:Int)==5)=true from rfl,Bool.or_self,Bool.false_eq_true,if_false,if_true,Qie,List.all_eq_true]
 constructor
 ·intro h i s p hs' hp'
  have h1:=h (s,p) (List.mem_of_getElem? (Qbz hs' hp'))
  unfold Qe1 at h1
  by_cases hm:s∈b.nm
  ·obtain⟨j,hj⟩:=List.mem_iff_getElem?.1 hm
   simp only[Qgi hs hj] at h1
   cases hy:b.ps[j]? with
   |none=>rw[hy] at h1;cases h1
   |some y=>rw[hy] at h1;exact⟨j,y,hj,hy,h1⟩
  simp only[Qgc hm] at h1;cases h1
 rintro h ⟨s,p⟩ hm;obtain⟨i,hi⟩:=List.mem_iff_getElem?.1 hm;rw[List.getElem?_zip_eq_some] at hi;obtain⟨j,y,hj,hy,hle⟩:=h i s p hi.1 hi.2
 unfold Qe1
 simp only[Qgi hs hj,hy]
 exact hle
theorem K0:∀ {ls:List Qv} {xs ys:List Qz},xs.length=ls.length→ys.length=ls.length →
  (Qdj ls xs ys=true↔∀(k:Nat) (q:Qv) (x y:Qz),ls[k]?=some q→xs[k]?=some x→ys[k]?=some y→QE q x y=true)
 |[],[],[],_,_=>by simp[Qdj]
 |q::r,x::a,y::b,h1,h2=>by
  rw[Qdj,Bool.and_eq_true,K0 (by simpa using h1) (by simpa using h2)]
  constructor
  ·rintro⟨h3,h4⟩ k q' x' y' e1 e2 e3
   cases k with
   |zero=>simp at e1 e2 e3;subst e1 e2 e3;exact h3
   |succ k=>exact h4 k q' x' y' (by simpa using e1) (by simpa using e2) (by simpa using e3)
  intro h;exact⟨h 0 q x y rfl rfl rfl,fun k q' x' y' e1 e2 e3=>h (k+1) q' x' y' (by simpa using e1) (by simpa using e2) (by simpa using e3)⟩
 |[],_::_,_,h,_=>by simp at h
 |[],[],_::_,_,h=>by simp at h
 |_::_,[],_,h,_=>by simp at h
 |_::_,_::_,[],_,h=>by simp at h
theorem WG (hk:l.k=6):QE l a b=Qdj l.ps a.ps b.ps:=by
 rw[X1];simp[hk]
theorem We (hk:l.k=7){p q:Qv}(hp:l.ps=[p,q]){x1 x2 y1 y2:Qz}(ha:a.ps=[x1,x2])(hb:b.ps=[y1,y2]):QE l a b=true↔(x1=y1∧QE q x2 y2=true)∨(x1≠y1∧QE p x1 y1=true):=by
 rw[X1,hk,hp,ha,hb]
 simp only[show((7:Int)==1)=false from rfl,show((7:Int)==2)=false from rfl,show((7:Int)==3)=false from rfl,show((7:Int)==4)=false from rfl,show((7:Int)==10)=false from rfl,show((7:Int)==5)=false from rfl,show((7:Int)==6)=false from rfl,show((7:Int)==7)=true from rfl,Bool.or_self,Bool.false_eq_true,if_false,if_true,Qrk]
 by_cases e:x1=y1
 ·rw[if_pos ((KJ _ _).2 e)];simp[e]
 rw[if_neg (fun h=>e ((KJ _ _).1 h))];simp[e]
theorem Wm (hk:l.k=8):QE l a b=true↔a.N=0∨b.N=2∨a=b:=by
 rw[X1,hk]
 simp[KJ,or_assoc]
theorem Qbb (hk:l.k=9)(ha:YJ a.es)(hb:YJ b.es):QE l a b=true↔∀x∈a.es,∃y∈b.es,leE x y:=by
 rw[←QnV ha.valid hb.valid,X1,hk]
 simp
end
theorem Qtk {x y:En}(h1:leE x y)(h2:leE y x):x=y:=by
 rcases h1 with h1|h1
 ·rcases h2 with h2|h2
  ·exact absurd (QeD h1 h2) (Qiu _)
  exact h2.symm
 exact h1
theorem Qix {l:List Nm}(h:l.Nodup){i j:Nat}{s:Nm}(hi:l[i]?=some s)(hj:l[j]?=some s):i=j:=by
 obtain⟨h1,h2⟩:=List.getElem?_eq_some_iff.1 hi;obtain⟨h3,h4⟩:=List.getElem?_eq_some_iff.1 hj
 rcases Nat.lt_trichotomy i j with e|e|e
 ·exact absurd (h2.trans h4.symm) (List.pairwise_iff_getElem.1 h i j h1 h3 e)
 ·exact e
 ·exact absurd (h4.trans h2.symm) (List.pairwise_iff_getElem.1 h j i h3 h1 e)
theorem Qwh (l:Qv)(hO:Yv l)(ih:∀q∈l.ps,∀x,QA x q=true→QE q x x=true)(a:Qz)(ha:QA a l=true):QE l a a=true:=by
 rcases QfN hO with hk|hk|hk|hk|hk|hk|hk|hk|hk|hk
 ·exact(YC (.inl hk)).2 (Int.le_refl _)
 ·exact(YC (.inr hk)).2 (Int.le_refl _)
 ·exact(QbB hk).2 (Int.le_refl _)
 ·exact(Kr (.inl hk)).2 fun _ h=>h
 ·obtain⟨q,hp⟩:=Qa1 hO hk
  obtain⟨-,-,h3,h4,-,h6⟩:=WR ha hk hp
  exact(Qbd hk hp h3 h3 h4).2 fun i s p hs hpp=>⟨i,p,hs,hpp,ih q (by rw[hp];simp) p (h6 p (List.mem_of_getElem? hpp)).1⟩
 ·obtain⟨-,-,-,h4,h5⟩:=YN ha (.inl hk)
  rw[WG hk,K0 h4 h4];intro k q x y e1 e2 e3
  rw[e2] at e3;cases e3
  exact ih q (List.mem_of_getElem? e1) x (Jo h5 e2 e1)
 ·obtain⟨p,q,hp⟩:=Wz hO.shape hk
  obtain⟨x,y,e,h1,h2⟩:=Kc ha hk hp;exact(We hk hp e e).2 (.inl ⟨rfl,ih q (by rw[hp];simp) y h2⟩)
 ·exact(Wm hk).2 (.inr (.inr rfl))
 ·obtain⟨-,-,-,h⟩:=WU ha hk
  exact(Qbb hk h h).2 fun x hx=>⟨x,hx,Qfv x⟩
 exact(Kr (.inr hk)).2 fun _ h=>h
theorem Xo (l:Qv)(hO:Yv l)(a:Qz)(ha:QA a l=true):QE l a a=true:=Qwh l hO (fun q hq x hx=>Xo q (hO.part q hq) x hx) a ha
termination_by l
decreasing_by exact Qv.sizeOf_ps ‹_›
theorem Qwd (l:Qv)(hO:Yv l)(ih:∀q∈l.ps,∀x y,QA x q=true→QA y q=true→QE q x y=true→QE q y x=true→x=y)(a b:Qz)(ha:QA a l=true)(hb:QA b l=true)(h1:QE l a b=true)(h2:QE l b a=true):a=b:=by
 have num:l.k=1∨l.k=2∨l.k=3→a.N=b.N→a=b:=fun hk e=>by
  obtain⟨p1,p2,p3⟩:=Qtr ha hk;obtain⟨q1,q2,q3⟩:=Qtr hb hk;exact Qz.ext_ e (by rw[p1,q1]) (by rw[p2,q2]) (by rw[p3,q3])
 have set:l.k=4∨l.k=10→a=b:=fun hk=>by
  obtain⟨p1,p2,p3,p4,-⟩:=Ws ha hk;obtain⟨q1,q2,q3,q4,-⟩:=Ws hb hk;exact Qz.ext_ (by rw[p1,q1]) (Qfa p4 q4 fun x=>⟨(Kr hk).1 h1 x,(Kr hk).1 h2 x⟩) (by rw[p2,q2]) (by rw[p3,q3])
 rcases QfN hO with hk|hk|hk|hk|hk|hk|hk|hk|hk|hk
 ·exact num (.inl hk) (Int.le_antisymm ((YC (.inl hk)).1 h1) ((YC (.inl hk)).1 h2))
 ·exact num (.inr (.inl hk)) (Int.le_antisymm ((YC (.inr hk)).1 h1) ((YC (.inr hk)).1 h2))
 ·exact num (.inr (.inr hk)) (Int.le_antisymm ((QbB hk).1 h2) ((QbB hk).1 h1))
 ·exact set (.inl hk)
 ·obtain⟨q,hp⟩:=Qa1 hO hk
  obtain⟨p1,p2,p3,p4,-,p6⟩:=WR ha hk hp;obtain⟨q1,q2,q3,q4,-,q6⟩:=WR hb hk hp
  have l1:=(Qbd hk hp p3 q3 q4).1 h1
  have l2:=(Qbd hk hp q3 p3 p4).1 h2
  have sub:∀ {u v:Qz},u.nm.length=u.ps.length→(∀(i:Nat) (s:Nm) (p:Qz),u.nm[i]?=some s→u.ps[i]?=some p→∃(j:Nat) (y:Qz),v.nm[j]?=some s∧v.ps[j]?=some y∧QE q p y=true)→∀x∈u.nm,x∈v.nm:=fun {u v} hl h x hx=>by
   obtain⟨i,hi⟩:=List.mem_iff_getElem?.1 hx
   have hlt:=(List.getElem?_eq_some_iff.1 hi).1
   obtain⟨j,y,hj,-,-⟩:=h i x _ hi (List.getElem?_eq_getElem (by omega));exact List.mem_of_getElem? hj
  have en:a.nm=b.nm:=Qfa p4 q4 fun x=>⟨sub p3 l1 x,sub q3 l2 x⟩
  refine Qz.ext_ (by rw[p1,q1]) en (List.ext_getElem (by rw[←p3,←q3,en]) fun i g1 g2=>?_) (by rw[p2,q2])
  have e1:a.ps[i]?=some a.ps[i]:=List.getElem?_eq_getElem g1
  have e2:b.ps[i]?=some b.ps[i]:=List.getElem?_eq_getElem g2
  have hs:a.nm[i]?=some (a.nm[i]'(by omega)):=List.getElem?_eq_getElem (by omega)
  have hs2:b.nm[i]?=some (a.nm[i]'(by omega)):=by rw[←en];exact hs
  obtain⟨j,y,hj,hy,hle⟩:=l1 i _ _ hs e1;obtain⟨j',y',hj',hy',hle'⟩:=l2 i _ _ hs2 e2
  have:=Qix (Qef q4) hj hs2
  subst this
  have:=Qix (Qef p4) hj' hs
  subst this
  rw[e2] at hy;cases hy
  rw[e1] at hy';cases hy'
  exact ih q (by rw[hp];simp) _ _ (p6 _ (List.getElem_mem g1)).1 (q6 _ (List.getElem_mem g2)).1 hle hle'
 ·obtain⟨p1,p2,p3,p4,p5⟩:=YN ha (.inl hk)
  obtain⟨q1,q2,q3,q4,q5⟩:=YN hb (.inl hk);rw[WG hk,K0 p4 q4] at h1;rw[WG hk,K0 q4 p4] at h2;refine Qz.ext_ (by rw[p1,q1]) (by rw[p2,q2]) (List.ext_getElem (by rw[p4,q4]) fun i g1 g2=>?_) (by rw[p3,q3])
  have e1:a.ps[i]?=some a.ps[i]:=List.getElem?_eq_getElem g1
  have e2:b.ps[i]?=some b.ps[i]:=List.getElem?_eq_getElem g2
  have e3:l.ps[i]?=some (l.ps[i]'(by omega)):=List.getElem?_eq_getElem (by omega)
  exact ih _ (List.mem_of_getElem? e3) _ _ (Jo p5 e1 e3) (Jo q5 e2 e3) (h1 i _ _ _ e3 e1 e2) (h2 i _ _ _ e3 e2 e1)
 ·obtain⟨p,q,hp⟩:=Wz hO.shape hk
  obtain⟨p1,p2,p3,-,-⟩:=YN ha (.inr hk);obtain⟨q1,q2,q3,-,-⟩:=YN hb (.inr hk);obtain⟨x1,x2,ea,u1,u2⟩:=Kc ha hk hp;obtain⟨y1,y2,eb,v1,v2⟩:=Kc hb hk hp
  have ep:x1=y1∧x2=y2:=by
   rcases(We hk hp ea eb).1 h1 with ⟨e,g1⟩|⟨e,g1⟩
   ·rcases(We hk hp eb ea).1 h2 with ⟨e',g2⟩|⟨e',g2⟩
    ·exact⟨e,ih q (by rw[hp];simp) _ _ u2 v2 g1 g2⟩
    exact absurd e.symm e'
   rcases(We hk hp eb ea).1 h2 with ⟨e',g2⟩|⟨e',g2⟩
   ·exact absurd e'.symm e
   exact absurd (ih p (by rw[hp];simp) _ _ u1 v1 g1 g2) e
  refine Qz.ext_ (by rw[p1,q1]) (by rw[p2,q2]) (by rw[ea,eb,ep.1,ep.2]) (by rw[p3,q3])
 ·have h1:=(Wm hk).1 h1
  have h2:=(Wm hk).1 h2
  rcases h1 with h1|h1|h1
  ·rcases h2 with h2|h2|h2
   ·rcases Qhc ha hk with ⟨-,e⟩|⟨e,-⟩
    ·rcases Qhc hb hk with ⟨-,e'⟩|⟨e',-⟩
     ·rw[e,e',h1,h2]
     omega
    omega
   ·omega
   exact h2.symm
  ·rcases h2 with h2|h2|h2
   ·omega
   ·rcases Qhc ha hk with ⟨-,e⟩|⟨e,-⟩
    ·rcases Qhc hb hk with ⟨-,e'⟩|⟨e',-⟩
     ·rw[e,e',h1,h2]
     omega
    omega
   exact h2.symm
  exact h1
 ·obtain⟨p1,p2,p3,ra⟩:=WU ha hk
  obtain⟨q1,q2,q3,rb⟩:=WU hb hk
  have h1:=(Qbb hk ra rb).1 h1
  have h2:=(Qbb hk rb ra).1 h2
  have one:∀ {u v:List En},YJ u→(∀x∈u,∃y∈v,leE x y)→(∀x∈v,∃y∈u,leE x y)→∀x∈u,x∈v:=fun {u v} ru k1 k2 x hx=>by
   obtain⟨y,hy,g1⟩:=k1 x hx;obtain⟨z,hz,g2⟩:=k2 y hy
   have:=ru.le_eq hx hz (QjZ g1 g2)
   subst this
   rw[Qtk g1 g2];exact hy
  exact Qz.ext_ (by rw[p1,q1]) (by rw[p2,q2]) (by rw[p3,q3]) (ra.ext_ rb fun x=>⟨one ra h1 h2 x,one rb h2 h1 x⟩)
 exact set (.inr hk)
theorem QbG (l:Qv)(hO:Yv l)(a b:Qz)(ha:QA a l=true)(hb:QA b l=true)(h1:QE l a b=true)(h2:QE l b a=true):a=b:=Qwd l hO (fun q hq x y hx hy=>QbG q (hO.part q hq) x y hx hy) a b ha hb h1 h2
termination_by l
decreasing_by exact Qv.sizeOf_ps ‹_›
theorem Qvi (l:Qv)(hO:Yv l)(ih:∀q∈l.ps,∀x y z,QA x q=true→QA y q=true→QA z q=true→QE q x y=true→QE q y z=true→QE q x z=true)(a b c:Qz)(ha:QA a l=true)(hb:QA b l=true)(hc:QA c l=true)(h1:QE l a b=true)(h2:QE l b c=true):QE l a c=true:=by
 have set:l.k=4∨l.k=10→QE l a c=true:=fun hk=>(Kr hk).2 fun x hx=>(Kr hk).1 h2 x ((Kr hk).1 h1 x hx)
 rcases QfN hO with hk|hk|hk|hk|hk|hk|hk|hk|hk|hk
 ·exact(YC (.inl hk)).2 (Int.le_trans ((YC (.inl hk)).1 h1) ((YC (.inl hk)).1 h2))
 ·exact(YC (.inr hk)).2 (Int.le_trans ((YC (.inr hk)).1 h1) ((YC (.inr hk)).1 h2))
 ·exact(QbB hk).2 (Int.le_trans ((QbB hk).1 h2) ((QbB hk).1 h1))
 ·exact set (.inl hk)
 ·obtain⟨q,hp⟩:=Qa1 hO hk
  obtain⟨-,-,p3,p4,-,p6⟩:=WR ha hk hp;obtain⟨-,-,q3,q4,-,q6⟩:=WR hb hk hp;obtain⟨-,-,r3,r4,-,r6⟩:=WR hc hk hp
  have l1:=(Qbd hk hp p3 q3 q4).1 h1
  have l2:=(Qbd hk hp q3 r3 r4).1 h2
  refine(Qbd hk hp p3 r3 r4).2 fun i s p hs hpp=>?_
  obtain⟨j,y,hj,hy,g1⟩:=l1 i s p hs hpp;obtain⟨k,z,hk',hz,g2⟩:=l2 j s y hj hy;exact⟨k,z,hk',hz,ih q (by rw[hp];simp) p y z (p6 p (List.mem_of_getElem? hpp)).1 (q6 y (List.mem_of_getElem? hy)).1 (r6 z (List.mem_of_getElem? hz)).1 g1 g2⟩
 ·obtain⟨-,-,-,p4,p5⟩:=YN ha (.inl hk)
  obtain⟨-,-,-,q4,q5⟩:=YN hb (.inl hk);obtain⟨-,-,-,r4,r5⟩:=YN hc (.inl hk);rw[WG hk,K0 p4 q4] at h1;rw[WG hk,K0 q4 r4] at h2;rw[WG hk,K0 p4 r4];intro k q x z e1 e2 e3
  have hlt:=(List.getElem?_eq_some_iff.1 e1).1
  have ey:b.ps[k]?=some (b.ps[k]'(by omega)):=List.getElem?_eq_getElem (by omega)
  exact ih q (List.mem_of_getElem? e1) x _ z (Jo p5 e2 e1) (Jo q5 ey e1) (Jo r5 e3 e1) (h1 k q x _ e1 e2 ey) (h2 k q _ z e1 ey e3)
 ·obtain⟨p,q,hp⟩:=Wz hO.shape hk
  obtain⟨x1,x2,ea,u1,u2⟩:=Kc ha hk hp;obtain⟨y1,y2,eb,v1,v2⟩:=Kc hb hk hp;obtain⟨z1,z2,ec,w1,w2⟩:=Kc hc hk hp
  have mp:p∈l.ps:=by rw[hp];simp
  have mq:q∈l.ps:=by rw[hp];simp
  refine(We hk hp ea ec).2 ?_
  rcases(We hk hp ea eb).1 h1 with ⟨e,g1⟩|⟨e,g1⟩<;>rcases(We hk hp eb ec).1 h2 with ⟨e',g2⟩|⟨e',g2⟩
  ·exact .inl ⟨e.trans e',ih q mq _ _ _ u2 v2 w2 g1 g2⟩
  ·subst e;exact .inr ⟨e',g2⟩
  ·subst e';exact .inr ⟨e,g1⟩
  refine .inr ⟨fun e2=>?_,ih p mp _ _ _ u1 v1 w1 g1 g2⟩
  subst e2
  exact e (QbG p (hO.part p mp) _ _ u1 v1 g1 g2)
 ·have h1:=(Wm hk).1 h1
  have h2:=(Wm hk).1 h2
  refine(Wm hk).2 ?_
  rcases h1 with h1|h1|h1
  ·exact .inl h1
  ·rcases h2 with h2|h2|h2
   ·omega
   ·exact .inr (.inl h2)
   subst h2;exact .inr (.inl h1)
  subst h1;exact h2
 ·obtain⟨-,-,-,ra⟩:=WU ha hk
  obtain⟨-,-,-,rb⟩:=WU hb hk;obtain⟨-,-,-,rc⟩:=WU hc hk
  have h1:=(Qbb hk ra rb).1 h1
  have h2:=(Qbb hk rb rc).1 h2
  refine(Qbb hk ra rc).2 fun x hx=>?_
  obtain⟨y,hy,g1⟩:=h1 x hx;obtain⟨z,hz,g2⟩:=h2 y hy;exact⟨z,hz,QjZ g1 g2⟩
 exact set (.inr hk)
theorem Xu (l:Qv)(hO:Yv l)(a b c:Qz)(ha:QA a l=true)(hb:QA b l=true)(hc:QA c l=true)(h1:QE l a b=true)(h2:QE l b c=true):QE l a c=true:=Qvi l hO (fun q hq x y z hx hy hz=>Xu q (hO.part q hq) x y z hx hy hz) a b c ha hb hc h1 h2
termination_by l
decreasing_by exact Qv.sizeOf_ps ‹_›
theorem Qc6 {l:Qv}{a b:Qz}(hc:QJ l=0)(ha:QA a l=true)(hb:QA b l=true):QeI l a b=QE l a b:=by
 unfold QeI JP QaC
 simp[hc,Xr,ha,hb]
theorem QvV {x y:Nm}(h:Op.bytesLess x y=false)(k:Op.bytesLess y x=false):x=y:=by
 have h1:=YV x y
 have h2:=YV y x
 rw[h] at h1;rw[k] at h2
 have h3:=Yg.anti x y
 have h4:=Yg.anti y x
 refine Yg.eq x y ?_
 simp only[Bool.false_eq_true,if_false] at h1 h2
 split at h1<;>split at h2<;>omega
abbrev pw (l:List Nm):Prop:=l.Pairwise (fun a b=>Op.bytesLess a b=true)
theorem Qir {b:Bool}{x z:Nm}{l:List Nm}:z∈QbC b x l↔(b=true∧z=x)∨z∈l:=by
 unfold QbC;cases b<;>simp
theorem Ql0 {b:Bool}{x:Nm}{l:List Nm}(h:pw l)(hx:∀z∈l,Op.bytesLess x z=true):pw (QbC b x l):=by
 unfold QbC;cases b
 ·exact h
 exact List.Pairwise.cons hx h
theorem Qek {a b:Nm}(h:Op.bytesLess a b=true):a≠b:=fun e=>by subst e;rw[Qdd] at h;cases h
theorem QaV (lf bo ri:Bool):∀(n:Nat) (a b:List Nm),a.length+b.length≤n→pw a→pw b →
  pw (Qaq lf bo ri a b)∧(∀z,z∈Qaq lf bo ri a b↔(z∈a∧z∉b∧lf=true)∨(z∈a∧z∈b∧bo=true)∨(z∉a∧z∈b∧ri=true))∧(Qaq lf bo ri a b).length≤a.length+b.length
 |_,[],[],_,_,_=>⟨List.Pairwise.nil,fun z=>by simp[Qaq,QdG],by simp[Qaq,QdG]⟩
 |0,_::_,_,h,_,_=>by simp at h
 |0,[],_::_,h,_,_=>by simp at h
 |n+1,x::r,[],hl,ha,hb=>by
  rw[Qwv]
  have ha':=List.pairwise_cons.1 ha
  obtain⟨i1,i2,i3⟩:=QaV lf bo ri n r [] (by simp at hl ⊢;omega) ha'.2 hb
  have sub:∀z∈Qaq lf bo ri r [],z∈r:=fun z hz=>by
   rcases(i2 z).1 hz with h|h|h
   ·exact h.1
   ·exact h.1
   simp at h
  refine⟨Ql0 i1 fun z hz=>ha'.1 z (sub z hz),fun z=>?_,?_⟩
  ·rw[Qir,i2]
   simp only[List.mem_cons,List.not_mem_nil,not_false_eq_true,true_and,false_and,and_false,or_false]
   constructor
   ·rintro(⟨h1,h2⟩|⟨h1,h2⟩)
    ·exact⟨.inl h2,h1⟩
    exact⟨.inr h1,h2⟩
   rintro⟨h1|h1,h2⟩
   ·exact .inl ⟨h2,h1⟩
   exact .inr ⟨h1,h2⟩
  unfold QbC;split<;>simp at i3 ⊢ <;> omega
 |n+1,[],y::s,hl,ha,hb=>by
  rw[Qwk]
  have hb':=List.pairwise_cons.1 hb
  obtain⟨i1,i2,i3⟩:=QaV lf bo ri n [] s (by simp at hl ⊢;omega) ha hb'.2
  have sub:∀z∈Qaq lf bo ri [] s,z∈s:=fun z hz=>by
   rcases(i2 z).1 hz with h|h|h
   ·simp at h
   ·simp at h
   exact h.2.1
  refine⟨Ql0 i1 fun z hz=>hb'.1 z (sub z hz),fun z=>?_,?_⟩
  ·rw[Qir,i2]
   simp only[List.mem_cons,List.not_mem_nil,not_false_eq_true,true_and,false_and,false_or]
   constructor
   ·rintro(⟨h1,h2⟩|⟨h1,h2⟩)
    ·exact⟨.inl h2,h1⟩
    exact⟨.inr h1,h2⟩
   rintro⟨h1|h1,h2⟩
   ·exact .inl ⟨h2,h1⟩
   exact .inr ⟨h1,h2⟩
  unfold QbC;split<;>simp at i3 ⊢ <;> omega
 |n+1,x::r,y::s,hl,ha,hb=>by
  have ha':=List.pairwise_cons.1 ha
  have hb':=List.pairwise_cons.1 hb
  simp only[List.length_cons] at hl
  by_cases c1:Op.bytesLess x y=true
  ·rw[Qs0 c1]
   obtain⟨i1,i2,i3⟩:=QaV lf bo ri n r (y::s) (by simp;omega) ha'.2 hb
   have xs:∀z∈y::s,Op.bytesLess x z=true:=fun z hz=>by
    rcases List.mem_cons.1 hz with rfl|hz
    ·exact c1
    exact QbE c1 (hb'.1 z hz)
   refine⟨Ql0 i1 fun z hz=>?_,fun z=>?_,?_⟩
   ·rcases(i2 z).1 hz with h|h|h
    ·exact ha'.1 z h.1
    ·exact ha'.1 z h.1
    exact xs z h.2.1
   ·rw[Qir,i2]
    by_cases e:z=x
    ·subst e
     have n1:z∉r:=fun h=>Qek (ha'.1 z h) rfl
     have n2:z∉y::s:=fun h=>Qek (xs z h) rfl
     simp[n1]
     simp only[List.mem_cons,not_or] at n2
     simp[n2]
    simp[e]
   unfold QbC;split<;>simp at i3 ⊢ <;> omega
  rw[Bool.not_eq_true] at c1
  by_cases c2:Op.bytesLess y x=true
  ·rw[Qtc c1 c2]
   obtain⟨i1,i2,i3⟩:=QaV lf bo ri n (x::r) s (by simp;omega) ha hb'.2
   have ys:∀z∈x::r,Op.bytesLess y z=true:=fun z hz=>by
    rcases List.mem_cons.1 hz with rfl|hz
    ·exact c2
    exact QbE c2 (ha'.1 z hz)
   refine⟨Ql0 i1 fun z hz=>?_,fun z=>?_,?_⟩
   ·rcases(i2 z).1 hz with h|h|h
    ·exact ys z h.1
    ·exact ys z h.1
    exact hb'.1 z h.2.1
   ·rw[Qir,i2]
    by_cases e:z=y
    ·subst e
     have n1:z∉s:=fun h=>Qek (hb'.1 z h) rfl
     have n2:z∉x::r:=fun h=>Qek (ys z h) rfl
     simp only[List.mem_cons,not_or] at n2
     simp[n1,n2]
    simp[e]
   unfold QbC;split<;>simp at i3 ⊢ <;> omega
  rw[Bool.not_eq_true] at c2
  have e0:=QvV c1 c2
  subst e0
  rw[QtO c1 c2];obtain⟨i1,i2,i3⟩:=QaV lf bo ri n r s (by omega) ha'.2 hb'.2;refine⟨Ql0 i1 fun z hz=>?_,fun z=>?_,?_⟩
  ·rcases(i2 z).1 hz with h|h|h
   ·exact ha'.1 z h.1
   ·exact ha'.1 z h.1
   exact hb'.1 z h.2.1
  ·rw[Qir,i2]
   by_cases e:z=x
   ·subst e
    have n1:z∉r:=fun h=>Qek (ha'.1 z h) rfl
    have n2:z∉s:=fun h=>Qek (hb'.1 z h) rfl
    simp[n1,n2]
   simp[e]
  unfold QbC;split<;>simp at i3 ⊢ <;> omega
abbrev uni (a b:List Nm):List Nm:=Qaq true true true a b
theorem Qdq {a b:List Nm}(ha:QF a=true)(hb:QF b=true){z:Nm}:z∈uni a b↔z∈a∨z∈b:=by
 rw[(QaV true true true _ a b (Nat.le_refl _) (Ye ha) (Ye hb)).2.1 z]
 by_cases h1:z∈a<;>by_cases h2:z∈b<;>simp[h1,h2]
theorem Qdb {a b:List Nm}(ha:QF a=true)(hb:QF b=true):QF (uni a b)=true:=Qbq (QaV true true true _ a b (Nat.le_refl _) (Ye ha) (Ye hb)).1
theorem Qki {a b:List Nm}(ha:QF a=true)(hb:QF b=true):(uni a b).length≤a.length+b.length:=(QaV true true true _ a b (Nat.le_refl _) (Ye ha) (Ye hb)).2.2
inductive SmV (n:Nat):Qz→Prop
 |mk (v:Qz) (h1:v.nm.length≤n) (h2:v.ps.length≤n) (h3:v.es.length≤n) (h4:∀e∈v.es,e.1.length≤64) (h5:∀p∈v.ps,SmV n p):SmV n v
section
variable {n:Nat}{v:Qz}
theorem SmV.nm (h:SmV n v):v.nm.length≤n:=by cases h;assumption
theorem SmV.ps (h:SmV n v):v.ps.length≤n:=by cases h;assumption
theorem SmV.es (h:SmV n v):v.es.length≤n:=by cases h;assumption
theorem SmV.en (h:SmV n v):∀e∈v.es,e.1.length≤64:=by cases h;assumption
theorem SmV.part (h:SmV n v):∀p∈v.ps,SmV n p:=by cases h;assumption
theorem SmV.up {m:Nat}(hm:n≤m)(h:SmV n v):SmV m v:=by
 induction h with
 |mk v h1 h2 h3 h4 _ ih=>exact .mk v (by omega) (by omega) (by omega) h4 ih
end
def Qaf (rs:List Ru)(s:List Nm):List Nm:=match rs.find? (fun r=>Yu r.i s && !JL s r.t) with|some r=>s++[r.t]|none=>s
def YH (rs:List Ru):Nat→List Nm→List Nm
 |0,s=>s
 |n+1,s=>YH rs n (Qaf rs s)
def Qae (u:List Nm)(rs:List Ru)(s:List Nm):List Nm:=u.filter (JL (YH rs rs.length s))
mutual
def Qs:Qv→Qz→Qz→Qz
 | .mk k lo hi nm ps rs,a,b=>
  if k==4 then .mk 0 (uni a.nm b.nm) [] []
  else if k==10 then .mk 0 (Qae nm rs (uni a.nm b.nm)) [] []
  else if k==9 then .mk 0 [] [] (Yc a.es b.es)
  else if k==5 then .mk 0 (uni a.nm b.nm) (Qoq ps (uni a.nm b.nm) a b) []
  else if k==6 then .mk 0 [] (Qa8 ps a.ps b.ps) []
  else match (if k==7 then QbS ps a.ps b.ps else none) with
   |some v=>v
   |none=>if QE (.mk k lo hi nm ps rs) a b then b else if QE (.mk k lo hi nm ps rs) b a then a else .mk 2 [] [] []
def Qoq:List Qv→List Nm→Qz→Qz→List Qz
 |[],_,_,_=>[]
 |q::_,u,a,b=>u.map fun s=>match YB a s,YB b s with
  |none,some y=>y
  |some x,none=>x
  |some x,some y=>Qs q x y
  |none,none=>Qz.zero
def Qa8:List Qv→List Qz→List Qz→List Qz
 |q::r,x::a,y::b=>Qs q x y::Qa8 r a b
 |_,_,_=>[]
def QbS:List Qv→List Qz→List Qz→Option Qz
 |[_,q],[x1,x2],[y1,y2]=>if eqV x1 y1 then some (.mk 0 [] [x1,Qs q x2 y2] []) else none
 |_,_,_=>none
end
def Yx (q:Qv)(a b:Qz)(s:Nm):Qz:=match YB a s,YB b s with
 |none,some y=>y
 |some x,none=>x
 |some x,some y=>Qs q x y
 |none,none=>Qz.zero
theorem QgF (q:Qv)(r:List Qv)(u:List Nm)(a b:Qz):Qoq (q::r) u a b=u.map (Yx q a b):=by rw[Qoq];rfl
theorem JN (l:Qv)(a b:Qz):Qs l a b =
  if l.k==4 then .mk 0 (uni a.nm b.nm) [] []
  else if l.k==10 then .mk 0 (Qae l.nm l.rs (uni a.nm b.nm)) [] []
  else if l.k==9 then .mk 0 [] [] (Yc a.es b.es)
  else if l.k==5 then .mk 0 (uni a.nm b.nm) (Qoq l.ps (uni a.nm b.nm) a b) []
  else if l.k==6 then .mk 0 [] (Qa8 l.ps a.ps b.ps) []
  else match (if l.k==7 then QbS l.ps a.ps b.ps else none) with
   |some v=>v
   |none=>if QE l a b then b else if QE l b a then a else .mk 2 [] [] []:=by
 cases l with
 |mk k lo hi nm ps rs=>rw[Qs];rfl
section
variable {a b:Qz}{q:Qv}{s:Nm}{x y:Qz}
theorem QxF (h1:YB a s=none)(h2:YB b s=some y):Yx q a b s=y:=by unfold Yx;rw[h1,h2]
theorem QxV (h1:YB a s=some x)(h2:YB b s=none):Yx q a b s=x:=by unfold Yx;rw[h1,h2]
theorem Qya (h1:YB a s=some x)(h2:YB b s=some y):Yx q a b s=Qs q x y:=by unfold Yx;rw[h1,h2]
end
theorem Qk6 {u:List Nm}{f:Nm→Qz}{k:Nat}{s:Nm}{y:Qz}(h:u[k]?=some s)(hf:f s=y):(((u.take k).map f).map Ym)++QT 4 1 (QO y)=(((u.take (k+1)).map f).map Ym):=by
 have:QT 4 1 (QO y)=[Ym y]:=by rw[KK];rfl
 rw[this,List.take_add_one,h,←hf];simp
theorem Qj8:∀ {ls:List Qv} {xs ys:List Qz},xs.length=ls.length→ys.length=ls.length→(Qa8 ls xs ys).length=ls.length
 |[],[],[],_,_=>by simp[Qa8]
 |q::r,x::a,y::b,h1,h2=>by rw[Qa8];simp[Qj8 (ls:=r) (by simpa using h1) (by simpa using h2)]
 |[],_::_,_,h,_=>by simp at h
 |[],[],_::_,_,h=>by simp at h
 |_::_,[],_,h,_=>by simp at h
 |_::_,_::_,[],_,h=>by simp at h
theorem QkD:∀ {ls:List Qv} {xs ys:List Qz} {k:Nat} {q:Qv} {x y:Qz},ls[k]?=some q→xs[k]?=some x→ys[k]?=some y→(Qa8 ls xs ys)[k]?=some (Qs q x y)
 |q::r,x::a,y::b,0,q',x',y',h1,h2,h3=>by simp at h1 h2 h3;subst h1 h2 h3;rw[Qa8];rfl
 |q::r,x::a,y::b,k+1,q',x',y',h1,h2,h3=>by rw[Qa8];exact QkD (ls:=r) (by simpa using h1) (by simpa using h2) (by simpa using h3)
 |[],_,_,_,_,_,_,h,_,_=>by simp at h
 |_::_,[],_,_,_,_,_,_,h,_=>by simp at h
 |_::_,_::_,[],_,_,_,_,_,_,h=>by simp at h
theorem QoO {l:List Qz}{k:Nat}{y:Qz}(h:l[k]?=some y):((l.take k).map Ym)++QT 4 1 (QO y)=((l.take (k+1)).map Ym):=by
 have:QT 4 1 (QO y)=[Ym y]:=by rw[KK];rfl
 rw[this,List.take_add_one,h];simp
end Go.Proofs.YtnkkokmmeplbgaaGreat
