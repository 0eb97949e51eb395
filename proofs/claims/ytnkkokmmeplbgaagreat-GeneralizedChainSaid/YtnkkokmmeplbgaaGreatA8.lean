/-
  Methods whose results lie in cells; functions that return th
-/
import Derived.Test.YtnkkokmmeplbgaaGreatA7
import Derived.Test.YtnkkokmmeplbgaaGreatA4
namespace Go.Proofs.YtnkkokmmeplbgaaGreat
open Go.RowKit
def QxM (rs:List RS)(res:AV)(Hout:List (Nat×Qj)):Exit→St→Prop
 | .normal,st | .ret,st=>(resY st rs).bind AV.fzt=some res∧∀o ob,Qb Hout o=some ob→Qb st.H o=some ob∧Qf≤o∧JB 0 ob=true
 |_,_=>False
theorem WP {P:Program}{f:FuncId}{fn:Func}{code:Code}{args:List AV}{res:AV}{Hin Hout:List (Nat×Qj)}(rs:List RS)(hok:RS.okL P rs)(hf:P.funcs[f]?=some fn)(hb:fn.body=some code)(hres:fn.results=(rs.map RS.var).toArray)(N:Nat)(hN:fn.ntmps=N)(hle:args.length≤N)
  (h:∀E:X7,E.N=N→Y1 P E code (QxM rs res Hout) ⟨Qao 0 args,Hin,0⟩):GC P f args Hin res Hout:=by
 intro c0 vs hg hvl hv;refine calls_of_wp hf hb ?_
 let E:X7:=⟨N,c0.w,c0.S,fun b=>c0.w.heap.size≤b∨∃o v,c0.V o=some v∧Xd v=some b,fun _ h=>.inl h,c0.K,hg.big,c0.V⟩
 have hr:Jk E c0 { tmps:=vs.toArray++Array.replicate (fn.ntmps-vs.toArray.size) undef,defers:=[] } ⟨Qao 0 args,Hin,0⟩:={
  defers:=rfl
  size:=by show(vs.toArray++Array.replicate (fn.ntmps-vs.toArray.size) undef).size=N;simp;omega
  tmps:=fun i=>by
   show VR _ ((vs.toArray++Array.replicate (fn.ntmps-vs.toArray.size) undef).getD i undef) ((Qb (Qao 0 args) i).getD .bot)
   rw[Wp]
   simp only[Nat.zero_le,if_true,Nat.sub_zero]
   rcases Nat.lt_or_ge i args.length with hlt|hge
   ·have hlt':i<vs.length:=by omega
    have e:(vs.toArray++Array.replicate (fn.ntmps-vs.toArray.size) undef).getD i undef=vs[i]:=by
     simp[Array.getElem?_append,hlt']
    rw[e,List.getElem?_eq_getElem hlt];exact hv i _ _ (List.getElem?_eq_getElem hlt') (List.getElem?_eq_getElem hlt)
   rw[List.getElem?_eq_none hge];exact .fr _ _ (.bot _)
  live:=fun o ob h=>by
   obtain⟨h1,v,h2,h3⟩:=hg.live o ob h;exact⟨h1,v,h2,h3,fun b hb=>.inr ⟨o,v,h2,hb⟩⟩
  dead:=hg.dead
  apart:=hg.apart
  ids:=fun _ h=>.inr h
  nxB:=Nat.zero_le _
  kbs:=fun _ h=>h
  V0:=fun _ _=>.refl _
  Ssz:=hg.Ssz
  os:=rfl,tape:=rfl,output:=rfl,drawn:=Nat.le_refl _,grown:=Nat.le_refl _
  frame:=fun _ _ _=>rfl
  S0:=fun _ _ h=>⟨h,rfl⟩
  Snew:=fun _ _ h=>.inl h }
 refine wp_mono (h E rfl _ _ hr) ?_;rintro e a' w' ⟨c,st,rfl,hr',hq⟩
 have fin:((resY st rs).bind AV.fzt=some res∧∀o ob,Qb Hout o=some ob→Qb st.H o=some ob∧Qf≤o∧JB 0 ob=true) →
   a'.defers=[]∧∃v,(results fn a'.tmps).run P c.w=.ok v c.w∧∃v' c',Ending.returned v=.returned v'∧c'.w=c.w∧Qxa Hout c0 c'∧FR c'.w c'.S v' res:=by
  rintro⟨hr2,hout⟩
  obtain⟨V',hV'⟩:∃V':Nat→Option Value,V'=fun o=>if (Qb Hout o).isSome then c.V o else none:=⟨_,rfl⟩
  have hVs:∀o v,V' o=some v→c.V o=some v∧(Qb Hout o).isSome=true:=fun o v h=>by
   rw[hV'] at h;dsimp only at h
   split at h
   ·exact⟨h,by assumption⟩
   cases h
  have hK:∀o,c.K o→Qf≤o→c0.K o:=fun o hk ho=>by
   rcases hr'.ids o hk with h1|h1
   ·have:=hr'.nxB;omega
   exact h1
  have hle:c0.le ⟨c.w,c.S,V',c0.K⟩:=⟨fun b off hs=>hr'.S0 b off hs,fun _ h=>h,fun o hk=>by
   refine(hr'.V0 o hk).trans ?_
   show Qa9 (c.V o) (V' o)
   rw[hV'];dsimp only
   split
   ·exact .refl _
   exact .inr (.inl rfl)⟩
  cases hx:resY st rs with
  |none=>rw[hx] at hr2;cases hr2
  |some x=>
  rw[hx] at hr2
  replace hr2:x.fzt=some res:=hr2
  obtain⟨v,g1,g2⟩:=hr'.resY hok hres hx;refine⟨hr'.defers,v,g1,v,⟨c.w,c.S,V',c0.K⟩,rfl,rfl,?_,?_⟩
  ·exact {
    os:=hr'.os,tape:=hr'.tape,output:=hr'.output,drawn:=hr'.drawn,size:=hr'.grown
    frame:=fun b hb hn=>hr'.frame b hb (fun hw=>by
     rcases hw with hw|⟨o,v,h1,h2⟩
     ·have hw:c0.w.heap.size≤b:=hw
      have hb:b<c0.w.heap.size:=hb
      omega
     exact hn o v h1 h2)
    le:=hle
    K:=fun _=>Iff.rfl
    Snew:=fun b off hs=>by
     rcases hr'.Snew b off hs with h1|h1|h1
     ·exact .inl h1
     ·exact .inr (.inr h1)
     exact .inr (.inl h1)
    Ssz:=hr'.Ssz
    live:=fun o ob ho=>by
     obtain⟨h1,h2,h3⟩:=hout o ob ho;obtain⟨hk,v,hv,hor,hwr⟩:=hr'.live o ob h1;refine⟨v,by rw[hV'];simp[ho,hv],?_,fun b hb=>?_⟩
     ·exact OR.okId (c:=c) (c':=⟨c.w,c.S,V',c0.K⟩) rfl rfl (fun o hk ho=>hK o hk (by omega)) (fun o v h=>(hVs o v h).1) hor h3
     rcases hwr b hb with h4|h4
     ·exact .inr h4
     exact .inl h4
    dead:=fun o ho=>by show V' o=none;rw[hV'];simp[ho]
    apart:=fun o o' v v' b h1 h2 h3 h4=>hr'.apart o o' v v' b (hVs o v h1).1 (hVs o' v' h2).1 h3 h4 }
  cases x with
  |tup xs=>
   simp only[AV.fzt] at hr2
   cases hz:fzl xs with
   |none=>rw[hz] at hr2;cases hr2
   |some ys=>rw[hz] at hr2;cases hr2;exact g2.tup_fz hz
  |_=>exact g2.fz hr2
 cases e with
 |normal=>exact fin hq
 |ret=>exact fin hq
 |_=>exact hq.elim
def FN (P:Program)(f:FuncId)(args:List AV)(tt:TypeId)(cs:List AV)(x:AV):Prop:=
 ∀(w:World) (S:Nat→Nat→Prop) (vs:List Value),(∀b o,S b o→b<w.heap.size)→FRs w S vs args →
  Calls P f vs.toArray w fun e w'=>∃b ccs u S',e=.returned (.tuple #[.pointer (some ⟨b,0,none⟩),u])∧Bel w w'∧(∀b o,S b o→S' b o)∧(∀b o,S' b o→S b o∨(w.heap.size≤b∧b<w'.heap.size)) ∧
   w'.heap[b]?=some (.cells ccs tt (0,0))∧ccs.size=cs.length∧w.heap.size≤b∧(∀(i:Nat) (u:Value) (y:AV),ccs[i]?=some u→cs[i]?=some y→FR w' S' u y)∧(∀off,¬S' b off)∧FR w' S' u x
def AV.fzk:AV→Option AV
 | .p v=>some (.p v)
 |x=>x.fz1
def QrM:List AV→Option (List AV)
 |[]=>some []
 |x::xs=>match x.fzk,QrM xs with
  |some y,some ys=>some (y::ys)
  |_,_=>none
theorem VR.fzk {c:Cx}{v:Value}{x y:AV}(hv:VR c v x)(h:x.fzk=some y):FR c.w c.S v y:=by
 cases x with
 |p u=>
  have:=hv.p_inv
  subst this
  cases h;exact .p _
 |_=>exact hv.fz1 h
theorem Qi2:∀ {xs ys:List AV},QrM xs=some ys→ys.length=xs.length∧∀(i:Nat) (x y:AV),xs[i]?=some x→ys[i]?=some y→x.fzk=some y
 |[],ys,h=>by cases h;exact⟨rfl,by simp⟩
 |x::xs,ys,h=>by
  unfold QrM at h
  split at h
  ·rename_i y ys' h1 h2
   cases h
   obtain⟨h3,h4⟩:=Qi2 h2;refine⟨by simp[h3],fun i a b ha hb=>?_⟩
   cases i with
   |zero=>simp at ha hb;subst ha hb;exact h1
   |succ i=>simp at ha hb;exact h4 i a b ha hb
  ·cases h
def retN (r s:Nat)(tt:TypeId)(cs:List AV)(x:AV):Exit→St→Prop
 | .normal,st | .ret,st=>∃q y c0,Qb st.t r=some (.ptr q 0)∧Qb st.H q=some (.var tt c0)∧QrM c0=some cs∧Qb st.t s=some y∧y.fz=some x
 |_,_=>False
section
variable {P:Program}{E:X7}{Q:Exit→St→Prop}{ops:Array Oper}{o:Oper}{rest:List Oper}{t:List (Nat×AV)}{H:List (Nat×Qj)}{nx N d:Nat}{w:Bool}
theorem Qks (hN:E.N=N)(hB:Nat.blt nx Qf=true){f:FuncId}{bs:List AV}{tt:TypeId}{cs:List AV}{x:AV}(hc:FN P f bs tt cs x)[hf:Xl P f]{az:List AV}(ho:WN ⟨t,H,nx⟩ o f az)(hb:fzl az=some bs)
  (hg:Qo ops ⟨t,H,nx⟩ o=some w) (hw:w=true) (hd:o.dst=some d) (hdN:Nat.blt d N=true)
  (h:Q3 P E ops rest Q ⟨(d,.tup [.ptr nx 0,x])::t,(nx,.var tt cs)::H,nx+1⟩):Q3 P E ops (o::rest) Q ⟨t,H,nx⟩:=fun c a hr=>by
 subst hw
 refine wpList_step fun K hK=>?_
 rw[Xx hg hr,if_pos rfl];obtain⟨vs,hrun,hvl,hv⟩:=ho.run (P:=P) hr
 unfold Oper.wp
 rw[hrun,Oper.upon_enter];obtain⟨h3,h4⟩:=QcD hb
 have hfrs:FRs c.w c.S vs bs:=by
  refine⟨by rw[hvl,h3],fun i v y hi hj=>?_⟩
  have hix:i<az.length:=by have:=(List.getElem?_eq_some_iff.1 hj).1;omega
  exact(hv i v _ hi (List.getElem?_eq_getElem hix)).fz (h4 i _ y (List.getElem?_eq_getElem hix) hj)
 refine(hc c.w c.S vs hr.Ssz hfrs).mono ?_;rintro e w' ⟨b,ccs,u,S',rfl,hbel,hS,hS',hheap,hsz,hnew,hx,hno,hu⟩;obtain⟨c',e1,e2,hle,e4,e5,hr'⟩:=hr.newF (Nat.le_of_ble_eq_true hB) hbel (.pointer (some ⟨b,0,none⟩)) (.var tt cs) hS hS' (fun c' e1 e2 hle=>.var b ccs tt cs (by rw[e1];exact hheap) hsz (fun i u x hi hx'=>.fr _ _ (by rw[e1,e2];exact hx i u x hi hx')) (fun off hs=>hno off (by rw[e2] at hs;exact hs))) (fun b' hb'=>by cases hb';exact hnew)
 have hvr:VR c' (.tuple #[.pointer (some ⟨b,0,none⟩),u]) (.tup [.ptr nx 0,x]):=by
  refine .tup [.pointer (some ⟨b,0,none⟩),u] [.ptr nx 0,x] rfl fun i v y hi hj=>?_
  match i with
  |0=>
   simp at hi hj
   subst hi hj
   exact .ptr _ _ _ e4 (fun b' hh=>by rw[show c'.V nx=_ from e5] at hh;cases hh;rfl)
  |1=>
   simp at hi hj
   subst hi hj
   exact .fr _ _ (by rw[e1,e2];exact hu)
  |i+2=>simp at hi
 have hput:=hr'.put (d:=o.dst) (x:=.tup [.ptr nx 0,x]) (v:=.tuple #[.pointer (some ⟨b,0,none⟩),u]) (dlt hN hd hdN) hvr
 subst e1
 refine hK _ _ (h c' _ ?_)
 rw[hd] at hput ⊢
 exact hput
end
theorem QqP {P:Program}{f:FuncId}{fn:Func}{code:Code}{args:List AV}{tt:TypeId}{cs:List AV}{x:AV}(r s:Nat)(hf:P.funcs[f]?=some fn)(hb:fn.body=some code)(hres:fn.results=([r,s].map ResultVar.tmp).toArray)(N:Nat)(hN:fn.ntmps=N)(hle:args.length≤N)
  (h:∀E:X7,E.N=N→Y1 P E code (retN r s tt cs x) ⟨Qao 0 args,[],0⟩):FN P f args tt cs x:=by
 intro w S vs hS hv
 have hvl:vs.length=args.length:=hv.1
 refine calls_of_wp hf hb ?_
 have hr:Jk (X7.at_ N w S) ⟨w,S,fun _=>none,fun _=>False⟩ { tmps:=vs.toArray++Array.replicate (fn.ntmps-vs.toArray.size) undef,defers:=[] } ⟨Qao 0 args,[],0⟩:={
  defers:=rfl
  size:=by show(vs.toArray++Array.replicate (fn.ntmps-vs.toArray.size) undef).size=N;simp;omega
  tmps:=fun i=>by
   show VR _ ((vs.toArray++Array.replicate (fn.ntmps-vs.toArray.size) undef).getD i undef) ((Qb (Qao 0 args) i).getD .bot)
   rw[Wp]
   simp only[Nat.zero_le,if_true,Nat.sub_zero]
   rcases Nat.lt_or_ge i args.length with hlt|hge
   ·have hlt':i<vs.length:=by omega
    have e:(vs.toArray++Array.replicate (fn.ntmps-vs.toArray.size) undef).getD i undef=vs[i]:=by
     simp[Array.getElem?_append,hlt']
    rw[e,List.getElem?_eq_getElem hlt];exact .fr _ _ (hv.2 i _ _ (List.getElem?_eq_getElem hlt') (List.getElem?_eq_getElem hlt))
   rw[List.getElem?_eq_none hge];exact .fr _ _ (.bot _)
  live:=fun o ob h=>by cases h
  dead:=fun _ _=>rfl
  apart:=fun o o' v v' b h=>by cases h
  ids:=fun _ h=>h.elim,nxB:=Nat.zero_le _,kbs:=fun _ h=>h.elim,V0:=fun _ h=>h.elim
  Ssz:=hS
  os:=rfl,tape:=rfl,output:=rfl,drawn:=Nat.le_refl _,grown:=Nat.le_refl _
  frame:=fun _ _ _=>rfl
  S0:=fun _ _ h=>⟨h,rfl⟩
  Snew:=fun _ _ h=>.inl h }
 refine wp_mono (h (X7.at_ N w S) rfl _ _ hr) ?_;rintro e a' w' ⟨c,st,rfl,hr',hq⟩
 have fin:(∃q y c0,Qb st.t r=some (.ptr q 0)∧Qb st.H q=some (.var tt c0)∧QrM c0=some cs∧Qb st.t s=some y∧y.fz=some x) →
   a'.defers=[]∧∃v,(results fn a'.tmps).run P c.w=.ok v c.w∧∃b ccs u S',Ending.returned v=.returned (.tuple #[.pointer (some ⟨b,0,none⟩),u])∧Bel w c.w∧(∀b o,S b o→S' b o)∧(∀b o,S' b o→S b o∨(w.heap.size≤b∧b<c.w.heap.size)) ∧
    c.w.heap[b]?=some (.cells ccs tt (0,0))∧ccs.size=cs.length∧w.heap.size≤b∧(∀(i:Nat) (u:Value) (y:AV),ccs[i]?=some u→cs[i]?=some y→FR c.w S' u y)∧(∀off,¬S' b off)∧FR c.w S' u x:=by
  rintro⟨q,y,c0,h1,h2,h3,h4,h5⟩;obtain⟨h3l,h3z⟩:=Qi2 h3
  have hv:=hr'.tmps r
  rw[show st.get r=.ptr q 0 by simp[St.get,h1]] at hv
  have hu:=hr'.tmps s
  rw[show st.get s=y by simp[St.get,h4]] at hu;obtain⟨hKq,vq,hVq,hor,hwr⟩:=hr'.live q _ h2
  cases hor with
  |var b ccs _ _ hb2 hl hc hSS=>
   have hvq:a'.tmps.getD r undef=.pointer (some ⟨b,0,none⟩):=by
    generalize a'.tmps.getD r undef=v at hv
    cases hv with
    |fr _ _ h=>cases h
    |ptr _ _ _ hK hV=>exact hV b hVq
   refine⟨hr'.defers,_,W9 [r,s] hres a'.tmps c.w,b,ccs,a'.tmps.getD s undef,c.S,by rw[←hvq];rfl,⟨⟨hr'.os,hr'.tape,hr'.output,hr'.grown,fun b hb=>hr'.frame b hb (Nat.not_le.2 hb)⟩,hr'.drawn⟩,fun b o h=>(hr'.S0 b o h).1,fun b o h=>?_,hb2,hl.trans h3l.symm,hwr b rfl,fun i u z hi hz=>?_,hSS,hu.fz h5⟩
   ·rcases hr'.Snew b o h with h6|h6
    ·exact .inl h6
    exact .inr ⟨h6,hr'.Ssz b o h⟩
   have hlt:i<c0.length:=by have:=(List.getElem?_eq_some_iff.1 hz).1;omega
   exact(hc i u _ hi (List.getElem?_eq_getElem hlt)).fzk (h3z i _ z (List.getElem?_eq_getElem hlt) hz)
 cases e with
 |normal=>exact fin hq
 |ret=>exact fin hq
 |_=>exact hq.elim
section
variable {P:Program}{E:X7}{o:Oper}{st:St}
end
section
variable {P:Program}{E:X7}{ops:Array Oper}{md:Region.Mode}
def Qj5 (md:Region.Mode)(ops:Array Oper)(n:Nat):Bool:=(List.range ops.size).all fun t=>decide (t<n)||(List.range n).all fun i=>Region.waitsFor md ops t i
theorem QgI {n:Nat}{listed:Array Bool}(hW:Qj5 md ops n=true){i:Nat}(hi:i<n)(hun:listed.getD i true=false):∀t,n≤t→t∉Region.ready md ops listed:=by
 intro t ht hr;obtain⟨_,ot,hot,hall⟩:=mem_ready.1 hr
 have htlt:=(Array.getElem?_eq_some_iff.1 hot).1
 have h1:=List.all_eq_true.1 hW t (List.mem_range.2 htlt)
 rw[decide_eq_false (by omega),Bool.false_or] at h1
 have h2:=List.all_eq_true.1 h1 i (List.mem_range.2 hi)
 obtain⟨oj,hoj,e,he,hb,hon⟩:=Region.waitsFor_spec h2
 have:oj=ot:=Option.some.inj (hoj.symm.trans hot)
 subst this
 have h3:=hall e he hb
 rw[hon,getD_both hun] at h3
 cases h3
theorem QmN {n i:Nat}{oi:Oper}{x:AV}{L:Array Bool→St→Prop}(hLc:∀listed,Yj (L listed))(hi:ops[i]?=some oi)(hW:Qj5 md ops n=true)(hin:i<n)
  (hdone:∀listed s,L listed s→∀j∈Region.ready md ops listed,n≤j) :
  ∀(f:Nat) (listed:Array Bool) (s:St),HeadInv md ops n listed →
   (∀j oj,ops[j]?=some oj→j≠i→listed.getD j true=false→(∀e∈oj.after,Region.binds md e=true→e.on≠i)→oi.apart ops oj=true) →
   i∈Region.ready md ops listed→YA P E ops oi x s →
   Qko P E md ops n L f (listed.setIfInBounds i true) (s.put oi.dst x)→Qko P E md ops n L (f+1) listed s:=by
 intro f
 have own:∀(K:St→Prop) (s:St),YA P E ops oi x s→K (s.put oi.dst x)→aOp P E ops i K s:=fun K s hy H=>by
  unfold aOp;simp only[hi];exact⟨x,hy,H⟩
 induction f with
 |zero=>
  intro listed s inv _ hr hy H
  have hun:=(mem_ready.1 hr).1
  refine⟨fun h=>(by rw[h] at hr;cases hr),fun j hj=>?_⟩
  have hjn:j<n:=by
   rcases Nat.lt_or_ge j n with h|h
   ·exact h
   exact absurd hj (QgI hW hin hun j h)
  refine⟨hjn,?_⟩
  by_cases hji:j=i
  ·subst hji;exact own _ _ hy H
  have:=hdone _ _ H j (ready_mono hj hji)
  omega
 |succ f ih=>
  intro listed s inv hfree hr hy H
  have hun:=(mem_ready.1 hr).1
  refine⟨fun h=>(by rw[h] at hr;cases hr),fun j hj=>?_⟩
  have hjn:j<n:=by
   rcases Nat.lt_or_ge j n with h|h
   ·exact h
   exact absurd hj (QgI hW hin hun j h)
  refine⟨hjn,?_⟩
  by_cases hji:j=i
  ·subst hji;exact own _ _ hy H
  have h1:=(H.2 j (ready_mono hj hji)).2
  obtain⟨hjun,oj,hoj,hall⟩:=mem_ready.1 hj
  have hnot:∀e∈oj.after,Region.binds md e=true→e.on≠i:=fun e he hb heq=>by
   have h1:=hall e he hb
   rw[heq,getD_both hun] at h1
   cases h1
  have h2:=Qhn hoj (hfree j oj hoj hji hjun hnot) (Qeb hLc f _) hy h1
  have hfree':∀k ok,ops[k]?=some ok→k≠i→(listed.setIfInBounds j true).getD k true=false →
    (∀e∈ok.after,Region.binds md e=true→e.on≠i)→oi.apart ops ok=true:=fun k ok hk hki hun hno=>by
   refine hfree k ok hk hki ?_ hno
   by_cases hjk:j=k
   ·subst hjk;exact hjun
   rw[getD_set_ne true hjk] at hun;exact hun
  refine QfE (fun s' h3=>ih (listed.setIfInBounds j true) s' (inv.set hj hjn) hfree' (ready_mono hr (Ne.symm hji)) h3.1 ?_) h2;rw[Array.setIfInBounds_comm _ _ hji];exact h3.2
def QuO (md:Region.Mode)(ops:Array Oper):Nat→Nat→Array Bool→Bool
 |0,_,_=>true
 |f+1,k,listed=>(Region.ready md ops listed).contains k&&Region.free md ops listed k&&QuO md ops f (k+1) (listed.setIfInBounds k true)
def Qnn:Nat→Nat→Array Bool→Array Bool
 |0,_,a=>a
 |f+1,k,a=>Qnn f (k+1) (a.setIfInBounds k true)
theorem Qji {n:Nat}{K:St→Prop}{FIN:Array Bool}(hK:Yj K)(hW:Qj5 md ops n=true)(hF:∀j∈Region.ready md ops FIN,n≤j):
  ∀(l:List Oper) (k:Nat) (listed:Array Bool) (s:St),(∀j,j<l.length→l[j]?=ops[k+j]?)→k+l.length=n→HeadInv md ops n listed →
  QuO md ops l.length k listed=true→Qnn l.length k listed=FIN→JE P E ops K l s →
  Qko P E md ops n (fun listed' s'=>listed'=FIN∧K s') l.length listed s
 |[],k,listed,s,_,_,_,_,hfin,h=>⟨hfin,h⟩
 |o::l,k,listed,s,hl,hk,inv,hB,hfin,h=>by
  have h0:ops[k]?=some o:=by simpa using (hl 0 (by simp)).symm
  simp only[List.length_cons,QuO,Bool.and_eq_true] at hB
  obtain⟨⟨hr,hf⟩,hB'⟩:=hB
  have hkn:k<n:=by simp only[List.length_cons] at hk;omega
  have hr':k∈Region.ready md ops listed:=by simpa using hr
  obtain⟨x,hy,hK'⟩:=h
  exact QmN (fun _ _ _ e h=>⟨h.1,hK _ _ e h.2⟩) h0 hW hkn (fun listed' a' hL=>by rw[hL.1];exact hF) l.length listed s inv (Region.free_spec h0 hf) hr' hy
   (Qji hK hW hF l (k+1) _ _ (fun j hj=>by have:=hl (j+1) (by simp;omega);simpa [Nat.add_assoc,Nat.add_comm 1 j] using this) (by simp only[List.length_cons] at hk;omega) (inv.set hr' hkn) hB' hfin hK')
def aNw (P:Program)(E:X7)(ops:Array Oper)(i:Nat)(T:St→Prop)(s:St):Prop:=
 ∃o s' x,ops[i]?=some o∧Qo ops s o=some true∧Qi5 E o∧(∀c a,Jk E c a s→∀(K:Act→World→Prop) (Q:Exit→Act→World→Prop),(∀c' v,Jk E c' a s'→VR c' v x→K (a.put o.dst v) c'.w)→o.wp P a c.w K Q)∧T (s'.put o.dst x)
def AN (P:Program)(E:X7)(ops:Array Oper)(md:Region.Mode)(Q:Exit→St→Prop):Nat→Array Bool→St→Prop
 |0,listed,s=>Region.ready md ops listed=[]∧Q .normal s
 |f+1,listed,s=>(Region.ready md ops listed=[]→Q .normal s)∧∀i∈Region.ready md ops listed,aOp P E ops i (AN P E ops md Q f (listed.setIfInBounds i true)) s∨aSt P E ops i (AN P E ops md Q f (listed.setIfInBounds i true)) s∨aNw P E ops i (AN P E ops md Q f (listed.setIfInBounds i true)) s
theorem Qb9 {Q:Exit→St→Prop}:∀(f:Nat) (listed:Array Bool) (c:Cx) (a:Act) (s:St),Jk E c a s→AN P E ops md Q f listed s→wpAny P md ops (QfB E Q) f listed a c.w
 |0,_,c,_,s,hr,h=>⟨h.1,c,s,rfl,hr,h.2⟩
 |f+1,listed,c,a,s,hr,h=>by
  refine⟨fun h0=>⟨c,s,rfl,hr,h.1 h0⟩,fun i hi=>?_⟩
  rcases h.2 i hi with h1|⟨o,s',ho,hw,hd,hrun,hk⟩|⟨o,s',x,ho,hw,hd,hrun,hk⟩
  ·exact KR hr (fun c' a' s' hr' h'=>Qb9 f _ c' a' s' hr' h') h1
  ·unfold wpOp
   simp only[ho]
   rw[Xx hw hr,if_pos rfl];obtain⟨c',hrun',hr'⟩:=hrun c a hr;refine .inl ?_
   unfold Oper.wp
   rw[hrun',Oper.upon_skip,hd];exact Qb9 f _ c' _ s' hr' hk
  unfold wpOp
  simp only[ho]
  rw[Xx hw hr,if_pos rfl];exact .inl (hrun c a hr _ _ fun c' v hr' hv=>Qb9 f _ c' _ _ (hr'.put hd hv) hk)
theorem Qq2 {Q:Exit→St→Prop}{st:St}{id:Nat}{l:List Oper}(n g:Nat)(FIN:Array Bool)(hm:P.follows .mixedOrders=true)(hn:l.toArray.size=n+g)(hW:Qj5 .any l.toArray n=true)(hB:QuO .any l.toArray n 0 (Array.replicate (n+g) false)=true)(hfin:Qnn n 0 (Array.replicate (n+g) false)=FIN)(hF:((Region.ready .any l.toArray FIN).all fun j=>decide (n≤j))=true)
  (h:JE P E l.toArray (fun s=>∃s1,Kj E s s1∧AN P E l.toArray .any Q g FIN s1) (l.take n) st):Y1 P E (.region id l.toArray true) Q st:=fun c a hr=>by
 have hll:l.length=n+g:=by simpa using hn
 have htl:(l.take n).length=n:=by simp;omega
 have inv0:HeadInv .any l.toArray n (Array.replicate l.toArray.size false):=
  ⟨by simp,fun j oj _ hl=>(by rw[getD_replicate_false] at hl;cases hl),fun t _ ht=>getD_in (by simpa using ht) (getD_replicate_false _ _)⟩
 have hpre:∀(ll:List Oper) (s:St),JE P E l.toArray (fun s=>∃s1,Kj E s s1∧AN P E l.toArray .any Q g FIN s1) ll s→JE P E l.toArray (fun s=>∀c a,Jk E c a s→wpAny P .any l.toArray (QfB E Q) g FIN a c.w) ll s:=by
  intro ll
  induction ll with
  |nil=>
   rintro s ⟨s1,h1,h2⟩ c a hr;obtain⟨c',e,hr'⟩:=h1 c a hr;rw[←e];exact Qb9 _ _ _ _ _ hr' h2
  |cons o ll ih=>
   rintro s ⟨x,hy,hk⟩;exact⟨x,hy,ih _ hk⟩
 have H:=Qji (P:=P) (E:=E) (md:=.any) (K:=fun s=>∀c a,Jk E c a s→wpAny P .any l.toArray (QfB E Q) g FIN a c.w) (FIN:=FIN) (fun s s' e h c a hr=>h c a (hr.congr e.symm)) hW (fun j hj=>by simpa using List.all_eq_true.1 hF j hj) (l.take n) 0 _ st (fun j hj=>by
  have hj':j<n:=by rw[htl] at hj;exact hj
  simp[hj']) (by simpa using htl) inv0 (by rw[htl,hn];exact hB) (by rw[htl,hn];exact hfin) (hpre _ _ h)
 refine wp_region_any hm ?_
 have:=Qct (md:=.any) (Q':=QfB E Q) (g:=g) (fun listed c a s hr hL=>by
  rw[hL.1];exact hL.2 c a hr) _ _ _ _ _ hr.drew H
 rw[htl,←hn] at this;exact this
def QwM (P:Program)(E:X7)(ops:Array Oper)(md:Region.Mode)(Q:Exit→St→Prop)(f:Nat)(listed:Array Bool)(s:St):List Nat→Prop
 |[]=>True
 |i::r=>(aOp P E ops i (AN P E ops md Q f (listed.setIfInBounds i true)) s∨aSt P E ops i (AN P E ops md Q f (listed.setIfInBounds i true)) s∨aNw P E ops i (AN P E ops md Q f (listed.setIfInBounds i true)) s)∧QwM P E ops md Q f listed s r
theorem Yf {Q:Exit→St→Prop}{f:Nat}{listed:Array Bool}{s:St}(rs:List Nat)(hr:Region.ready md ops listed=rs)(hne:rs.isEmpty=false)(h:QwM P E ops md Q f listed s rs):AN P E ops md Q (f+1) listed s:=by
 have key:∀(rs:List Nat),QwM P E ops md Q f listed s rs→∀i∈rs,aOp P E ops i (AN P E ops md Q f (listed.setIfInBounds i true)) s∨aSt P E ops i (AN P E ops md Q f (listed.setIfInBounds i true)) s∨aNw P E ops i (AN P E ops md Q f (listed.setIfInBounds i true)) s:=by
  intro rs
  induction rs with
  |nil=>intro _ i hi;cases hi
  |cons j r ih=>
   rintro⟨h1,h2⟩ i hi
   rcases List.mem_cons.1 hi with rfl|hi
   ·exact h1
   exact ih h2 i hi
 refine⟨fun h0=>?_,fun i hi=>key rs h i (hr▸hi)⟩
 rw[h0] at hr;subst hr;cases hne
theorem QaL {Q:Exit→St→Prop}{listed:Array Bool}{s:St}(hr:Region.ready md ops listed=[])(h:Q .normal s):AN P E ops md Q 0 listed s:=⟨hr,h⟩
theorem Qk {i:Nat}{o:Oper}{t:List (Nat×AV)}{H:List (Nat×Qj)}{nx N d:Nat}{w:Bool}{T:St→Prop}(hN:E.N=N)(hi:ops[i]?=some o){sx x:Operand}{tt:TypeId}(ho:o.op=.call { callee:=.builtin .append,args := #[sx,x],argTypes := #[tt,tt] }){te:TypeId}{k bytes:Nat}[hT:QaZ P tt te k bytes]
  {es:List (List AV)} {q n:Nat} (hs:X4 ⟨t,H,nx⟩ sx=some (.own q n)) (hq:Qb H q=some (.arr te k es)) (hn:n=es.length) {ax:AV} (hx:X4 ⟨t,H,nx⟩ x=some ax) {es':List (List AV)} (hax:QqG ax=some es')
  (hk':es'.all (okE k)=true) (hb:(es.length+es'.length)*bytes≤140737488355328∧es.length+es'.length≤9223372036854775807) (hg:Qo ops ⟨t,H,nx⟩ o=some w) (hw:w=true) (hd:o.dst=some d) (hdN:Nat.blt d N=true)
  (h:T ⟨(d,.own q (n+es'.length))::t,(q,.arr te k (es++es'))::H,nx⟩):aNw P E ops i T ⟨t,H,nx⟩:=by
 subst hw hn
 refine⟨o,St.set ⟨t,H,nx⟩ q (.arr te k (es++es')),.own q (es.length+es'.length),hi,hg,dlt hN hd hdN,fun c a hr K Q hK=>?_,by rw[hd];exact h⟩
 have hvs:=hr.ev sx
 rw[QZ hs] at hvs
 have hvx:=hr.ev x
 rw[QZ hx] at hvx;obtain⟨v',c',h1,h2,h3⟩:=hr.append_own (P:=P) (t:=tt) o.type hq hvs (Qkf hvx hax) hk' hb.1 hb.2
 have hrun:(execOp a.eval o).run P c.w=.ok (.value v') c'.w:=by simp[execOp,ho,resolve,invoke,builtin,h1]
 unfold Oper.wp
 rw[hrun,Oper.upon_value];exact hK c' v' h2 h3
end
theorem Qe3 {E:X7}{t:List (Nat×AV)}{H:List (Nat×Qj)}{nx:Nat}(q i o:Nat){tt:TypeId}{cs:List AV}{n:Nat}{te:TypeId}{k:Nat}{es:List (List AV)}(hq:Qb H q=some (.var tt cs))(hi:cs[i]?=some (.own o n))(ho:Qb H o=some (.arr te k es))(hqo:Nat.beq q o=false)(hn:n=es.length)(hk:es.all (okE k)=true)(hz:∀e∈es,fzs e=some e){H':List (Nat×Qj)}(hH:J8 o H=H'):
  Kj E ⟨t,H,nx⟩ ⟨t,(q,.var tt (cs.set i (.sl es none)))::H',nx⟩:=fun c a hr=>by
 subst hH hn
 have hne:q≠o:=fun e=>by rw[e,Nat.beq_refl] at hqo;cases hqo
 obtain⟨hKq,vq,hVq,hor,hwr⟩:=hr.live o _ ho;obtain⟨c',e1,hS',hle,hr'⟩:=hr.give ho hVq (fun b off=>Xd vq=some b∧off<es.length*k) (fun b off h=>h.1)
 have hcell:∀u,VR c u (.own o es.length)→VR c' u (.sl es none):=fun u hv=>by
  cases hor with
  |arr _ _ _ _ xs hown hek hx hSq=>
   obtain⟨A0,cap0,hA0⟩:=Y3 hown
   have hvq:u=vq:=by
    cases hv with
    |fr _ _ h=>cases h
    |own _ _ _ hK hV=>rw[(hV A0 _ cap0 (by rw[hVq,hA0])).2 rfl,hA0]
   rw[hvq];refine .fr _ _ (FR.of_own (xs:=xs) (n:=es.length) (te:=te) (k:=k) (by rw[e1];exact hown) rfl hk (fun b hb off hoff=>(hS' b off).2 (.inr ⟨hb,hoff⟩)) (fun i u y hi hy=>?_))
   have hfz:∀x∈es.flatten,x.fz1=some x:=fun x hx=>by
    obtain⟨e,he,hxe⟩:=List.mem_flatten.1 hx;obtain⟨m,hm⟩:=List.getElem?_of_mem hxe;exact(Wa (hz e he)).2 m x x hm hm
   exact((hx i u y hi hy).fz1 (hfz y (List.mem_of_getElem? hy))).mono hle.S
 obtain⟨f1,w1,f2,f3,f4⟩:=hr.live q _ hq
 have hlk:∀p,Qb ((q,Qj.var tt (cs.set i (.sl es none)))::J8 o H) p=if p=q then some (Qj.var tt (cs.set i (.sl es none))) else Qb (J8 o H) p:=fun p=>Qn _ _ _ _
 have hq':Qb (J8 o H) q=some (.var tt cs):=by rw[XF,if_neg hne];exact hq
 refine⟨c',e1,{ hr' with live:=fun p ob hp=>?_,dead:=fun p hp=>?_ }⟩
 ·replace hp:Qb ((q,Qj.var tt (cs.set i (.sl es none)))::J8 o H) p=some ob:=hp
  rw[hlk] at hp
  split at hp
  ·rename_i e
   subst e
   cases hp
   obtain⟨g1,v,g2,g3,g4⟩:=hr'.live _ _ hq';refine⟨g1,v,g2,?_,g4⟩
   cases g3 with
   |var b ccs _ _ hb hl hc hS=>
    refine .var b ccs tt _ hb (by simp[hl]) (fun j u x hj hx=>?_) hS;rw[List.getElem?_set] at hx
    split at hx
    ·rename_i e
     subst e
     split at hx
     ·cases hx
      cases f3 with
      |var b2 ccs2 _ _ hb2 hl2 hc2 hS2=>
       have hv12:Value.pointer (some ⟨b,0,none⟩)=Value.pointer (some ⟨b2,0,none⟩):=by
        have h5:=hle.V p f1
        rw[f2,g2] at h5
        rcases h5 with h5|h5|⟨A,n1,c1,A',n1',c1',h5,-,-⟩
        ·exact Option.some.inj h5
        ·cases h5
        cases h5
       have hbb:b=b2:=by cases hv12;rfl
       subst hbb
       have:ccs=ccs2:=by
        rw[e1] at hb;rw[hb2] at hb
        cases hb;rfl
       subst this
       exact hcell u (hc2 _ u _ hj hi)
     cases hx
    exact hc j u x hj hx
  exact hr'.live p ob hp
 replace hp:Qb ((q,Qj.var tt (cs.set i (.sl es none)))::J8 o H) p=none:=hp
 rw[hlk] at hp
 split at hp
 ·cases hp
 exact hr'.dead p hp
theorem QtR {P:Program}{E:X7}{st:St}{o:Oper}{t e:TypeId}{l n:Nat}(ho:o.op=.build t #[]){zs:List Value}[hT:Qta P t l e n][hZ:Xa P t zs]:PY P E o st (.agg (zs.map .p)):=by
 refine Kh fun st' h1 h2 c a hr=>?_
 have hz:=hZ.h
 cases hi:P.info? t with
 |none=>simp[hi] at hz
 |some i=>
  cases hz0:i.zero with
  |none=>simp[hi,hz0] at hz
  |some z=>
   have hzc:z.cells.toList=zs:=by simpa [hi,hz0] using hz
   refine⟨.agg z.cells,?_,?_⟩
   ·simp[execOp,ho,Sem.run_bind,Instr.build,zeroValue,typeInfo,run_program,Result.andThen_ok,hi,Sem.run_pure,hz0,run_underlying (Qe4 hT.h),X6 hT.size,Instr.fill]
   have:=VR.agg (c:=c) z.cells.toList (zs.map .p) (by simp[←hzc]) (fun j u y hj hk=>by
    rw[←hzc,List.getElem?_map,hj] at hk
    cases hk
    exact .fr _ _ (.p u))
   simpa using this
end Go.Proofs.YtnkkokmmeplbgaaGreat
