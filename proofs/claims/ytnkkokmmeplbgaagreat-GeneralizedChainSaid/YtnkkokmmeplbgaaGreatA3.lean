/-
  More rules: nil checks, parts of slices that are maps.
-/
import Derived.Test.YtnkkokmmeplbgaaGreatA2
namespace Go.Proofs.YtnkkokmmeplbgaaGreat
open Go.RowKit
section
variable {P:Program}{E:X7}{st:St}{o:Oper}
theorem Wd {x:Operand}(ho:o.op=.nilCheck x){ax c:AV}{cs:List AV}(hx:X4 st x=some ax)(hc:st.at_ ax=some (c::cs)):PY P E o st ax:=by
 refine Kh fun st' h1 h2 cx a hr=>?_
 have hv:=hr.ev x
 rw[h1 x (by simp[ho,Op.operands]),QZ hx] at hv
 have hc':st'.at_ ax=some (c::cs):=by
  exact St.at_keep h2 hc
 obtain⟨b,off,hat⟩:=hr.at_ hv hc';obtain⟨hp,_⟩:=hat 0 c rfl;refine⟨a.eval x,?_,hv⟩
 simp[execOp,ho,hp]
variable {α:Type}{f:α→List AV}{l:List α}{n:Nat}
theorem Qf8 (h:∀a,(f a).length=n):∀e∈l.map f,e.length=n:=fun e he=>by
 obtain⟨a,_,rfl⟩:=List.mem_map.1 he;exact h a
theorem Qvw {tt:TypeId}{x y:Operand}(ho:o.op=.slice tt x none (some y) none){e:TypeId}[hT:JJ P tt e n]{tk:Option Nat}(hx:X4 st x=some (.sl (l.map f) tk)){k:IntKind}{i:Int}(hy:X4 st y=some (.p (.int k i)))
  (h:Nat) (hi:i=(h:Int)) (hh:h≤l.length) (hn:∀a,(f a).length=n):PY P E o st (.sl ((l.take h).map f) none):=by
 have:=Qly (P:=P) (E:=E) (st:=st) tt x none (some y) ho (l.map f) tk (QZ hx) 0 h (.inl ⟨rfl,rfl⟩) (.inr ⟨y,k,rfl,by rw[QZ hy,hi]⟩) (Nat.zero_le _) (by simpa using hh) (Qf8 hn)
 simpa [List.map_take] using this
theorem KF {tt:TypeId}{x y:Operand}(ho:o.op=.slice tt x (some y) none none){e:TypeId}[hT:JJ P tt e n]{tk:Option Nat}(hx:X4 st x=some (.sl (l.map f) tk)){k:IntKind}{i:Int}(hy:X4 st y=some (.p (.int k i)))
  (h:Nat) (hi:i=(h:Int)) (hh:h≤l.length) (hn:∀a,(f a).length=n):PY P E o st (.sl ((l.drop h).map f) none):=by
 have:=Qly (P:=P) (E:=E) (st:=st) tt x (some y) none ho (l.map f) tk (QZ hx) h (l.map f).length (.inr ⟨y,k,rfl,by rw[QZ hy,hi]⟩) (.inl ⟨rfl,rfl⟩) (by simpa using hh) (Nat.le_refl _) (Qf8 hn)
 rw[List.take_length] at this
 simpa [List.map_drop] using this
theorem QdV {Q:Exit→St→Prop}{x y:Code}(st1:St)(F:Prop)(h1:Y1 P E x (QfO (fun s=>F∧Kj E s st1) Q) st)(h2:F→Y1 P E y Q st1):Y1 P E (.seq x y) Q st:=by
 refine Qhh (h1.mono fun e s hq=>?_)
 cases e with
 |normal=>exact QC hq.2 (h2 hq.1)
 |_=>exact hq
variable {Q:Exit→St→Prop}{ops:Array Oper}{rest:List Oper}{t:List (Nat×AV)}{H:List (Nat×Qj)}{nx N d:Nat}{w:Bool}
theorem Qa3 {α:Type}(q:Nat)(x:α)(o:Nat):Qb [(q,x)] o=if o=q then some x else none:=by rw[Qn];rfl
theorem QhG (hN:E.N=N){g:FuncId}{bs as:List AV}{ob ob' ob1 ob2:Qj}{res:AV}(q:Nat)(hc:GC P g bs [(Qf,ob)] res [(Qf,ob')])[hf:Xl P g](ho:WN ⟨t,H,nx⟩ o g as)(hab:bs.map (KU [(Qf,q)])=as)(hbig:bs.all QbK=true)
  (h1:Qgd [(Qf,q)] ob=ob1) (hq:Qb H q=some ob1) (h2:okB ob=true) (h3:Qg7 [(Qf,ob)] ob'=true) (h4:Qgd [(Qf,q)] ob'=ob2)
  (hg:Qo ops ⟨t,H,nx⟩ o=some w) (hw:w=true) (hd:o.dst=some d) (hdN:Nat.blt d N=true)
  (h:Q3 P E ops rest Q ⟨(d,res)::t,(q,ob2)::H,nx⟩):Q3 P E ops (o::rest) Q ⟨t,H,nx⟩:=by
 have hrn:rn [(Qf,q)] Qf=q:=by simp[rn,Qa3]
 have one:∀(z:Qj) (o:Nat),(Qb [(Qf,z)] o).isSome=true→o=Qf:=fun z o h=>by
  rw[Qa3] at h
  split at h
  ·assumption
  cases h
 refine Quz hc [(Qf,q)] ((q,ob2)::H) ho hab.symm hbig ⟨?_,rfl,h2,trivial⟩ (fun o o' g1 g2 _=>by rw[one _ o g1,one _ o' g2]) (fun o=>by simp only[Qa3];split<;>rfl) (fun o z h=>?_) (fun o z h=>?_) (fun p hp=>?_) hg hw (dlt hN hd hdN) ?_
 ·rw[hrn,h1];exact hq
 ·rw[Qa3] at h
  split at h
  ·cases h;exact h3
  cases h
 ·rw[Qa3] at h
  split at h
  ·rename_i e;cases h;rw[e,hrn,h4,Qp]
  cases h
 ·rw[Qe]
  intro e;exact hp Qf (by rw[Qa3,if_pos rfl];rfl) (by rw[hrn,e])
 rw[hd];exact h
theorem Qd1 {ts:List Nat}{r res:AV}{ob ob':Qj}(h:(Xz st ts).fzt=some r)(hr:r=res)(ho:Qb st.H Qf=some ob')(he:ob'=ob)(hk:JB 0 ob=true):
  (Xz st ts).fzt=some res∧∀o ob2,Qb [(Qf,ob)] o=some ob2→Qb st.H o=some ob2∧Qf≤o∧JB 0 ob2=true:=by
 refine⟨by rw[h,hr],fun o ob2 h2=>?_⟩;rw[Qa3] at h2
 split at h2
 ·rename_i e
  cases h2
  subst he
  exact⟨by rw[e];exact ho,by rw[e];exact Nat.le_refl _,hk⟩
 cases h2
end
section
variable {P:Program}{E:X7}{st:St}{o:Oper}
theorem QaO {f:FuncId}{q:Operand}{cap:List AV}{xs:Array Operand}{ts:Array TypeId}{bs:List AV}{r:AV}(hc:FC P f bs r)(ho:o.op=.call { callee:=.value q,args:=xs,argTypes:=ts })[hf:Xl P f](hq:X4 st q=some (.fn f cap)){as:List AV}(ha:evl st xs.toList=some as)(hb:fzl (as++cap)=some bs):PY P E o st r:=by
 intro st' h1 h2 c a hr K Q hK
 have hvq:=hr.ev q
 rw[h1 q (by simp[ho,Op.operands,Call.operands]),QZ hq] at hvq
 generalize hvx:a.eval q=vx at hvq
 have key:∃vs:List Value,vx=.func (.func f) #[] vs.toArray∧vs.length=cap.length∧∀(i:Nat) (v:Value) (x:AV),vs[i]?=some v→cap[i]?=some x→VR c v x:=by
  cases hvq with
  |fr _ _ h=>cases h with|fn _ vs _ hl h=>exact⟨vs,rfl,hl,fun i v x h1 h2=>.fr _ _ (h i v x h1 h2)⟩
  |fn _ vs _ hl h=>exact⟨vs,rfl,hl,h⟩
 obtain⟨vs,rfl,hl,hp⟩:=key
 have he:=Qdu ha
 have hev:xs.toList.map st'.ev=as:=by
  rw[←he]
  refine List.map_congr_left fun y hy=>h1 y ?_
  simp only[ho,Op.operands,Call.operands]
  simp[Array.mem_toList_iff.1 hy]
 have hla:as.length=xs.size:=by rw[←hev];simp
 obtain⟨h3,h4⟩:=QcD hb
 have hall:∀(i:Nat) (v:Value) (x:AV),(xs.toList.map a.eval++vs)[i]?=some v→(as++cap)[i]?=some x→VR c v x:=fun i v x hi hj=>by
  rcases Nat.lt_or_ge i as.length with hlt|hge
  ·rw[List.getElem?_append_left hlt,←hev,List.getElem?_map] at hj
   rw[List.getElem?_append_left (by simp;omega),List.getElem?_map] at hi
   cases hx:xs.toList[i]? with
   |none=>rw[hx] at hi;cases hi
   |some y=>rw[hx] at hi hj;cases hi;cases hj;exact hr.ev y
  rw[List.getElem?_append_right hge] at hj;rw[List.getElem?_append_right (by simp;omega)] at hi
  simp only[List.length_map,Array.length_toList] at hi
  rw[←hla] at hi;exact hp _ v x hi hj
 have hfrs:FRs c.w c.S (xs.toList.map a.eval++vs) bs:=by
  refine⟨by simp[h3,hla,hl],fun i v y hi hj=>?_⟩
  have hix:i<(as++cap).length:=by have:=(List.getElem?_eq_some_iff.1 hj).1;omega
  exact(hall i v _ hi (List.getElem?_eq_getElem hix)).fz (h4 i _ y (List.getElem?_eq_getElem hix) hj)
 have hcall:=hc c.w c.S _ hr.Ssz hfrs
 have hrun:(execOp a.eval o).run P c.w=.ok (.enter f (xs.toList.map a.eval++vs).toArray) c.w:=by
  have e2:(xs.toList.map a.eval).toArray=xs.map a.eval:=by apply Array.ext';simp
  have e3:(xs.toList.map a.eval++vs).toArray=xs.map a.eval++vs.toArray:=by rw[←e2];simp
  simp[execOp,ho,resolve,invoke,hvx,Deferred.ofValue,hf.h,e3]
 unfold Oper.wp
 rw[hrun,Oper.upon_enter];refine hcall.mono ?_;rintro e w' ⟨v,S',rfl,hw,hS,hS',hv⟩;obtain⟨hle,hr'⟩:=hr.ext hw hS hS';exact hK ⟨w',S',c.V,c.K⟩ v hr' (.fr _ _ hv)
theorem Qux {f:FuncId}{vs:List Value}{r:Value}(h:∀w,Calls P f vs.toArray w fun e w'=>e=.returned r∧w'=w):FC P f (vs.map .p) (.p r):=by
 intro w S vs' hS hv
 have:vs'=vs:=by
  refine List.ext_getElem? fun i=>?_
  obtain⟨h1,h2⟩:=hv;rw[List.length_map] at h1
  rcases Nat.lt_or_ge i vs.length with hlt|hge
  ·have hi':vs'[i]?=some vs'[i]:=List.getElem?_eq_getElem (by omega)
   have hi:(vs.map AV.p)[i]?=some (.p vs[i]):=by rw[List.getElem?_map,List.getElem?_eq_getElem hlt];rfl
   have:=h2 i _ _ hi' hi
   rw[hi',List.getElem?_eq_getElem hlt]
   generalize vs'[i]=x at this
   generalize vs[i]=y at this
   cases this
   rfl
  rw[List.getElem?_eq_none hge,List.getElem?_eq_none (by omega)]
 subst this
 refine(h w).mono ?_;rintro e w' ⟨rfl,rfl⟩;exact⟨r,S,rfl,Bel.refl _,fun _ _ h=>h,fun _ _ h=>.inl h,.p _⟩
end
inductive RS where
 |t (i:Nat)
 |c (i:Nat) (ty:TypeId) (n:Nat) (row:Bool)
def RS.var:RS→ResultVar
 | .t i=>.tmp i
 | .c i ty _ _=>.cell i ty
def RS.okL (P:Program):List RS→Prop
 |[]=>True
 | .t _::r=>RS.okL P r
 | .c _ ty n row::r=>(XV P ty n row∧Nat.blt 0 n=true)∧RS.okL P r
def RS.rd (st:St):RS→Option AV
 | .t i=>some (st.get i)
 | .c i _ n row=>(St.at_ st (st.get i)).bind (W7 row n)
def RS.rds (st:St):List RS→Option (List AV)
 |[]=>some []
 |r::rs=>match r.rd st,RS.rds st rs with
  |some x,some xs=>some (x::xs)
  |_,_=>none
def resY (st:St):List RS→Option AV
 |[r]=>r.rd st
 |rs=>(RS.rds st rs).map .tup
def retR (rs:List RS)(res:AV):Exit→St→Prop
 | .normal,st | .ret,st=>(resY st rs).bind AV.fzt=some res
 |_,_=>False
section
variable {P:Program}{E:X7}{c:Cx}{a:Act}{st:St}
def QgS (tmps:Array Value):ResultVar→Sem Value
 | .tmp t=>pure (tmps.getD t undef)
 | .cell a t=>do loadVar t (←asAddr (tmps.getD a undef))
theorem Jk.rd (hr:Jk E c a st){r:RS}(hok:RS.okL P [r]){x:AV}(h:r.rd st=some x):∃v,(QgS a.tmps r.var).run P c.w=.ok v c.w∧VR c v x:=by
 cases r with
 |t i=>cases h;exact⟨_,rfl,hr.tmps i⟩
 |c i ty n row=>
   obtain⟨⟨hT,hp⟩,_⟩:=hok
   have hsize:=hT.size
   have hrow:=hT.row
   have hn0:0<n:=Nat.le_of_ble_eq_true hp
   simp only[RS.rd] at h
   cases hc:St.at_ st (st.get i) with
   |none=>rw[hc] at h;cases h
   |some cs=>
    rw[hc] at h
    have hl:W7 row n cs=some x:=h
    obtain⟨b,off,hat⟩:=hr.at_ (hr.tmps i) hc;obtain⟨ii,hi,hsz⟩:=JD hsize;obtain⟨d,hd,hdr⟩:=Qdg hrow
    cases row with
    |false=>
     cases cs with
     |nil=>cases hl
     |cons y ys=>
      cases hl
      obtain⟨hp,u,hu,hvr⟩:=hat 0 _ rfl;refine⟨u,?_,hvr⟩
      simp only[RS.var,QgS]
      rw[hp]
      simp[asAddr,loadVar,Qaw hrow,show c.w.cell? ⟨b,off,none⟩=some u from hu]
    |true=>
     simp only[W7] at hl
     cases hb:Nat.ble n cs.length with
     |false=>rw[hb] at hl;cases hl
     |true=>
      rw[hb] at hl
      cases hl
      have hnl:n≤cs.length:=Nat.le_of_ble_eq_true hb
      obtain⟨us,hul,hus⟩:=QcJ (p:=fun j u=>c.w.cell? ⟨b,off+j,none⟩=some u∧∀y,cs[j]?=some y→VR c u y) n (fun j hj=>by
       obtain⟨_,u,hu,hvr⟩:=hat j cs[j] (List.getElem?_eq_getElem (by omega))
       exact⟨u,hu,fun y hy=>by rw[List.getElem?_eq_getElem (by omega)] at hy;cases hy;exact hvr⟩)
      obtain⟨hp,_⟩:=hat 0 cs[0] (List.getElem?_eq_getElem (by omega));refine⟨.agg us.toArray,?_,.agg us (cs.take n) (by simp;omega) (fun i v y h1 h2=>?_)⟩
      ·simp only[RS.var,QgS]
       rw[hp]
       have:=run_loadAt_mid c.w b off ty us d (fun j v hj=>(hus j v hj).1) hd hdr (by rw[hi,Option.map_some,hsz,hul])
       simpa [Instr.loadAt,Instr.sureAddr,asAddr] using this
      rw[List.getElem?_take] at h2
      split at h2
      ·exact(hus i v h1).2 y h2
      cases h2
theorem QmR {r:RS}{rs:List RS}{xs:List AV}(h:RS.rds st (r::rs)=some xs):∃x xs',r.rd st=some x∧RS.rds st rs=some xs'∧xs=x::xs':=by
 rw[RS.rds] at h
 cases h1:r.rd st with
 |none=>rw[h1] at h;cases h
 |some x=>
  cases h2:RS.rds st rs with
  |none=>rw[h1,h2] at h;cases h
  |some xs'=>rw[h1,h2] at h;cases h;exact⟨x,xs',rfl,rfl,rfl⟩
theorem QoC:∀ {rs:List RS} {xs:List AV},RS.rds st rs=some xs→xs.length=rs.length
 |[],xs,h=>by cases h;rfl
 |r::rs,xs,h=>by
  obtain⟨x,xs',h1,h2,rfl⟩:=QmR h
  simp[QoC h2]
theorem Qu8 (g:ResultVar→Sem Value)(tmps:Array Value)(hg:∀r,g r=QgS tmps r)(l:List ResultVar):l.toArray.mapM g=List.toArray <$> l.mapM (QgS tmps):=by
 rw[show g=QgS tmps from funext hg,List.mapM_toArray]
theorem QmU {r:RS}{rs:List RS}(h:RS.okL P (r::rs)):RS.okL P [r]∧RS.okL P rs:=by
 cases r with
 |t i=>exact⟨trivial,h⟩
 |c i ty n row=>exact⟨⟨h.1,trivial⟩,h.2⟩
theorem Jk.rds (hr:Jk E c a st):∀ {rs:List RS} (_:RS.okL P rs) {xs:List AV},RS.rds st rs=some xs→∃vs:List Value,((rs.map RS.var).mapM (QgS a.tmps)).run P c.w=.ok vs c.w∧vs.length=xs.length∧∀(i:Nat) (v:Value) (x:AV),vs[i]?=some v→xs[i]?=some x→VR c v x
 |[],_,xs,h=>by cases h;exact⟨[],rfl,rfl,by simp⟩
 |r::rs,hok,xs,h=>by
  obtain⟨x,xs',h1,h2,rfl⟩:=QmR h;obtain⟨v,g1,g2⟩:=hr.rd (QmU hok).1 h1;obtain⟨vs,k1,k2,k3⟩:=hr.rds (QmU hok).2 h2;refine⟨v::vs,?_,by simp[k2],fun i u y hi hj=>?_⟩
  ·rw[List.map_cons,List.mapM_cons]
   simp only[Sem.run_bind,g1,Result.andThen_ok,k1,Sem.run_pure]
  ·cases i with
   |zero=>simp at hi hj;subst hi hj;exact g2
   |succ i=>simp at hi hj;exact k3 i u y hi hj
theorem Jk.resY (hr:Jk E c a st){fn:Func}{rs:List RS}(hok:RS.okL P rs)(hf:fn.results=(rs.map RS.var).toArray){x:AV}(h:resY st rs=some x):∃v,(results fn a.tmps).run P c.w=.ok v c.w∧VR c v x:=by
 have hm:∀(vs:List Value),((rs.map RS.var).mapM (QgS a.tmps)).run P c.w=.ok vs c.w→(results fn a.tmps).run P c.w=.ok (if h:vs.toArray.size=1 then vs.toArray[0] else .tuple vs.toArray) c.w:=fun vs hv=>by
  unfold results
  rw[hf,Qu8 _ a.tmps (fun r=>by cases r<;>rfl)]
  simp only[Sem.run_bind,Sem.run_map,hv,Result.andThen_ok,Sem.run_pure]
 match rs,hok,h,hm with
 |[r],hok1,h,hm=>
  obtain⟨v,g1,g2⟩:=hr.rd hok1 h;refine⟨v,?_,g2⟩
  have:=hm [v] (by simp[List.mapM_cons,g1])
  simpa using this
 |[],_,h,hm=>
  cases h
  have:=hm [] rfl
  exact⟨_,by simpa using this,.tup [] [] rfl (by simp)⟩
 |r1::r2::rs,hok,h,hm=>
  have h:(RS.rds st (r1::r2::rs)).map .tup=some x:=h
  cases hx:RS.rds st (r1::r2::rs) with
  |none=>rw[hx] at h;cases h
  |some xs=>
   rw[hx] at h;cases h
   obtain⟨vs,k1,k2,k3⟩:=hr.rds hok hx
   have hl:¬vs.length=1:=by
    have:xs.length=(r1::r2::rs).length:=QoC hx
    simp at this;omega
   refine⟨.tuple vs.toArray,?_,.tup vs xs k2 k3⟩
   have:=hm vs k1
   simpa [hl] using this
end
theorem Km {P:Program}{f:FuncId}{fn:Func}{code:Code}{args:List AV}{res:AV}(rs:List RS)(hok:RS.okL P rs)(hf:P.funcs[f]?=some fn)(hb:fn.body=some code)(hres:fn.results=(rs.map RS.var).toArray)(N:Nat)(hN:fn.ntmps=N)(hle:args.length≤N)
  (h:∀E:X7,E.N=N→Y1 P E code (retR rs res) ⟨Qao 0 args,[],0⟩):FC P f args res:=by
 intro w S vs hS hv
 have hvl:vs.length=args.length:=hv.1
 refine calls_of_wp hf hb ?_
 have hr:Jk (X7.at_ N w S) ⟨w,S,fun _=>none,fun _=>False⟩ { tmps:=vs.toArray++Array.replicate (fn.ntmps-vs.toArray.size) undef,defers:=[] } ⟨Qao 0 args,[],0⟩:={
  defers:=rfl
  size:=by show(vs.toArray++Array.replicate (fn.ntmps-vs.toArray.size) undef).size=N;simp;omega
  tmps:=fun i=>by
   show VR _ ((vs.toArray++Array.replicate (fn.ntmps-vs.toArray.size) undef).getD i undef) ((Qb (Qao 0 args) i).getD .bot)
   rw[Wp]
   simp only[Nat.zero_le,if_true,Nat.sub_zero]
   rcases Nat.lt_or_ge i args.length with hlt|hge
   ·have hlt':i<vs.length:=by omega
    have e:(vs.toArray++Array.replicate (fn.ntmps-vs.toArray.size) undef).getD i undef=vs[i]:=by
     simp[Array.getElem?_append,hlt']
    rw[e,List.getElem?_eq_getElem hlt];exact .fr _ _ (hv.2 i _ _ (List.getElem?_eq_getElem hlt') (List.getElem?_eq_getElem hlt))
   rw[List.getElem?_eq_none hge];exact .fr _ _ (.bot _)
  live:=fun o ob h=>by cases h
  dead:=fun _ _=>rfl
  apart:=fun o o' v v' b h=>by cases h
  ids:=fun _ h=>h.elim,nxB:=Nat.zero_le _,kbs:=fun _ h=>h.elim,V0:=fun _ h=>h.elim
  Ssz:=hS
  os:=rfl,tape:=rfl,output:=rfl,drawn:=Nat.le_refl _,grown:=Nat.le_refl _
  frame:=fun _ _ _=>rfl
  S0:=fun _ _ h=>⟨h,rfl⟩
  Snew:=fun _ _ h=>.inl h }
 refine wp_mono (h (X7.at_ N w S) rfl _ _ hr) ?_;rintro e a' w' ⟨c,st,rfl,hr',hq⟩
 have fin:((resY st rs).bind AV.fzt=some res) →
   a'.defers=[]∧∃v,(results fn a'.tmps).run P c.w=.ok v c.w∧∃v' S',Ending.returned v=.returned v'∧Bel w c.w∧(∀b o,S b o→S' b o)∧(∀b o,S' b o→S b o∨(w.heap.size≤b∧b<c.w.heap.size))∧FR c.w S' v' res:=by
  intro hr2
  cases hx:resY st rs with
  |none=>rw[hx] at hr2;cases hr2
  |some x=>
   rw[hx] at hr2
   replace hr2:x.fzt=some res:=hr2
   obtain⟨v,g1,g2⟩:=hr'.resY hok hres hx;refine⟨hr'.defers,v,g1,v,c.S,rfl,⟨⟨hr'.os,hr'.tape,hr'.output,hr'.grown,fun b hb=>hr'.frame b hb (Nat.not_le.2 hb)⟩,hr'.drawn⟩,fun b o h=>(hr'.S0 b o h).1,fun b o h=>?_,?_⟩
   ·rcases hr'.Snew b o h with h1|h1
    ·exact .inl h1
    exact .inr ⟨h1,hr'.Ssz b o h⟩
   cases x with
   |tup xs=>
    simp only[AV.fzt] at hr2
    cases hz:fzl xs with
    |none=>rw[hz] at hr2;cases hr2
    |some ys=>rw[hz] at hr2;cases hr2;exact g2.tup_fz hz
   |_=>exact g2.fz hr2
 cases e with
 |normal=>exact fin hq
 |ret=>exact fin hq
 |_=>exact hq.elim
theorem Yl {st:St}{rs:List RS}{r res:AV}(h:(resY st rs).bind AV.fzt=some r)(hr:r=res):(resY st rs).bind AV.fzt=some res:=by rw[h,hr]
theorem QD {P:Program}{E:X7}{st:St}{o:Oper}{op:BinOp}{t ty:TypeId}{x y:Operand}(ho:o.op=.binOp op t x y ty){u u' v:Value}(hx:X4 st x=some (.p u))(hy:X4 st y=some (.p u'))[hb:QaG P t op u u' v]{b:Bool}(hv:v=.bool b):PY P E o st (.p (.bool b)):=by
 subst hv;exact QjO ho hx hy
theorem cgL {es es':List (List AV)}{tk:Option Nat}(h:es=es'):some (AV.sl es tk)=some (AV.sl es' tk):=by rw[h]
theorem cgT {te:TypeId}{k n n':Nat}(h:n=n'):some (Qj.tok te k n)=some (Qj.tok te k n'):=by rw[h]
theorem Qfb {es es':List (List AV)}{tk:Option Nat}(h:es=es'):AV.sl es tk=AV.sl es' tk:=by rw[h]
theorem QN {α:Type}{f:α→List AV}{k:Nat}(h:∀a,okE k (f a)=true)(l:List α):(l.map f).all (okE k)=true:=by
 induction l with
 |nil=>rfl
 |cons a l ih=>rw[List.map_cons,List.all_cons,h,ih];rfl
section
variable {E:X7}{c:Cx}{a:Act}{st:St}{t:List (Nat×AV)}{H:List (Nat×Qj)}{nx:Nat}
theorem Jk.nils (hr:Jk E c a st)(hB:st.nx<Qf)(te:TypeId)(k:Nat):∃c':Cx,c'.w=c.w∧c.le c'∧VR c' (.slice none 0 0) (.sl [] (some st.nx))∧Jk E c' a { st.set st.nx (.tok te k 0) with nx:=st.nx+1 }:=by
 obtain⟨c',e1,e2,hle,e4,e5,hr'⟩:=hr.new hB (Bel.refl c.w) (.slice none 0 0) (.tok te k 0) (fun c' e1 e2 hle=>.tok _ te k 0 [] (World.ownsRow_nil _ 0 te k) (fun b hb=>by simp[Xd] at hb)) (fun b hb=>by simp[Xd] at hb);refine⟨c',e1,hle,.tok _ _ _ (.nil _ _ _ _ (Nat.zero_le _)) e4 (fun A2 n2 cap2 hh=>?_),hr'⟩;rw[e5] at hh
 have hh:=Option.some.inj hh
 have hn2:0=n2:=(Value.slice.inj hh).2.1
 exact⟨Nat.zero_le _,fun _=>.inr ⟨hn2.symm,none,rfl⟩⟩
theorem Qmc (hB:Nat.blt nx Qf=true)(i:Nat)(te:TypeId)(k:Nat)(h:Qb t i=some (.p (.slice none 0 0))):Kj E ⟨t,H,nx⟩ ⟨(i,.sl [] (some nx))::t,(nx,.tok te k 0)::H,nx+1⟩:=fun c a hr=>by
 obtain⟨c',e1,hle,hv,hr'⟩:=hr.nils (Nat.le_of_ble_eq_true hB) te k;refine⟨c',e1,{ hr' with tmps:=fun j=>?_ }⟩
 have hj:=hr'.tmps j
 show VR c' _ ((Qb ((i,AV.sl [] (some nx))::t) j).getD .bot)
 rw[Qn]
 split
 ·rename_i e
  subst e
  have hj:VR c' _ ((Qb t j).getD .bot):=hj
  rw[h] at hj
  have:=hj.p_inv
  rw[this];exact hv
 exact hj
theorem Kx (hB:Nat.blt nx Qf=true)(q i:Nat)(te:TypeId)(k:Nat){tt:TypeId}{cs:List AV}(hq:Qb H q=some (.var tt cs))(hn:Nat.beq q nx=false)(h:cs[i]?=some (.p (.slice none 0 0))):Kj E ⟨t,H,nx⟩ ⟨t,(q,.var tt (cs.set i (.sl [] (some nx))))::(nx,.tok te k 0)::H,nx+1⟩:=fun c a hr=>by
 obtain⟨c',e1,hle,hv,hr'⟩:=hr.nils (Nat.le_of_ble_eq_true hB) te k
 have hne:q≠nx:=fun e=>by subst e;simp at hn
 have hlk:∀o,Qb ((q,Qj.var tt (cs.set i (.sl [] (some nx))))::(nx,.tok te k 0)::H) o=if o=q then some (Qj.var tt (cs.set i (.sl [] (some nx)))) else Qb ((nx,.tok te k 0)::H) o:=fun o=>Qn _ _ _ _
 have hqq:Qb ((nx,Qj.tok te k 0)::H) q=some (.var tt cs):=by rw[Qe _ _ hne];exact hq
 refine⟨c',e1,{ hr' with live:=fun o ob ho=>?_,dead:=fun o ho=>?_ }⟩
 ·replace ho:Qb ((q,Qj.var tt (cs.set i (.sl [] (some nx))))::(nx,.tok te k 0)::H) o=some ob:=ho
  rw[hlk] at ho
  split at ho
  ·rename_i e
   subst e
   cases ho
   obtain⟨g1,v,g2,g3,g4⟩:=hr'.live _ _ hqq;refine⟨g1,v,g2,?_,g4⟩
   cases g3 with
   |var b ccs _ _ hb hl hc hS=>
    refine .var b ccs tt _ hb (by simp[hl]) (fun j u x hj hx=>?_) hS;rw[List.getElem?_set] at hx
    split at hx
    ·rename_i e
     subst e
     split at hx
     ·cases hx
      have:=(hc _ u _ hj h).p_inv
      rw[this];exact hv
     cases hx
    exact hc j u x hj hx
  exact hr'.live o ob ho
 replace ho:Qb ((q,Qj.var tt (cs.set i (.sl [] (some nx))))::(nx,.tok te k 0)::H) o=none:=ho
 rw[hlk] at ho
 split at ho
 ·cases ho
 exact hr'.dead o ho
end
def J8 (q:Nat):List (Nat×Qj)→List (Nat×Qj)
 |[]=>[]
 |(j,x)::r=>bif q==j then J8 q r else(j,x)::J8 q r
theorem XF (q:Nat):∀(H:List (Nat×Qj)) (o:Nat),Qb (J8 q H) o=if o=q then none else Qb H o
 |[],o=>by simp[J8,Qb]
 |(j,x)::r,o=>by
  unfold J8
  by_cases hj:q=j
  ·subst hj
   simp only[BEq.rfl,cond_true]
   rw[XF q r o,Qn]
   by_cases ho:o=q
   ·simp[ho]
   simp[ho]
  ·have:(q==j)=false:=by simpa using hj
   rw[this,cond_false,Qn,Qn,XF q r o]
   by_cases ho:o=q
   ·subst ho;simp[hj]
   ·simp[ho]
section
variable {E:X7}{c:Cx}{a:Act}{st:St}
theorem Jk.freeze (hr:Jk E c a st){q:Nat}{tt:TypeId}{cs ys:List AV}(hq:Qb st.H q=some (.var tt cs))(hz:fzs cs=some ys):
  ∃c':Cx,c'.w=c.w∧Jk E c' a ⟨st.t,J8 q st.H,st.nx⟩∧∀v off,VR c v (.ptr q off)→VR c' v (.el (ys.drop off)):=by
 obtain⟨hKq,vq,hVq,hor,hwr⟩:=hr.live q _ hq
 cases hor with
 |var b ccs _ _ hb hl hc hS=>
 obtain⟨z1,z2⟩:=Wa hz
 have hbl:b<c.w.heap.size:=(Array.getElem?_eq_some_iff.1 hb).1
 obtain⟨S',hS'⟩:∃S':Nat→Nat→Prop,S'=fun b' off=>c.S b' off∨(b'=b∧off<cs.length):=⟨_,rfl⟩
 obtain⟨V',hV'⟩:∃V':Nat→Option Value,V'=fun o=>if o=q then none else c.V o:=⟨_,rfl⟩
 have hVo:∀o,o≠q→V' o=c.V o:=fun o ho=>by rw[hV'];simp[ho]
 have hVn:V' q=none:=by rw[hV'];simp
 have hle:c.le ⟨c.w,S',V',c.K⟩:=⟨fun b' o hs=>⟨by rw[hS'];exact .inl hs,rfl⟩,fun _ h=>h,fun o _=>by
  by_cases e:o=q
  ·subst e;exact .inr (.inl hVn)
  exact .inl (hVo o e)⟩
 have cell:∀(i:Nat) (u:Value),ccs[i]?=some u→c.w.cell? ⟨b,i,none⟩=some u:=fun i u hi=>by
  simp[World.cell?,hb,hi]
 refine⟨⟨c.w,S',V',c.K⟩,rfl,?_,fun v off hv=>?_⟩
 ·exact {
   defers:=hr.defers,size:=hr.size,tmps:=fun i=>(hr.tmps i).mono hle
   live:=fun o ob ho=>by
    replace ho:Qb (J8 q st.H) o=some ob:=ho
    rw[XF] at ho
    by_cases e:o=q
    ·rw[if_pos e] at ho;cases ho
    rw[if_neg e] at ho;obtain⟨hk,u,hu,hor',hwr'⟩:=hr.live o ob ho;refine⟨hk,u,(hVo o e).trans hu,hor'.ext (Bel.refl _) hle (fun b' hb' off hs=>?_),hwr'⟩;rw[hS'] at hs
    rcases hs with hs|⟨rfl,_⟩
    ·exact hs
    exact absurd (hr.apart o q u _ b' hu hVq hb' rfl) e
   dead:=fun o ho=>by
    replace ho:Qb (J8 q st.H) o=none:=ho
    rw[XF] at ho
    by_cases e:o=q
    ·subst e;exact hVn
    rw[if_neg e] at ho;exact(hVo o e).trans (hr.dead o ho)
   apart:=fun o o' u u' b' hu hu' hb1 hb2=>by
    by_cases e:o=q
    ·subst e;replace hu:V' o=some u:=hu;rw[hVn] at hu;cases hu
    by_cases e':o'=q
    ·subst e';replace hu':V' o'=some u':=hu';rw[hVn] at hu';cases hu'
    exact hr.apart o o' u u' b' ((hVo o e).symm.trans hu) ((hVo o' e').symm.trans hu') hb1 hb2
   ids:=hr.ids,nxB:=hr.nxB,kbs:=hr.kbs
   V0:=fun o hk=>by
    show Qa9 (E.V0 o) (V' o)
    by_cases e:o=q
    ·subst e;rw[hVn];exact .inr (.inl rfl)
    rw[hVo o e];exact hr.V0 o hk
   Ssz:=fun b' off hs=>by
    replace hs:S' b' off:=hs
    rw[hS'] at hs
    rcases hs with hs|⟨rfl,_⟩
    ·exact hr.Ssz b' off hs
    exact hbl
   os:=hr.os,tape:=hr.tape,output:=hr.output,drawn:=hr.drawn,grown:=hr.grown,frame:=hr.frame
   S0:=fun b' off hs=>⟨by show S' b' off;rw[hS'];exact .inl (hr.S0 b' off hs).1,(hr.S0 b' off hs).2⟩
   Snew:=fun b' off hs=>by
    replace hs:S' b' off:=hs
    rw[hS'] at hs
    rcases hs with hs|⟨rfl,_⟩
    ·exact hr.Snew b' off hs
    exact .inr (hwr b' rfl) }
 ·have hv:v=.pointer (some ⟨b,off,none⟩):=by
   cases hv with
   |fr _ _ h=>cases h
   |ptr _ _ _ _ hV=>exact hV b hVq
  subst hv
  refine .fr _ _ (.el b off (ys.drop off) (fun i=>(ccs[off+i]?).getD undef) (fun i x hi=>?_) (fun i x hi=>?_))
  all_goals
   rw[List.getElem?_drop] at hi
   have hlt:off+i<cs.length:=by have:=(List.getElem?_eq_some_iff.1 hi).1;omega
   have hcc:ccs[off+i]?=some ccs[off+i]:=Array.getElem?_eq_getElem (by omega)
  ·refine⟨by show S' b (off+i);rw[hS'];exact .inr ⟨rfl,hlt⟩,?_⟩
   show c.w.cell? ⟨b,off+i,none⟩=_
   rw[cell _ _ hcc,hcc];rfl
  ·rw[hcc]
   have:=(hc _ _ _ hcc (List.getElem?_eq_getElem hlt)).fz1 (z2 _ _ x (List.getElem?_eq_getElem hlt) hi)
   exact this.mono hle.S
theorem XH {P:Program}{o:Oper}{t:TypeId}{len:Nat}{parts:Array (Nat×Operand)}(ho:o.op=.buildSlice t len parts){e:TypeId}{n:Nat}[hT:JJ P t e n]{zs:List Value}[hZ:Xa P e zs]{ps:List (Nat×List AV)}(hp:Qe2 st parts.toList=some ps)
  {flat flat':List AV} (hf:Qd8 ((List.range len).map fun i=>(i*n,n)) ((List.replicate len zs).flatten.map .p) ps=some flat) (hz:fzs flat=some flat') (hn:zs.length=n) (h24:len*n≤16777216) (h25:len≤16777216) {es:List (List AV)} (he:QT n len flat'=es):PY P E o st (.sl es none):=by
 subst he;exact Q0 ho hp hf hz hn h24 h25
theorem QaU {t:List (Nat×AV)}{H:List (Nat×Qj)}{nx:Nat}(i q:Nat){off:Nat}{tt:TypeId}{cs ys:List AV}(hi:Qb t i=some (.ptr q off))(hq:Qb H q=some (.var tt cs))(hz:fzs cs=some ys){H':List (Nat×Qj)}(hH:J8 q H=H'):
  Kj E ⟨t,H,nx⟩ ⟨(i,.el (ys.drop off))::t,H',nx⟩:=fun c a hr=>by
 subst hH
 obtain⟨c',e1,hr',hv⟩:=hr.freeze hq hz;refine⟨c',e1,{ hr' with tmps:=fun j=>?_ }⟩
 show VR c' _ ((Qb ((i,AV.el (ys.drop off))::t) j).getD .bot)
 rw[Qn]
 split
 ·rename_i e
  subst e
  refine hv _ _ ?_
  have:=hr.tmps j
  rwa [show(⟨t,H,nx⟩:St).get j=.ptr q off by simp[St.get,hi]] at this
 exact hr'.tmps j
end
theorem QcA {k:Nat}:∀ {es:List (List AV)},(∀e∈es,e.length=k)→es.flatten.length=es.length*k
 |[],_=>by simp
 |e::es,h=>by
  rw[List.flatten_cons,List.length_append,h e (by simp),QcA (fun e he=>h e (by simp[he])),List.length_cons,Nat.add_mul,Nat.one_mul,Nat.add_comm]
section
variable {P:Program}{E:X7}{c:Cx}{a:Act}{st:St}
theorem Jk.give (hr:Jk E c a st){q:Nat}{ob:Qj}(hq:Qb st.H q=some ob){vq:Value}(hVq:c.V q=some vq)(C:Nat→Nat→Prop)(hC:∀b off,C b off→Xd vq=some b):
  ∃c':Cx,c'.w=c.w∧(∀b off,c'.S b off↔c.S b off∨C b off)∧c.le c'∧Jk E c' a ⟨st.t,J8 q st.H,st.nx⟩:=by
 obtain⟨hKq,vq',hVq',hor,hwr⟩:=hr.live q _ hq
 rw[hVq] at hVq';cases hVq'
 obtain⟨S',hS'⟩:∃S':Nat→Nat→Prop,S'=fun b' off=>c.S b' off∨C b' off:=⟨_,rfl⟩
 obtain⟨V',hV'⟩:∃V':Nat→Option Value,V'=fun o=>if o=q then none else c.V o:=⟨_,rfl⟩
 have hVo:∀o,o≠q→V' o=c.V o:=fun o ho=>by rw[hV'];simp[ho]
 have hVn:V' q=none:=by rw[hV'];simp
 have hle:c.le ⟨c.w,S',V',c.K⟩:=⟨fun b' o hs=>⟨by rw[hS'];exact .inl hs,rfl⟩,fun _ h=>h,fun o _=>by
  by_cases e:o=q
  ·subst e;exact .inr (.inl hVn)
  exact .inl (hVo o e)⟩
 refine⟨⟨c.w,S',V',c.K⟩,rfl,fun b off=>by show S' b off↔_;rw[hS'],hle,?_⟩
 exact {
   defers:=hr.defers,size:=hr.size,tmps:=fun i=>(hr.tmps i).mono hle
   live:=fun o ob ho=>by
    replace ho:Qb (J8 q st.H) o=some ob:=ho
    rw[XF] at ho
    by_cases e:o=q
    ·rw[if_pos e] at ho;cases ho
    rw[if_neg e] at ho;obtain⟨hk,u,hu,hor',hwr'⟩:=hr.live o ob ho;refine⟨hk,u,(hVo o e).trans hu,hor'.ext (Bel.refl _) hle (fun b' hb' off hs=>?_),hwr'⟩;rw[hS'] at hs
    rcases hs with hs|hs
    ·exact hs
    exact absurd (hr.apart o q u _ b' hu hVq hb' (hC b' off hs)) e
   dead:=fun o ho=>by
    replace ho:Qb (J8 q st.H) o=none:=ho
    rw[XF] at ho
    by_cases e:o=q
    ·subst e;exact hVn
    rw[if_neg e] at ho;exact(hVo o e).trans (hr.dead o ho)
   apart:=fun o o' u u' b' hu hu' hb1 hb2=>by
    by_cases e:o=q
    ·subst e;replace hu:V' o=some u:=hu;rw[hVn] at hu;cases hu
    by_cases e':o'=q
    ·subst e';replace hu':V' o'=some u':=hu';rw[hVn] at hu';cases hu'
    exact hr.apart o o' u u' b' ((hVo o e).symm.trans hu) ((hVo o' e').symm.trans hu') hb1 hb2
   ids:=hr.ids,nxB:=hr.nxB,kbs:=hr.kbs
   V0:=fun o hk=>by
    show Qa9 (E.V0 o) (V' o)
    by_cases e:o=q
    ·subst e;rw[hVn];exact .inr (.inl rfl)
    rw[hVo o e];exact hr.V0 o hk
   Ssz:=fun b' off hs=>by
    replace hs:S' b' off:=hs
    rw[hS'] at hs
    rcases hs with hs|hs
    ·exact hr.Ssz b' off hs
    exact hor.lt (hC b' off hs)
   os:=hr.os,tape:=hr.tape,output:=hr.output,drawn:=hr.drawn,grown:=hr.grown,frame:=hr.frame
   S0:=fun b' off hs=>⟨by show S' b' off;rw[hS'];exact .inl (hr.S0 b' off hs).1,(hr.S0 b' off hs).2⟩
   Snew:=fun b' off hs=>by
    replace hs:S' b' off:=hs
    rw[hS'] at hs
    rcases hs with hs|hs
    ·exact hr.Snew b' off hs
    ·exact .inr (hwr b' (hC b' off hs)) }
theorem JU {t:List (Nat×AV)}{H:List (Nat×Qj)}{nx:Nat}(i q:Nat){n:Nat}{te:TypeId}{k:Nat}{es:List (List AV)}(hi:Qb t i=some (.own q n))(hq:Qb H q=some (.arr te k es))(hn:n=es.length)(hk:es.all (okE k)=true)(hz:∀e∈es,fzs e=some e){H':List (Nat×Qj)}(hH:J8 q H=H'):
  Kj E ⟨t,H,nx⟩ ⟨(i,.sl es none)::t,H',nx⟩:=fun c a hr=>by
 subst hH hn
 obtain⟨hKq,vq,hVq,hor,hwr⟩:=hr.live q _ hq;obtain⟨c',e1,hS',hle,hr'⟩:=hr.give hq hVq (fun b off=>Xd vq=some b∧off<es.length*k) (fun b off h=>h.1);refine⟨c',e1,{ hr' with tmps:=fun j=>?_ }⟩
 show VR c' _ ((Qb ((i,AV.sl es none)::t) j).getD .bot)
 rw[Qn]
 split
 ·rename_i e
  subst e
  have hv:=hr.tmps j
  rw[show(⟨t,H,nx⟩:St).get j=.own q es.length by simp[St.get,hi]] at hv
  cases hor with
  |arr _ _ _ _ xs hown hek hx hSq=>
   obtain⟨A0,cap0,hA0⟩:=Y3 hown
   have hvq:a.tmps.getD j undef=vq:=by
    generalize a.tmps.getD j undef=v at hv
    cases hv with
    |fr _ _ h=>cases h
    |own _ _ _ hK hV=>rw[(hV A0 _ cap0 (by rw[hVq,hA0])).2 rfl,hA0]
   rw[hvq];refine .fr _ _ (FR.of_own (xs:=xs) (n:=es.length) (te:=te) (k:=k) (by rw[e1];exact hown) rfl hk (fun b hb off hoff=>(hS' b off).2 (.inr ⟨hb,hoff⟩)) (fun i u y hi hy=>?_))
   have hfz:∀x∈es.flatten,x.fz1=some x:=fun x hx=>by
    obtain⟨e,he,hxe⟩:=List.mem_flatten.1 hx;obtain⟨m,hm⟩:=List.getElem?_of_mem hxe;exact(Wa (hz e he)).2 m x x hm hm
   exact((hx i u y hi hy).fz1 (hfz y (List.mem_of_getElem? hy))).mono hle.S
 ·exact hr'.tmps j
theorem QbN {t:List (Nat×AV)}{H:List (Nat×Qj)}{nx:Nat}(hB:Nat.blt nx Qf=true)(i:Nat)(te:TypeId)(k:Nat)(h:Qb t i=some (.p (.slice none 0 0))):Kj E ⟨t,H,nx⟩ ⟨(i,.own nx 0)::t,(nx,.arr te k [])::H,nx+1⟩:=fun c a hr=>by
 obtain⟨c',e1,e2,hle,e4,e5,hr'⟩:=hr.new (Nat.le_of_ble_eq_true hB) (Bel.refl c.w) (.slice none 0 0) (.arr te k []) (fun c' e1 e2 hle=>.arr _ te k [] [] (World.ownsRow_nil _ 0 te k) (by simp) (by simp) (fun b hb=>by simp[Xd] at hb)) (fun b hb=>by simp[Xd] at hb);refine⟨c',e1,{ hr' with tmps:=fun j=>?_ }⟩
 have hj:=hr'.tmps j
 show VR c' _ ((Qb ((i,AV.own nx 0)::t) j).getD .bot)
 rw[Qn]
 split
 ·rename_i e
  subst e
  have hj:VR c' _ ((Qb t j).getD .bot):=hj
  rw[h] at hj
  have hp:a.tmps.getD j undef=.slice none 0 0:=hj.p_inv
  rw[hp];refine .own _ _ _ e4 (fun A n' cap hh=>?_);rw[show c'.V nx=some (.slice none 0 0) from e5] at hh
  cases hh
  exact⟨Nat.le_refl _,fun _=>rfl⟩
 ·exact hj
theorem Jk.append_own (hr:Jk E c a st){q:Nat}{t te:TypeId}{k bytes:Nat}[hT:QaZ P t te k bytes](ty:TypeId){es es':List (List AV)}(hq:Qb st.H q=some (.arr te k es)){v sv:Value}(hv:VR c v (.own q es.length))(hs:FR c.w c.S sv (.sl es' none))
  (hk':es'.all (okE k)=true) (hb:(es.length+es'.length)*bytes≤140737488355328) (h63:es.length+es'.length≤9223372036854775807) :
  ∃(v':Value) (c':Cx),(Builtin.append_ #[t,t] ty #[v,sv]).run P c.w=.ok v' c'.w∧Jk E c' a (st.set q (.arr te k (es++es')))∧VR c' v' (.own q (es.length+es'.length)):=by
 obtain⟨hkq,v0,hv0,hor,hwr⟩:=hr.live q _ hq;obtain⟨A,cc,rfl,news,hn1,hn2,hn3,hn4⟩:=hs.news hk'
 cases hor with
 |arr _ _ _ _ xs hown hek hxs hS=>
  obtain⟨A0,cap0,hA0⟩:=Y3 hown
  have hvv:v=v0:=by
   cases hv with
   |fr _ _ h=>cases h
   |own _ _ _ hK hV=>rw[(hV A0 _ cap0 (by rw[hv0,hA0])).2 rfl,hA0]
  subst hvv
  have hE':∀e∈es',e.length=k:=fun e he=>by
   have:=List.all_eq_true.1 hk' e he
   simp only[okE,Bool.and_eq_true,beq_iff_eq] at this
   exact this.1
  obtain⟨v',w',r1,r2,r3,r4,r5,r6,r7,⟨A',cap',r8⟩,r9⟩:=W6 (P:=P) c.w (t:=t) ty hown hn1 hn2 hn4 hb h63
  have hlt:∀b,Xd v'=some b→b<w'.heap.size:=fun b hb=>WH r2 hb
  obtain⟨c',e1,e2,hle,e4,e5,hr'⟩:=hr.upd hq (w':=w') (S':=c.S) hv0 (.arr te k (es++es')) (v':=v') r3 r4 r5 r6
   (fun b hb hne=>by
    rcases r7 with ⟨_,e2⟩|⟨_,e2⟩
    ·exact e2 b hb hne
    exact e2 b hb)
   (fun b off hs=>⟨hs,by
    have hbl:=hr.Ssz b off hs
    rcases r7 with ⟨_,e2⟩|⟨_,e2⟩
    ·exact World.cell?_of_block (a:=⟨b,off,none⟩) (e2 b hbl (fun e=>hS b e off hs))
    exact World.cell?_of_block (a:=⟨b,off,none⟩) (e2 b hbl)⟩)
   (fun b off hs=>.inl hs)
   (by
    rcases r7 with ⟨e1,_⟩|⟨e1,_⟩
    ·exact .inl e1
    exact .inr (fun b hb=>by rw[e1] at hb;cases hb;exact Nat.le_refl _))
   (by
    rcases Nat.eq_zero_or_pos es'.length with h0|h0
    ·rw[r9 h0];exact .refl _
    exact .inr (.inr ⟨A0,es.length,cap0,A',_,cap',by rw[hA0],by rw[r8],by omega⟩))
   (fun c' e1 e2 hle=>.arr v' te k (es++es') (xs++news) (by rw[e1,List.length_append];exact r2) (fun e he=>by
     rcases List.mem_append.1 he with he|he
     ·exact hek e he
     exact hE' e he)
    (fun i u x hi hx=>by
     have hfl:=QcA hek
     rw[List.flatten_append] at hx
     rcases Nat.lt_or_ge i xs.length with h|h
     ·rw[List.getElem?_append_left h] at hi
      rw[List.getElem?_append_left (by rw[hfl,←hown.1];exact h)] at hx;exact(hxs i u x hi hx).mono hle
     rw[List.getElem?_append_right h] at hi;rw[List.getElem?_append_right (by rw[hfl,←hown.1];exact h),hfl,←hown.1] at hx
     exact .fr _ _ ((hn3 _ u x hi hx).mono hle.S))
    (fun b hb off hs=>by
     rw[e2] at hs
     rcases r7 with ⟨f1,_⟩|⟨f1,_⟩
     ·exact hS b (f1▸hb) off hs
     rw[f1] at hb;cases hb
     exact Nat.lt_irrefl _ (hr.Ssz _ _ hs)))
  refine⟨v',c',by rw[e1];exact r1,hr',.own _ _ _ e4 (fun A2 n2 cap2 hh=>?_)⟩;rw[e5] at hh
  have hh:v'=.slice A2 n2 cap2:=Option.some.inj hh
  rw[r8] at hh
  have hn2:es.length+es'.length=n2:=(Value.slice.inj hh).2.1
  exact⟨by omega,fun _=>by rw[r8,hh]⟩
variable {Q:Exit→St→Prop}{ops:Array Oper}{o:Oper}{rest:List Oper}{t:List (Nat×AV)}{H:List (Nat×Qj)}{nx N d:Nat}{w:Bool}
theorem XA (hN:E.N=N){sx x:Operand}{tt:TypeId}(ho:o.op=.call { callee:=.builtin .append,args := #[sx,x],argTypes := #[tt,tt] }){te:TypeId}{k bytes:Nat}[hT:QaZ P tt te k bytes]
  {es:List (List AV)} {q n:Nat} (hs:X4 ⟨t,H,nx⟩ sx=some (.own q n)) (hq:Qb H q=some (.arr te k es)) (hn:n=es.length) {ax:AV} (hx:X4 ⟨t,H,nx⟩ x=some ax) {es':List (List AV)} (hax:QqG ax=some es')
  (hk':es'.all (okE k)=true) (hb:(es.length+es'.length)*bytes≤140737488355328∧es.length+es'.length≤9223372036854775807) (hg:Qo ops ⟨t,H,nx⟩ o=some w) (hw:w=true) (hd:o.dst=some d) (hdN:Nat.blt d N=true)
  (h:Q3 P E ops rest Q ⟨(d,.own q (n+es'.length))::t,(q,.arr te k (es++es'))::H,nx⟩):Q3 P E ops (o::rest) Q ⟨t,H,nx⟩:=by
 subst hw hn
 refine Qbr (.own q (es.length+es'.length)) (St.set ⟨t,H,nx⟩ q (.arr te k (es++es'))) hg (dlt hN hd hdN) (fun c a hr=>?_) (by rw[hd];exact h)
 have hvs:=hr.ev sx
 rw[QZ hs] at hvs
 have hvx:=hr.ev x
 rw[QZ hx] at hvx;obtain⟨v',c',h1,h2,h3⟩:=hr.append_own (P:=P) (t:=tt) o.type hq hvs (Qkf hvx hax) hk' hb.1 hb.2;exact⟨v',c',by simp[execOp,ho,resolve,invoke,builtin,h1],h2,h3⟩
end
section
variable {P:Program}{E:X7}{Q:Exit→St→Prop}{ops:Array Oper}{o:Oper}{rest:List Oper}{t:List (Nat×AV)}{H:List (Nat×Qj)}{nx N d:Nat}{st:St}{K:St→Prop}{w:Bool}{x:Operand}{r:AV}
theorem zD {id:Nat}{l:List Oper}(n:Nat)(h:JE P E l.toArray (Q3 P E l.toArray (l.drop n) Q) (l.take n) st)(hm:P.follows .mixedOrders=true:=by kernel_rfl)(hB:Region.lexTailB .any l.toArray n=true:=by kernel_rfl):Y1 P E (.region id l.toArray true) Q st:=Qrb n hm hB h
theorem JC {k:IntKind}{a b:Int}(h:a=b:=by dsimp only;omega):some (AV.p (.int k a))=some (AV.p (.int k b)):=Y5 h
theorem zN {y:Code}(h:Y1 P E y Q st):Q3 P E ops [] (QfO (Y1 P E y Q) Q) st:=Qc h
theorem zG {id:Nat}{l:List Oper}{y:Code}(h:Q3 P E l.toArray l (QfO (Y1 P E y Q) Q) st):Y1 P E (.seq (.region id l.toArray false) y) Q st:=Qhh (Qin h)
theorem zM {x:Operand}{r:AV}(h:Q3 P E ops rest Q ⟨(d,r)::t,H,nx⟩)(ho:o.op=.move x:=by rfl)(hN:E.N=N:=by assumption)(hx:X4 ⟨t,H,nx⟩ x=some r:=by rfl)(hg:Qo ops ⟨t,H,nx⟩ o=some true:=by rfl)(hd:o.dst=some d:=by rfl)(hdN:Nat.blt d N=true:=by rfl):Q3 P E ops (o::rest) Q ⟨t,H,nx⟩:=QcC hN (Qgp ho hx) hg rfl hd hdN h
theorem zS {x:Operand}{r:AV}(h:Q3 P E ops rest Q ⟨(d,r)::t,H,nx⟩)(ho:o.op=.assign x:=by rfl)(hN:E.N=N:=by assumption)(hx:X4 ⟨t,H,nx⟩ x=some r:=by rfl)(hg:Qo ops ⟨t,H,nx⟩ o=some true:=by rfl)(hd:o.dst=some d:=by rfl)(hdN:Nat.blt d N=true:=by rfl):Q3 P E ops (o::rest) Q ⟨t,H,nx⟩:=QcC hN (JO ho hx) hg rfl hd hdN h
theorem zP {x:AV}(hy:PY P E o ⟨t,H,nx⟩ x)(h:Q3 P E ops rest Q ⟨(d,x)::t,H,nx⟩)(hN:E.N=N:=by assumption)(hg:Qo ops ⟨t,H,nx⟩ o=some true:=by rfl)(hd:o.dst=some d:=by rfl)(hdN:Nat.blt d N=true:=by rfl):Q3 P E ops (o::rest) Q ⟨t,H,nx⟩:=QcC hN hy hg rfl hd hdN h
theorem zm {x:Operand}{r:AV}(h:JE P E ops K rest ⟨(d,r)::t,H,nx⟩)(ho:o.op=.move x:=by rfl)(hN:E.N=N:=by assumption)(hx:X4 ⟨t,H,nx⟩ x=some r:=by rfl)(hg:Qo ops ⟨t,H,nx⟩ o=some true:=by rfl)(hd:o.dst=some d:=by rfl)(hdN:Nat.blt d N=true:=by rfl):JE P E ops K (o::rest) ⟨t,H,nx⟩:=Xh hN (Qgp ho hx) hg rfl hd hdN h
theorem zp {x:AV}(hy:PY P E o ⟨t,H,nx⟩ x)(h:JE P E ops K rest ⟨(d,x)::t,H,nx⟩)(hN:E.N=N:=by assumption)(hg:Qo ops ⟨t,H,nx⟩ o=some true:=by rfl)(hd:o.dst=some d:=by rfl)(hdN:Nat.blt d N=true:=by rfl):JE P E ops K (o::rest) ⟨t,H,nx⟩:=Xh hN hy hg rfl hd hdN h
theorem zR {ts:List Nat}{r res:AV}{st:St}(hr:r=res)(hQ:Q .ret st=((Xz st ts).fzt=some res):=by rfl)(h:(Xz st ts).fzt=some r:=by rfl):Y1 P E .ret Q st:=Qu (by rw[hQ,h,hr])
theorem zQ {ts:List Nat}{r res:AV}{st:St}(hr:r=res)(hQ:Q .ret st=((Xz st ts).fzt=some res):=by rfl)(h:(Xz st ts).fzt=some r:=by rfl):Q3 P E ops [] (QfO (Y1 P E .ret Q) Q) st:=Qc (Qu (by rw[hQ,h,hr]))
theorem zL {tt:TypeId}{x:Operand}{n:Nat}{row:Bool}{ax:AV}{cs:List AV}{r:AV}(h:Q3 P E ops rest Q ⟨(d,r)::t,H,nx⟩)(ho:o.op=.load tt x:=by rfl)(hN:E.N=N:=by assumption)(hT:XV P tt n row:=by infer_instance)(hx:X4 ⟨t,H,nx⟩ x=some ax:=by rfl)(hc:St.at_ ⟨t,H,nx⟩ ax=some cs:=by rfl)(hl:W7 row n cs=some r:=by rfl)(hn:Nat.blt 0 n=true:=by rfl)(hg:Qo ops ⟨t,H,nx⟩ o=some true:=by rfl)(hd:o.dst=some d:=by rfl)(hdN:Nat.blt d N=true:=by rfl):Q3 P E ops (o::rest) Q ⟨t,H,nx⟩:=QcC hN (Xc ho hx hc hl hn) hg rfl hd hdN h
theorem zl {tt:TypeId}{x:Operand}{n:Nat}{row:Bool}{ax:AV}{cs:List AV}{r:AV}(h:JE P E ops K rest ⟨(d,r)::t,H,nx⟩)(ho:o.op=.load tt x:=by rfl)(hN:E.N=N:=by assumption)(hT:XV P tt n row:=by infer_instance)(hx:X4 ⟨t,H,nx⟩ x=some ax:=by rfl)(hc:St.at_ ⟨t,H,nx⟩ ax=some cs:=by rfl)(hl:W7 row n cs=some r:=by rfl)(hn:Nat.blt 0 n=true:=by rfl)(hg:Qo ops ⟨t,H,nx⟩ o=some true:=by rfl)(hd:o.dst=some d:=by rfl)(hdN:Nat.blt d N=true:=by rfl):JE P E ops K (o::rest) ⟨t,H,nx⟩:=Xh hN (Xc ho hx hc hl hn) hg rfl hd hdN h
theorem zF {s f:Nat}{x:Operand}{off n:Nat}{row:Bool}{ax c:AV}{cs:List AV}{r:AV}(h:Q3 P E ops rest Q ⟨(d,r)::t,H,nx⟩)(ho:o.op=.fieldAddr s x f:=by rfl)(hN:E.N=N:=by assumption)(hT:Q4 P s f off n row:=by infer_instance)(hx:X4 ⟨t,H,nx⟩ x=some ax:=by rfl)(hc:St.at_ ⟨t,H,nx⟩ ax=some (c::cs):=by rfl)(hm:moved off ax=some r:=by rfl)(hg:Qo ops ⟨t,H,nx⟩ o=some true:=by rfl)(hd:o.dst=some d:=by rfl)(hdN:Nat.blt d N=true:=by rfl):Q3 P E ops (o::rest) Q ⟨t,H,nx⟩:=QcC hN (Xj ho hx hc hm) hg rfl hd hdN h
theorem zf {s f:Nat}{x:Operand}{off n:Nat}{row:Bool}{ax c:AV}{cs:List AV}{r:AV}(h:JE P E ops K rest ⟨(d,r)::t,H,nx⟩)(ho:o.op=.fieldAddr s x f:=by rfl)(hN:E.N=N:=by assumption)(hT:Q4 P s f off n row:=by infer_instance)(hx:X4 ⟨t,H,nx⟩ x=some ax:=by rfl)(hc:St.at_ ⟨t,H,nx⟩ ax=some (c::cs):=by rfl)(hm:moved off ax=some r:=by rfl)(hg:Qo ops ⟨t,H,nx⟩ o=some true:=by rfl)(hd:o.dst=some d:=by rfl)(hdN:Nat.blt d N=true:=by rfl):JE P E ops K (o::rest) ⟨t,H,nx⟩:=Xh hN (Xj ho hx hc hm) hg rfl hd hdN h
theorem zE {x:AV}(h:Q3 P E ops rest Q ⟨(d,x)::t,H,nx⟩)(hN:E.N=N:=by assumption)(hy:PY P E o ⟨t,H,nx⟩ x:=by first|exact QrO rfl rfl|exact Qgl rfl rfl|exact QkN rfl rfl)(hg:Qo ops ⟨t,H,nx⟩ o=some true:=by rfl)(hd:o.dst=some d:=by rfl)(hdN:Nat.blt d N=true:=by rfl):Q3 P E ops (o::rest) Q ⟨t,H,nx⟩:=QcC hN hy hg rfl hd hdN h
theorem zB {op:BinOp}{tt ty:TypeId}{x y:Operand}{u u' v:Value}(h:Q3 P E ops rest Q ⟨(d,.p v)::t,H,nx⟩)(ho:o.op=.binOp op tt x y ty:=by rfl)(hN:E.N=N:=by assumption)(hx:X4 ⟨t,H,nx⟩ x=some (.p u):=by rfl)(hy:X4 ⟨t,H,nx⟩ y=some (.p u'):=by rfl)(hb:QaG P tt op u u' v:=by infer_instance)(hg:Qo ops ⟨t,H,nx⟩ o=some true:=by rfl)(hd:o.dst=some d:=by rfl)(hdN:Nat.blt d N=true:=by rfl):Q3 P E ops (o::rest) Q ⟨t,H,nx⟩:=QcC hN (QjO ho hx hy) hg rfl hd hdN h
theorem zC {tt:TypeId}{x y:Operand}{n:Nat}{row:Bool}{q off:Nat}{t':TypeId}{cs:List AV}{ay:AV}{ys cs':List AV}(h:Q3 P E ops rest Q ⟨t,(q,.var t' cs')::H,nx⟩)(ho:o.op=.store tt x y:=by rfl)(hT:XV P tt n row:=by infer_instance)(hx:X4 ⟨t,H,nx⟩ x=some (.ptr q off):=by rfl)(hq:Qb H q=some (.var t' cs):=by rfl)(hy:X4 ⟨t,H,nx⟩ y=some ay:=by rfl)(hc:St.cells1 ⟨t,H,nx⟩ ay=some ys:=by rfl)(hn:ys.length=n:=by rfl)(hle:off+ys.length≤cs.length:=by exact Nat.le_of_ble_eq_true rfl)(hg:Qo ops ⟨t,H,nx⟩ o=some true:=by rfl)(hd:o.dst=none:=by rfl)(hs:Yq cs off ys=cs':=by rfl):Q3 P E ops (o::rest) Q ⟨t,H,nx⟩:=WE ho hx hq hy hc hn hle hg rfl hd hs h
theorem zX {tt:TypeId}{x:Operand}{ax:AV}{cs:List AV}(h:Q3 P E ops rest Q ⟨(d,.ptr nx 0)::t,(nx,.var tt cs)::H,nx+1⟩)(hN:E.N=N:=by assumption)(hB:Nat.blt nx Qf=true:=by rfl)(ho:o.op=.box tt x:=by rfl)(hx:X4 ⟨t,H,nx⟩ x=some ax:=by rfl)(hc:St.cells1 ⟨t,H,nx⟩ ax=some cs:=by rfl)(hg:Qo ops ⟨t,H,nx⟩ o=some true:=by rfl)(hd:o.dst=some d:=by rfl)(hdN:Nat.blt d N=true:=by rfl):Q3 P E ops (o::rest) Q ⟨t,H,nx⟩:=QxS hN hB ho hx hc hg rfl hd hdN h
theorem zO {tt:TypeId}{zs:List Value}(h:Q3 P E ops rest Q ⟨(d,.ptr nx 0)::t,(nx,.var tt (zs.map .p))::H,nx+1⟩)(hN:E.N=N:=by assumption)(hB:Nat.blt nx Qf=true:=by rfl)(ho:o.op=.alloc tt:=by rfl)(hz:Xa P tt zs:=by infer_instance)(hg:Qo ops ⟨t,H,nx⟩ o=some true:=by rfl)(hd:o.dst=some d:=by rfl)(hdN:Nat.blt d N=true:=by rfl):Q3 P E ops (o::rest) Q ⟨t,H,nx⟩:=Qva hN hB ho hg rfl hd hdN h
theorem zT {y:Code}(h:Y1 P E y Q ⟨(d,r)::t,H,nx⟩)(ho:o.op=.assign x:=by rfl)(hN:E.N=N:=by assumption)(hx:X4 ⟨t,H,nx⟩ x=some r:=by rfl)(hg:Qo ops ⟨t,H,nx⟩ o=some true:=by rfl)(hd:o.dst=some d:=by rfl)(hdN:Nat.blt d N=true:=by rfl):Q3 P E ops [o] (QfO (Y1 P E y Q) Q) ⟨t,H,nx⟩:=zS (zN h) ho hN hx hg hd hdN
theorem zW {y:Code}(h:Y1 P E y Q st):Y1 P E .skip (QfO (Y1 P E y Q) Q) st:=QM h
theorem uP {v:AV}(hw:w=true)(hy:PY P E o ⟨t,H,nx⟩ v)(h:Q3 P E ops rest Q ⟨(d,v)::t,H,nx⟩)(hN:E.N=N:=by assumption)(hg:Qo ops ⟨t,H,nx⟩ o=some w:=by rfl)(hd:o.dst=some d:=by rfl)(hdN:Nat.blt d N=true:=by rfl):Q3 P E ops (o::rest) Q ⟨t,H,nx⟩:=QcC hN hy hg hw hd hdN h
theorem vP {v:AV}(hw:w=true)(hy:PY P E o ⟨t,H,nx⟩ v)(h:JE P E ops K rest ⟨(d,v)::t,H,nx⟩)(hN:E.N=N:=by assumption)(hg:Qo ops ⟨t,H,nx⟩ o=some w:=by rfl)(hd:o.dst=some d:=by rfl)(hdN:Nat.blt d N=true:=by rfl):JE P E ops K (o::rest) ⟨t,H,nx⟩:=Xh hN hy hg hw hd hdN h
theorem zq {thn els:Code}{b:Bool}(h1:b=true→Y1 P E thn Q st)(h2:b=false→Y1 P E els Q st)(hc:X4 st x=some (.p (.bool b)):=by rfl):Y1 P E (.cond x thn els) Q st:=Qw3 hc h1 h2
theorem zc (i:Nat){b:Bool}(h1:b=true→Q3 P E ops rest Q ⟨t,H,nx⟩)(h2:b=false→Q3 P E ops rest Q ⟨t,H,nx⟩)(hl:Qb t i=some (.p (.bool b)):=by rfl):Q3 P E ops rest Q ⟨t,H,nx⟩:=Qwu i hl h1 h2
theorem zd (i:Nat){b:Bool}(h1:b=true→JE P E ops K rest ⟨t,H,nx⟩)(h2:b=false→JE P E ops K rest ⟨t,H,nx⟩)(hl:Qb t i=some (.p (.bool b)):=by rfl):JE P E ops K rest ⟨t,H,nx⟩:=Qwp i hl h1 h2
theorem Jq {α:Type}{code:Code}(i:Nat){f:α→List AV}{l:List α}{tk:Option Nat}(h:Qb st.t i=some (.sl (l.map f) tk))(hk:l.length≤2 ^ 63-1→Y1 P E code Q st):Y1 P E code Q st:=QxA i h fun hl=>hk (by rw[List.length_map] at hl;exact hl)
end
section
variable {α β:Type}{a a' b b' c c' d d' e e' f f':α}{m m' n n' o o' p p' q q' r r':β}{P:Prop}
theorem X2 (h:P)(h1:a=a':=by rfl)(k1:m=m':=by rfl):a=a'∧m=m'∧P:=⟨h1,k1,h⟩
theorem Yw (h:P)(h1:a=a':=by rfl)(k1:m=m':=by rfl)(h2:b=b':=by rfl)(k2:n=n':=by rfl):a=a'∧m=m'∧b=b'∧n=n'∧P:=⟨h1,k1,h2,k2,h⟩
theorem YG (h:P)(h1:a=a':=by rfl)(k1:m=m':=by rfl)(h2:b=b':=by rfl)(k2:n=n':=by rfl)(h3:c=c':=by rfl)(k3:o=o':=by rfl):a=a'∧m=m'∧b=b'∧n=n'∧c=c'∧o=o'∧P:=⟨h1,k1,h2,k2,h3,k3,h⟩
theorem Ks (h:P)(h1:a=a':=by rfl)(k1:m=m':=by rfl)(h2:b=b':=by rfl)(k2:n=n':=by rfl)(h3:c=c':=by rfl)(k3:o=o':=by rfl)(h4:d=d':=by rfl)(k4:p=p':=by rfl):a=a'∧m=m'∧b=b'∧n=n'∧c=c'∧o=o'∧d=d'∧p=p'∧P:=⟨h1,k1,h2,k2,h3,k3,h4,k4,h⟩
end
section
variable {P:Program}{E:X7}{Q:Exit→St→Prop}{ops:Array Oper}{o:Oper}{rest:List Oper}{t:List (Nat×AV)}{H:List (Nat×Qj)}{nx N d:Nat}{K:St→Prop}{w:Bool}
theorem kM {x:Operand}{r:AV}(h:Q3 P E ops rest Q ⟨(d,r)::t,H,nx⟩)(ho:o.op=.move x:=by rfl)(hN:E.N=N:=by assumption)(hx_:X4 ⟨t,H,nx⟩ x=some r:=by rfl)(hg:Qo ops ⟨t,H,nx⟩ o=some w:=by rfl)(hw:w=true:=by first|rfl|exact XT ‹_›|exact X3 ‹_›|exact XT (m0 ‹_›)|exact X3 (m1 ‹_›)|exact XT (n0 ‹_›)|exact X3 (n1 ‹_›))(hd:o.dst=some d:=by rfl)(hdN:Nat.blt d N=true:=by rfl):Q3 P E ops (o::rest) Q ⟨t,H,nx⟩:=QcC hN (Qgp ho hx_) hg hw hd hdN h
theorem kS {x:Operand}{r:AV}(h:Q3 P E ops rest Q ⟨(d,r)::t,H,nx⟩)(ho:o.op=.assign x:=by rfl)(hN:E.N=N:=by assumption)(hx_:X4 ⟨t,H,nx⟩ x=some r:=by rfl)(hg:Qo ops ⟨t,H,nx⟩ o=some w:=by rfl)(hw:w=true:=by first|rfl|exact XT ‹_›|exact X3 ‹_›|exact XT (m0 ‹_›)|exact X3 (m1 ‹_›)|exact XT (n0 ‹_›)|exact X3 (n1 ‹_›))(hd:o.dst=some d:=by rfl)(hdN:Nat.blt d N=true:=by rfl):Q3 P E ops (o::rest) Q ⟨t,H,nx⟩:=QcC hN (JO ho hx_) hg hw hd hdN h
theorem kL {tt n:Nat}{row:Bool}{x:Operand}{ax r:AV}{cs:List AV}(h:Q3 P E ops rest Q ⟨(d,r)::t,H,nx⟩)(ho:o.op=.load tt x:=by rfl)(hN:E.N=N:=by assumption)(hT:XV P tt n row:=by infer_instance)(hx_:X4 ⟨t,H,nx⟩ x=some ax:=by rfl)(hc:St.at_ ⟨t,H,nx⟩ ax=some cs:=by rfl)(hl:W7 row n cs=some r:=by rfl)(hn:Nat.blt 0 n=true:=by rfl)(hg:Qo ops ⟨t,H,nx⟩ o=some w:=by rfl)(hw:w=true:=by first|rfl|exact XT ‹_›|exact X3 ‹_›|exact XT (m0 ‹_›)|exact X3 (m1 ‹_›)|exact XT (n0 ‹_›)|exact X3 (n1 ‹_›))(hd:o.dst=some d:=by rfl)(hdN:Nat.blt d N=true:=by rfl):Q3 P E ops (o::rest) Q ⟨t,H,nx⟩:=QcC hN (Xc ho hx_ hc hl hn) hg hw hd hdN h
theorem kF {s f off n:Nat}{row:Bool}{x:Operand}{ax c r:AV}{cs:List AV}(h:Q3 P E ops rest Q ⟨(d,r)::t,H,nx⟩)(ho:o.op=.fieldAddr s x f:=by rfl)(hN:E.N=N:=by assumption)(hT:Q4 P s f off n row:=by infer_instance)(hx_:X4 ⟨t,H,nx⟩ x=some ax:=by rfl)(hc:St.at_ ⟨t,H,nx⟩ ax=some (c::cs):=by rfl)(hm:moved off ax=some r:=by rfl)(hg:Qo ops ⟨t,H,nx⟩ o=some w:=by rfl)(hw:w=true:=by first|rfl|exact XT ‹_›|exact X3 ‹_›|exact XT (m0 ‹_›)|exact X3 (m1 ‹_›)|exact XT (n0 ‹_›)|exact X3 (n1 ‹_›))(hd:o.dst=some d:=by rfl)(hdN:Nat.blt d N=true:=by rfl):Q3 P E ops (o::rest) Q ⟨t,H,nx⟩:=QcC hN (Xj ho hx_ hc hm) hg hw hd hdN h
theorem kB {op:BinOp}{tt ty:TypeId}{x y:Operand}{u u' v:Value}(h:Q3 P E ops rest Q ⟨(d,.p v)::t,H,nx⟩)(ho:o.op=.binOp op tt x y ty:=by rfl)(hN:E.N=N:=by assumption)(hx_:X4 ⟨t,H,nx⟩ x=some (.p u):=by rfl)(hy_:X4 ⟨t,H,nx⟩ y=some (.p u'):=by rfl)(hb:QaG P tt op u u' v:=by infer_instance)(hg:Qo ops ⟨t,H,nx⟩ o=some w:=by rfl)(hw:w=true:=by first|rfl|exact XT ‹_›|exact X3 ‹_›|exact XT (m0 ‹_›)|exact X3 (m1 ‹_›)|exact XT (n0 ‹_›)|exact X3 (n1 ‹_›))(hd:o.dst=some d:=by rfl)(hdN:Nat.blt d N=true:=by rfl):Q3 P E ops (o::rest) Q ⟨t,H,nx⟩:=QcC hN (QjO ho hx_ hy_) hg hw hd hdN h
theorem kA {tt ty:TypeId}{x y:Operand}{a b:Int}(h:Q3 P E ops rest Q ⟨(d,.p (.int .i64 (a+b)))::t,H,nx⟩)(ho:o.op=.binOp .add tt x y ty:=by rfl)(hN:E.N=N:=by assumption)(hx_:X4 ⟨t,H,nx⟩ x=some (.p (.int .i64 a)):=by rfl)(hy_:X4 ⟨t,H,nx⟩ y=some (.p (.int .i64 b)):=by rfl)(hr : -9223372036854775808≤a+b∧a+b≤9223372036854775807:=by omega)(hg:Qo ops ⟨t,H,nx⟩ o=some w:=by rfl)(hw:w=true:=by first|rfl|exact XT ‹_›|exact X3 ‹_›|exact XT (m0 ‹_›)|exact X3 (m1 ‹_›)|exact XT (n0 ‹_›)|exact X3 (n1 ‹_›))(hd:o.dst=some d:=by rfl)(hdN:Nat.blt d N=true:=by rfl):Q3 P E ops (o::rest) Q ⟨t,H,nx⟩:=QcC hN (WM ho hx_ hy_ hr) hg hw hd hdN h
theorem kX {x:Operand}{i:Nat}{xs:List AV}{r:AV}(h:Q3 P E ops rest Q ⟨(d,r)::t,H,nx⟩)(ho:o.op=.extract x i:=by rfl)(hN:E.N=N:=by assumption)(hx_:X4 ⟨t,H,nx⟩ x=some (.tup xs):=by rfl)(hi:xs[i]?=some r:=by rfl)(hg:Qo ops ⟨t,H,nx⟩ o=some w:=by rfl)(hw:w=true:=by first|rfl|exact XT ‹_›|exact X3 ‹_›|exact XT (m0 ‹_›)|exact X3 (m1 ‹_›)|exact XT (n0 ‹_›)|exact X3 (n1 ‹_›))(hd:o.dst=some d:=by rfl)(hdN:Nat.blt d N=true:=by rfl):Q3 P E ops (o::rest) Q ⟨t,H,nx⟩:=QcC hN (QjU ho hx_ hi) hg hw hd hdN h
theorem kN {tt:TypeId}{x:Operand}{b:Bool}(h:Q3 P E ops rest Q ⟨(d,.p (.bool (!b)))::t,H,nx⟩)(ho:o.op=.unOp .not tt x:=by rfl)(hN:E.N=N:=by assumption)(hx_:X4 ⟨t,H,nx⟩ x=some (.p (.bool b)):=by rfl)(hg:Qo ops ⟨t,H,nx⟩ o=some w:=by rfl)(hw:w=true:=by first|rfl|exact XT ‹_›|exact X3 ‹_›|exact XT (m0 ‹_›)|exact X3 (m1 ‹_›)|exact XT (n0 ‹_›)|exact X3 (n1 ‹_›))(hd:o.dst=some d:=by rfl)(hdN:Nat.blt d N=true:=by rfl):Q3 P E ops (o::rest) Q ⟨t,H,nx⟩:=QcC hN (QvK ho hx_) hg hw hd hdN h
theorem k0 {q x y:Operand}{b:Bool}{r:AV}(h:Q3 P E ops rest Q ⟨(d,r)::t,H,nx⟩)(ho:o.op=.pick q x y:=by rfl)(hN:E.N=N:=by assumption)(hq_:X4 ⟨t,H,nx⟩ q=some (.p (.bool b)):=by rfl)(hb:b=false:=by first|rfl|assumption|exact m1 ‹_›|exact n1 ‹_›)(hy_:X4 ⟨t,H,nx⟩ y=some r:=by rfl)(hg:Qo ops ⟨t,H,nx⟩ o=some w:=by rfl)(hw:w=true:=by first|rfl|exact XT ‹_›|exact X3 ‹_›|exact XT (m0 ‹_›)|exact X3 (m1 ‹_›)|exact XT (n0 ‹_›)|exact X3 (n1 ‹_›))(hd:o.dst=some d:=by rfl)(hdN:Nat.blt d N=true:=by rfl):Q3 P E ops (o::rest) Q ⟨t,H,nx⟩:=QcC hN (XG ho hq_ hb hy_) hg hw hd hdN h
theorem k1 {q x y:Operand}{b:Bool}{r:AV}(h:Q3 P E ops rest Q ⟨(d,r)::t,H,nx⟩)(ho:o.op=.pick q x y:=by rfl)(hN:E.N=N:=by assumption)(hq_:X4 ⟨t,H,nx⟩ q=some (.p (.bool b)):=by rfl)(hb:b=true:=by first|rfl|assumption|exact m0 ‹_›|exact n0 ‹_›)(hx_:X4 ⟨t,H,nx⟩ x=some r:=by rfl)(hg:Qo ops ⟨t,H,nx⟩ o=some w:=by rfl)(hw:w=true:=by first|rfl|exact XT ‹_›|exact X3 ‹_›|exact XT (m0 ‹_›)|exact X3 (m1 ‹_›)|exact XT (n0 ‹_›)|exact X3 (n1 ‹_›))(hd:o.dst=some d:=by rfl)(hdN:Nat.blt d N=true:=by rfl):Q3 P E ops (o::rest) Q ⟨t,H,nx⟩:=QcC hN (XK ho hq_ hb hx_) hg hw hd hdN h
theorem kE {r:AV}(h:Q3 P E ops rest Q ⟨(d,r)::t,H,nx⟩)(hN:E.N=N:=by assumption)(hy:PY P E o ⟨t,H,nx⟩ r:=by first|exact QrO rfl rfl|exact Qgl rfl rfl|exact QkN rfl rfl)(hg:Qo ops ⟨t,H,nx⟩ o=some w:=by rfl)(hw:w=true:=by first|rfl|exact XT ‹_›|exact X3 ‹_›|exact XT (m0 ‹_›)|exact X3 (m1 ‹_›)|exact XT (n0 ‹_›)|exact X3 (n1 ‹_›))(hd:o.dst=some d:=by rfl)(hdN:Nat.blt d N=true:=by rfl):Q3 P E ops (o::rest) Q ⟨t,H,nx⟩:=QcC hN hy hg hw hd hdN h
theorem kK (h:Q3 P E ops rest Q ⟨(d,.p undef)::t,H,nx⟩)(hN:E.N=N:=by assumption)(hg:Qo ops ⟨t,H,nx⟩ o=some w:=by rfl)(hw:w=false:=by first|rfl|exact w01 ‹_›|exact w10 ‹_›|exact w01 (m1 ‹_›)|exact w10 (m0 ‹_›)|exact w01 (n1 ‹_›)|exact w10 (n0 ‹_›))(hd:o.dst=some d:=by rfl)(hdN:Nat.blt d N=true:=by rfl):Q3 P E ops (o::rest) Q ⟨t,H,nx⟩:=QwA hN hg hw hd hdN h
theorem jM {x:Operand}{r:AV}(h:JE P E ops K rest ⟨(d,r)::t,H,nx⟩)(ho:o.op=.move x:=by rfl)(hN:E.N=N:=by assumption)(hx_:X4 ⟨t,H,nx⟩ x=some r:=by rfl)(hg:Qo ops ⟨t,H,nx⟩ o=some w:=by rfl)(hw:w=true:=by first|rfl|exact XT ‹_›|exact X3 ‹_›|exact XT (m0 ‹_›)|exact X3 (m1 ‹_›)|exact XT (n0 ‹_›)|exact X3 (n1 ‹_›))(hd:o.dst=some d:=by rfl)(hdN:Nat.blt d N=true:=by rfl):JE P E ops K (o::rest) ⟨t,H,nx⟩:=Xh hN (Qgp ho hx_) hg hw hd hdN h
theorem jL {tt n:Nat}{row:Bool}{x:Operand}{ax r:AV}{cs:List AV}(h:JE P E ops K rest ⟨(d,r)::t,H,nx⟩)(ho:o.op=.load tt x:=by rfl)(hN:E.N=N:=by assumption)(hT:XV P tt n row:=by infer_instance)(hx_:X4 ⟨t,H,nx⟩ x=some ax:=by rfl)(hc:St.at_ ⟨t,H,nx⟩ ax=some cs:=by rfl)(hl:W7 row n cs=some r:=by rfl)(hn:Nat.blt 0 n=true:=by rfl)(hg:Qo ops ⟨t,H,nx⟩ o=some w:=by rfl)(hw:w=true:=by first|rfl|exact XT ‹_›|exact X3 ‹_›|exact XT (m0 ‹_›)|exact X3 (m1 ‹_›)|exact XT (n0 ‹_›)|exact X3 (n1 ‹_›))(hd:o.dst=some d:=by rfl)(hdN:Nat.blt d N=true:=by rfl):JE P E ops K (o::rest) ⟨t,H,nx⟩:=Xh hN (Xc ho hx_ hc hl hn) hg hw hd hdN h
theorem jF {s f off n:Nat}{row:Bool}{x:Operand}{ax c r:AV}{cs:List AV}(h:JE P E ops K rest ⟨(d,r)::t,H,nx⟩)(ho:o.op=.fieldAddr s x f:=by rfl)(hN:E.N=N:=by assumption)(hT:Q4 P s f off n row:=by infer_instance)(hx_:X4 ⟨t,H,nx⟩ x=some ax:=by rfl)(hc:St.at_ ⟨t,H,nx⟩ ax=some (c::cs):=by rfl)(hm:moved off ax=some r:=by rfl)(hg:Qo ops ⟨t,H,nx⟩ o=some w:=by rfl)(hw:w=true:=by first|rfl|exact XT ‹_›|exact X3 ‹_›|exact XT (m0 ‹_›)|exact X3 (m1 ‹_›)|exact XT (n0 ‹_›)|exact X3 (n1 ‹_›))(hd:o.dst=some d:=by rfl)(hdN:Nat.blt d N=true:=by rfl):JE P E ops K (o::rest) ⟨t,H,nx⟩:=Xh hN (Xj ho hx_ hc hm) hg hw hd hdN h
theorem jB {op:BinOp}{tt ty:TypeId}{x y:Operand}{u u' v:Value}(h:JE P E ops K rest ⟨(d,.p v)::t,H,nx⟩)(ho:o.op=.binOp op tt x y ty:=by rfl)(hN:E.N=N:=by assumption)(hx_:X4 ⟨t,H,nx⟩ x=some (.p u):=by rfl)(hy_:X4 ⟨t,H,nx⟩ y=some (.p u'):=by rfl)(hb:QaG P tt op u u' v:=by infer_instance)(hg:Qo ops ⟨t,H,nx⟩ o=some w:=by rfl)(hw:w=true:=by first|rfl|exact XT ‹_›|exact X3 ‹_›|exact XT (m0 ‹_›)|exact X3 (m1 ‹_›)|exact XT (n0 ‹_›)|exact X3 (n1 ‹_›))(hd:o.dst=some d:=by rfl)(hdN:Nat.blt d N=true:=by rfl):JE P E ops K (o::rest) ⟨t,H,nx⟩:=Xh hN (QjO ho hx_ hy_) hg hw hd hdN h
theorem jA {tt ty:TypeId}{x y:Operand}{a b:Int}(h:JE P E ops K rest ⟨(d,.p (.int .i64 (a+b)))::t,H,nx⟩)(ho:o.op=.binOp .add tt x y ty:=by rfl)(hN:E.N=N:=by assumption)(hx_:X4 ⟨t,H,nx⟩ x=some (.p (.int .i64 a)):=by rfl)(hy_:X4 ⟨t,H,nx⟩ y=some (.p (.int .i64 b)):=by rfl)(hr : -9223372036854775808≤a+b∧a+b≤9223372036854775807:=by omega)(hg:Qo ops ⟨t,H,nx⟩ o=some w:=by rfl)(hw:w=true:=by first|rfl|exact XT ‹_›|exact X3 ‹_›|exact XT (m0 ‹_›)|exact X3 (m1 ‹_›)|exact XT (n0 ‹_›)|exact X3 (n1 ‹_›))(hd:o.dst=some d:=by rfl)(hdN:Nat.blt d N=true:=by rfl):JE P E ops K (o::rest) ⟨t,H,nx⟩:=Xh hN (WM ho hx_ hy_ hr) hg hw hd hdN h
theorem jX {x:Operand}{i:Nat}{xs:List AV}{r:AV}(h:JE P E ops K rest ⟨(d,r)::t,H,nx⟩)(ho:o.op=.extract x i:=by rfl)(hN:E.N=N:=by assumption)(hx_:X4 ⟨t,H,nx⟩ x=some (.tup xs):=by rfl)(hi:xs[i]?=some r:=by rfl)(hg:Qo ops ⟨t,H,nx⟩ o=some w:=by rfl)(hw:w=true:=by first|rfl|exact XT ‹_›|exact X3 ‹_›|exact XT (m0 ‹_›)|exact X3 (m1 ‹_›)|exact XT (n0 ‹_›)|exact X3 (n1 ‹_›))(hd:o.dst=some d:=by rfl)(hdN:Nat.blt d N=true:=by rfl):JE P E ops K (o::rest) ⟨t,H,nx⟩:=Xh hN (QjU ho hx_ hi) hg hw hd hdN h
theorem jN {tt:TypeId}{x:Operand}{b:Bool}(h:JE P E ops K rest ⟨(d,.p (.bool (!b)))::t,H,nx⟩)(ho:o.op=.unOp .not tt x:=by rfl)(hN:E.N=N:=by assumption)(hx_:X4 ⟨t,H,nx⟩ x=some (.p (.bool b)):=by rfl)(hg:Qo ops ⟨t,H,nx⟩ o=some w:=by rfl)(hw:w=true:=by first|rfl|exact XT ‹_›|exact X3 ‹_›|exact XT (m0 ‹_›)|exact X3 (m1 ‹_›)|exact XT (n0 ‹_›)|exact X3 (n1 ‹_›))(hd:o.dst=some d:=by rfl)(hdN:Nat.blt d N=true:=by rfl):JE P E ops K (o::rest) ⟨t,H,nx⟩:=Xh hN (QvK ho hx_) hg hw hd hdN h
theorem j0 {q x y:Operand}{b:Bool}{r:AV}(h:JE P E ops K rest ⟨(d,r)::t,H,nx⟩)(ho:o.op=.pick q x y:=by rfl)(hN:E.N=N:=by assumption)(hq_:X4 ⟨t,H,nx⟩ q=some (.p (.bool b)):=by rfl)(hb:b=false:=by first|rfl|assumption|exact m1 ‹_›|exact n1 ‹_›)(hy_:X4 ⟨t,H,nx⟩ y=some r:=by rfl)(hg:Qo ops ⟨t,H,nx⟩ o=some w:=by rfl)(hw:w=true:=by first|rfl|exact XT ‹_›|exact X3 ‹_›|exact XT (m0 ‹_›)|exact X3 (m1 ‹_›)|exact XT (n0 ‹_›)|exact X3 (n1 ‹_›))(hd:o.dst=some d:=by rfl)(hdN:Nat.blt d N=true:=by rfl):JE P E ops K (o::rest) ⟨t,H,nx⟩:=Xh hN (XG ho hq_ hb hy_) hg hw hd hdN h
theorem j1 {q x y:Operand}{b:Bool}{r:AV}(h:JE P E ops K rest ⟨(d,r)::t,H,nx⟩)(ho:o.op=.pick q x y:=by rfl)(hN:E.N=N:=by assumption)(hq_:X4 ⟨t,H,nx⟩ q=some (.p (.bool b)):=by rfl)(hb:b=true:=by first|rfl|assumption|exact m0 ‹_›|exact n0 ‹_›)(hx_:X4 ⟨t,H,nx⟩ x=some r:=by rfl)(hg:Qo ops ⟨t,H,nx⟩ o=some w:=by rfl)(hw:w=true:=by first|rfl|exact XT ‹_›|exact X3 ‹_›|exact XT (m0 ‹_›)|exact X3 (m1 ‹_›)|exact XT (n0 ‹_›)|exact X3 (n1 ‹_›))(hd:o.dst=some d:=by rfl)(hdN:Nat.blt d N=true:=by rfl):JE P E ops K (o::rest) ⟨t,H,nx⟩:=Xh hN (XK ho hq_ hb hx_) hg hw hd hdN h
theorem jE {r:AV}(h:JE P E ops K rest ⟨(d,r)::t,H,nx⟩)(hN:E.N=N:=by assumption)(hy:PY P E o ⟨t,H,nx⟩ r:=by first|exact QrO rfl rfl|exact Qgl rfl rfl|exact QkN rfl rfl)(hg:Qo ops ⟨t,H,nx⟩ o=some w:=by rfl)(hw:w=true:=by first|rfl|exact XT ‹_›|exact X3 ‹_›|exact XT (m0 ‹_›)|exact X3 (m1 ‹_›)|exact XT (n0 ‹_›)|exact X3 (n1 ‹_›))(hd:o.dst=some d:=by rfl)(hdN:Nat.blt d N=true:=by rfl):JE P E ops K (o::rest) ⟨t,H,nx⟩:=Xh hN hy hg hw hd hdN h
theorem jK (h:JE P E ops K rest ⟨(d,.p undef)::t,H,nx⟩)(hN:E.N=N:=by assumption)(hg:Qo ops ⟨t,H,nx⟩ o=some w:=by rfl)(hw:w=false:=by first|rfl|exact w01 ‹_›|exact w10 ‹_›|exact w01 (m1 ‹_›)|exact w10 (m0 ‹_›)|exact w01 (n1 ‹_›)|exact w10 (n0 ‹_›))(hd:o.dst=some d:=by rfl)(hdN:Nat.blt d N=true:=by rfl):JE P E ops K (o::rest) ⟨t,H,nx⟩:=QwT hN hg hw hd hdN h
theorem kI {x:Operand}{ax c:AV}{cs:List AV}(h:Q3 P E ops rest Q ⟨(d,ax)::t,H,nx⟩)(ho:o.op=.nilCheck x:=by rfl)(hN:E.N=N:=by assumption)(hx_:X4 ⟨t,H,nx⟩ x=some ax:=by rfl)(hc:St.at_ ⟨t,H,nx⟩ ax=some (c::cs):=by rfl)(hg:Qo ops ⟨t,H,nx⟩ o=some w:=by rfl)(hw:w=true:=by first|rfl|exact XT ‹_›|exact X3 ‹_›|exact XT (m0 ‹_›)|exact X3 (m1 ‹_›)|exact XT (n0 ‹_›)|exact X3 (n1 ‹_›))(hd:o.dst=some d:=by rfl)(hdN:Nat.blt d N=true:=by rfl):Q3 P E ops (o::rest) Q ⟨t,H,nx⟩:=QcC hN (Wd ho hx_ hc) hg hw hd hdN h
theorem jI {x:Operand}{ax c:AV}{cs:List AV}(h:JE P E ops K rest ⟨(d,ax)::t,H,nx⟩)(ho:o.op=.nilCheck x:=by rfl)(hN:E.N=N:=by assumption)(hx_:X4 ⟨t,H,nx⟩ x=some ax:=by rfl)(hc:St.at_ ⟨t,H,nx⟩ ax=some (c::cs):=by rfl)(hg:Qo ops ⟨t,H,nx⟩ o=some w:=by rfl)(hw:w=true:=by first|rfl|exact XT ‹_›|exact X3 ‹_›|exact XT (m0 ‹_›)|exact X3 (m1 ‹_›)|exact XT (n0 ‹_›)|exact X3 (n1 ‹_›))(hd:o.dst=some d:=by rfl)(hdN:Nat.blt d N=true:=by rfl):JE P E ops K (o::rest) ⟨t,H,nx⟩:=Xh hN (Wd ho hx_ hc) hg hw hd hdN h
theorem kT {st:St}{x:Operand}{thn els:Code}{b:Bool}(h:Y1 P E thn Q st)(hc:X4 st x=some (.p (.bool b)):=by rfl)(hb:b=true:=by first|rfl|assumption|exact m0 ‹_›|exact n0 ‹_›):Y1 P E (.cond x thn els) Q st:=Qww hc hb h
theorem kU {st:St}{x:Operand}{thn els:Code}{b:Bool}(h:Y1 P E els Q st)(hc:X4 st x=some (.p (.bool b)):=by rfl)(hb:b=false:=by first|rfl|assumption|exact m1 ‹_›|exact n1 ‹_›):Y1 P E (.cond x thn els) Q st:=Qt1 hc hb h
end
structure Bx (q:Prop):Prop where
 out:q
theorem Yy {p q:Prop}(k:q)(h:Bx q→p:=by intro hq;(first|refine Qhh ?_|refine Qin ?_|refine kM ?_|refine kS ?_|refine zN ?_|refine jM ?_|refine kA ?_|refine kB ?_|refine kL ?_|refine jL ?_|refine kF ?_|refine jF ?_|refine kI ?_|refine jI ?_|refine k0 ?_|refine k1 ?_|refine kK ?_|refine jK ?_|refine jA ?_|refine jB ?_|refine kT ?_|refine kU ?_|refine zC ?_|refine QqT ?_|refine zW ?_|refine kX ?_|refine kN ?_|refine jX ?_|refine jN ?_|refine j0 ?_|refine j1 ?_|refine zP (QaS rfl rfl rfl) ?_|refine zO ?_|refine zX ?_|refine kE ?_|refine jE ?_|(refine Qc ?_;change Y1 _ _ _ _  _)|(refine QM ?_;change Y1 _ _ _ _  _)|(refine Qah ?_;change Y1 _ _ _ _  _)|(refine Qqz ?_;change Y1 _ _ _ _  _));exact hq.out):p:=h ⟨k⟩
theorem QR {p q:Prop}(k:q)(h:Bx q→p:=by intro hq;(iterate 2 (refine Yy ?_));exact hq.out):p:=h ⟨k⟩
theorem QI {p q:Prop}(k:q)(h:Bx q→p:=by intro hq;(iterate 3 (refine Yy ?_));exact hq.out):p:=h ⟨k⟩
theorem QK {p q:Prop}(k:q)(h:Bx q→p:=by intro hq;(iterate 4 (refine Yy ?_));exact hq.out):p:=h ⟨k⟩
theorem QL {p q:Prop}(k:q)(h:Bx q→p:=by intro hq;(iterate 5 (refine Yy ?_));exact hq.out):p:=h ⟨k⟩
theorem XL {p q:Prop}(k:q)(h:Bx q→p:=by intro hq;(iterate 6 (refine Yy ?_));exact hq.out):p:=h ⟨k⟩
theorem Xy {p q:Prop}(k:q)(h:Bx q→p:=by intro hq;(iterate 7 (refine Yy ?_));exact hq.out):p:=h ⟨k⟩
theorem Jl {p q:Prop}(k:q)(h:Bx q→p:=by intro hq;(iterate 8 (refine Yy ?_));exact hq.out):p:=h ⟨k⟩
theorem J6 {p q:Prop}(k:q)(h:Bx q→p:=by intro hq;(iterate 9 (refine Yy ?_));exact hq.out):p:=h ⟨k⟩
theorem XR {p q:Prop}(k:q)(h:Bx q→p:=by intro hq;(iterate 10 (refine Yy ?_));exact hq.out):p:=h ⟨k⟩
theorem X5 {p q:Prop}(k:q)(h:Bx q→p:=by intro hq;(iterate 11 (refine Yy ?_));exact hq.out):p:=h ⟨k⟩
theorem JF {p q:Prop}(k:q)(h:Bx q→p:=by intro hq;(iterate 12 (refine Yy ?_));exact hq.out):p:=h ⟨k⟩
theorem Qbp {p q:Prop}(k:q)(h:Bx q→p:=by intro hq;(iterate 13 (refine Yy ?_));exact hq.out):p:=h ⟨k⟩
theorem WT {p q:Prop}(k:q)(h:Bx q→p:=by intro hq;(iterate 14 (refine Yy ?_));exact hq.out):p:=h ⟨k⟩
theorem QgC {p q:Prop}(k:q)(h:Bx q→p:=by intro hq;(iterate 15 (refine Yy ?_));exact hq.out):p:=h ⟨k⟩
theorem QbP {p q:Prop}(k:q)(h:Bx q→p:=by intro hq;(iterate 16 (refine Yy ?_));exact hq.out):p:=h ⟨k⟩
theorem QkJ {p q:Prop}(k:q)(h:Bx q→p:=by intro hq;(iterate 17 (refine Yy ?_));exact hq.out):p:=h ⟨k⟩
theorem Qfe {p q:Prop}(k:q)(h:Bx q→p:=by intro hq;(iterate 18 (refine Yy ?_));exact hq.out):p:=h ⟨k⟩
theorem QeV {p q:Prop}(k:q)(h:Bx q→p:=by intro hq;(iterate 19 (refine Yy ?_));exact hq.out):p:=h ⟨k⟩
theorem Qf2 {p q:Prop}(k:q)(h:Bx q→p:=by intro hq;(iterate 20 (refine Yy ?_));exact hq.out):p:=h ⟨k⟩
theorem Qmp {p q:Prop}(k:q)(h:Bx q→p:=by intro hq;(iterate 21 (refine Yy ?_));exact hq.out):p:=h ⟨k⟩
theorem QpI {p q:Prop}(k:q)(h:Bx q→p:=by intro hq;(iterate 22 (refine Yy ?_));exact hq.out):p:=h ⟨k⟩
theorem Qvv {p q:Prop}(k:q)(h:Bx q→p:=by intro hq;(iterate 23 (refine Yy ?_));exact hq.out):p:=h ⟨k⟩
theorem Qha {p q:Prop}(k:q)(h:Bx q→p:=by intro hq;(iterate 24 (refine Yy ?_));exact hq.out):p:=h ⟨k⟩
end Go.Proofs.YtnkkokmmeplbgaaGreat
