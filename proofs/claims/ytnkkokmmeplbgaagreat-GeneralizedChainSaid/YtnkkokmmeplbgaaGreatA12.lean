/-
  Methods that only read the objects handed in (any number of 
-/
import Derived.Test.YtnkkokmmeplbgaaGreatA3
import Derived.Test.YtnkkokmmeplbgaaGreatA10
import Derived.Test.YtnkkokmmeplbgaaGreatA4
namespace Go.Proofs.YtnkkokmmeplbgaaGreat
open Go.RowKit
def gIn (ρ:List (Nat×Nat))(H Hin:List (Nat×Qj)):List (Nat×Qj)→Prop
 |[]=>True
 |(o,ob)::r=>Qb H (rn ρ o)=some (Qgd ρ ob)∧((Qgd ρ ob).fix&&Nat.ble Qf o)=true∧okB ob=true∧Qg7 Hin ob=true∧gIn ρ H Hin r
theorem QlI {ρ:List (Nat×Nat)}{H Hin:List (Nat×Qj)}:∀ {l:List (Nat×Qj)},gIn ρ H Hin l→∀o ob,Qb l o=some ob→Qb H (rn ρ o)=some (Qgd ρ ob)∧(Qgd ρ ob).fix=true∧Qf≤o∧okB ob=true∧Qg7 Hin ob=true
 |[],_,_,_,h=>by cases h
 |(q,ob')::r,⟨h1,h2,h3,h4,h5⟩,o,ob,h=>by
  rw[Qn] at h;rw[Bool.and_eq_true] at h2
  split at h
  ·rename_i e;cases h;subst e;exact⟨h1,h2.1,Nat.le_of_ble_eq_true h2.2,h3,h4⟩
  exact QlI h5 o ob h
def Qkv (ρ:List (Nat×Nat))(Hin:List (Nat×Qj)):Bool:=Hin.all fun p=>Hin.all fun q => !(Nat.beq (rn ρ p.1) (rn ρ q.1))||Nat.beq p.1 q.1
section
variable {P:Program}{E:X7}{o:Oper}{st:St}
theorem Qng {g:FuncId}{bs zs:List AV}{Hin:List (Nat×Qj)}{res:AV}(ρ:List (Nat×Nat))(hc:GC P g bs Hin res Hin)(hab:bs.map (KU ρ)=zs)(hbig:bs.all QbK=true){st':St}(k2:QcL st.H st'.H)
  (hin:gIn ρ st.H Hin Hin) (hap:Qkv ρ Hin=true) {c:Cx} {a:Act} (hr:Jk E c a st') {vs:List Value} (hl:vs.length=zs.length) (hv:∀(i:Nat) (v:Value) (x:AV),vs[i]?=some v→zs[i]?=some x→VR c v x) :
  Calls P g vs.toArray c.w fun e w'=>∃v c',e=.returned v∧c'.w=w'∧Jk E c' a st'∧FR c'.w c'.S v res:=by
 have hs:=QlI hin
 have inj:∀o o',(Qb Hin o).isSome=true→(Qb Hin o').isSome=true→rn ρ o=rn ρ o'→o=o':=fun o o' g1 g2 e=>by
  obtain⟨x,hx⟩:=Option.isSome_iff_exists.1 g1;obtain⟨y,hy⟩:=Option.isSome_iff_exists.1 g2
  have:=List.all_eq_true.1 (List.all_eq_true.1 hap _ (KN hx)) _ (KN hy)
  simp only[e,Nat.beq_refl,Bool.not_true,Bool.false_or] at this
  exact Nat.eq_of_beq_eq_true this
 refine hr.gcall hc ρ st'.H (fun o z h=>?_) inj (fun o=>rfl) (fun o z h=>(hs o z h).2.2.2.2) (fun o z h=>?_) (fun _ _=>rfl) (by rw[hl,←hab,List.length_map]) hbig (fun i v x hi hj=>hv i v _ hi (by rw[←hab,List.getElem?_map,hj];rfl))
 ·obtain⟨h1,h2,h3,h4,-⟩:=hs o z h
  exact⟨k2 _ _ h1 h2,h3,h4⟩
 obtain⟨h1,h2,-⟩:=hs o z h;exact k2 _ _ h1 h2
theorem YO {g:FuncId}{bs zs:List AV}{Hin:List (Nat×Qj)}{res:AV}(ρ:List (Nat×Nat))(hc:GC P g bs Hin res Hin){xs:Array Operand}{ts:Array TypeId}(ho:o.op=.call { callee:=.value (.func g),args:=xs,argTypes:=ts })[hf:Xl P g](ha:evl st xs.toList=some zs)(hab:bs.map (KU ρ)=zs)(hbig:bs.all QbK=true)
  (hin:gIn ρ st.H Hin Hin) (hap:Qkv ρ Hin=true):PY P E o st res:=by
 intro st' k1 k2 c a hr K Q hK
 have he:=Qdu ha
 have hev:xs.toList.map st'.ev=zs:=by
  rw[←he]
  refine List.map_congr_left fun y hy=>k1 y ?_
  simp only[ho,Op.operands,Call.operands]
  simp[Array.mem_toList_iff.1 hy]
 have hl:zs.length=xs.size:=by rw[←hev];simp
 have hrun:(execOp a.eval o).run P c.w=.ok (.enter g (xs.toList.map a.eval).toArray) c.w:=by
  have e1:a.eval (.func g)=.func (.func g) #[] #[]:=rfl
  have e2:(xs.toList.map a.eval).toArray=xs.map a.eval:=by apply Array.ext';simp
  simp[execOp,ho,resolve,invoke,e1,Deferred.ofValue,hf.h,e2]
 unfold Oper.wp
 rw[hrun,Oper.upon_enter];refine(Qng ρ hc hab hbig k2 hin hap hr (vs:=xs.toList.map a.eval) (by rw[hl];simp) (fun i v x hi hj=>?_)).mono ?_
 ·rw[List.getElem?_map] at hi
  cases hx:xs.toList[i]? with
  |none=>rw[hx] at hi;cases hi
  |some y=>
   rw[hx] at hi;cases hi
   have:zs[i]?=some (st'.ev y):=by rw[←hev,List.getElem?_map,hx];rfl
   rw[hj] at this;rw[Option.some.inj this];exact hr.ev y
 rintro e w' ⟨v,c',rfl,rfl,hr',hfr⟩;exact hK c' v hr' (.fr _ _ hfr)
theorem Qol {tt:TypeId}{x ix:Operand}(ho:o.op=.index tt x ix){len:Nat}{e:TypeId}{n:Nat}[hT:Qta P tt len e n]{n':Nat}[hV:XV P e n' false]{cs:List AV}(hx:X4 st x=some (.agg cs)){k:IntKind}{i:Int}(hi:X4 st ix=some (.p (.int k i)))
  (j:Nat) (hij:i=(j:Int)) (hj:j<len) (hn:n=1) {r:AV} (hc:cs[j]?=some r):PY P E o st r:=by
 refine Kh fun st' h1 h2 c a hr=>?_
 have hv:=hr.ev x
 rw[h1 x (by simp[ho,Op.operands]),QZ hx] at hv
 have hvi:=hr.ev ix
 rw[h1 ix (by simp[ho,Op.operands]),QZ hi] at hvi
 have hvi:=hvi.p_inv
 generalize hvx:a.eval x=vx at *
 have key:∃vs:List Value,vx=.agg vs.toArray∧vs.length=cs.length∧∀(i:Nat) (v:Value) (x:AV),vs[i]?=some v→cs[i]?=some x→VR c v x:=by
  cases hv with
  |fr _ _ h=>cases h with|agg vs _ hl h=>exact⟨vs,rfl,hl,fun i v x h1 h2=>.fr _ _ (h i v x h1 h2)⟩
  |agg vs _ hl h=>exact⟨vs,rfl,hl,h⟩
 obtain⟨vs,rfl,hl,hpw⟩:=key
 subst hij hn
 have hov:j<vs.length:=by have:=(List.getElem?_eq_some_iff.1 hc).1;omega
 refine⟨vs[j],?_,hpw j _ _ (List.getElem?_eq_getElem hov) hc⟩
 simp[execOp,ho,Instr.index,hvi,hvx,asIntOf,run_underlying (Qe4 hT.h),hj,X6 hT.size,Go.part,Qaw hV.row,hov]
def QtD (P:Program)(t:TypeId):Bool:=match P.underlying t with|some (.pointer _)=>true|_=>false
theorem QnE {t:TypeId}(h:QtD P t=true):∃e,P.underlying t=some (.pointer e):=by
 unfold QtD at h
 split at h
 ·exact⟨_,‹_›⟩
 cases h
theorem Qh1 {t e:TypeId}(hp:P.underlying t=some (.pointer e))(a:Option Addr)(w:World):(Op.equal t (.pointer a) (.pointer none)).run P w=.ok a.isNone w:=by
 have h:∀d:Nat,(Op.equalIn (d+1) t (.pointer a) (.pointer none)).run P w=.ok a.isNone w:=fun d=>by
  cases a<;>simp[Op.equalIn,run_underlying hp]
 exact h 9999
theorem Y0 {op:BinOp}{tt ty:TypeId}{x y:Operand}(ho:o.op=.binOp op tt x y ty)(hp:QtD P tt=true){z:AV}{b:Bool}(hx:X4 st x=some z)(hy:X4 st y=some (.p (.pointer none)))
  (hz:(z=.p (.pointer none)∧b=true)∨(∃q off T cs,z=.ptr q off∧Qb st.H q=some (.var T cs)∧b=false)) {r:Bool} (hop:(op=.eql∧r=b)∨(op=.neq∧r = !b)):PY P E o st (.p (.bool r)):=by
 refine Kh fun st' h1 h2 c a hr=>?_
 obtain⟨e,he⟩:=QnE hp
 have hv:=hr.ev x
 rw[h1 x (by simp[ho,Op.operands]),QZ hx] at hv
 have hu:=hr.ev y
 rw[h1 y (by simp[ho,Op.operands]),QZ hy] at hu
 have key:∃A:Option Addr,a.eval x=.pointer A∧A.isNone=b:=by
  rcases hz with ⟨rfl,rfl⟩|⟨q,off,T,cs,rfl,hq,rfl⟩
  ·exact⟨none,hv.p_inv,rfl⟩
  obtain⟨hKq,vq,hVq,hor,hwr⟩:=hr.live q _ (h2 _ _ hq rfl)
  cases hor with
  |var b ccs _ _ hb hl hc hS=>
   generalize a.eval x=v at hv
   cases hv with
   |fr _ _ h=>cases h
   |ptr _ _ _ _ hV=>exact⟨_,hV b hVq,rfl⟩
 obtain⟨A,hA,hAb⟩:=key;refine⟨.bool r,?_,.fr _ _ (.p _)⟩
 have e0:=Qh1 he A c.w
 rcases hop with ⟨rfl,rfl⟩|⟨rfl,rfl⟩
 ·have e1:(binOp .eql tt (a.eval x) (a.eval y)).run P c.w=.ok (.bool r) c.w:=by
   rw[hA,hu.p_inv];simp[binOp,e0,hAb]
  have e2:∀z1 z2,(do eqGuard .eql tt z1 z2 (a.eval x) (a.eval y);binOp .eql tt (a.eval x) (a.eval y):Sem Value).run P c.w=.ok (.bool r) c.w:=fun z1 z2=>by
   rw[hA,eqGuard_at_pointer,←hA];simpa using e1
  simp only[execOp,ho,Sem.run_bind,Sem.run_pure] at e2 ⊢
  simp only[e2,Result.andThen_ok]
 have e1:(binOp .neq tt (a.eval x) (a.eval y)).run P c.w=.ok (.bool (!b)) c.w:=by
  rw[hA,hu.p_inv];simp[binOp,e0,hAb]
 have e2:∀z1 z2,(do eqGuard .neq tt z1 z2 (a.eval x) (a.eval y);binOp .neq tt (a.eval x) (a.eval y):Sem Value).run P c.w=.ok (.bool (!b)) c.w:=fun z1 z2=>by
  rw[hA,eqGuard_at_pointer,←hA];simpa using e1
 simp only[execOp,ho,Sem.run_bind,Sem.run_pure] at e2 ⊢
 simp only[e2,Result.andThen_ok]
end
def Qgm:List (Nat×Qj)→Bool
 |[]=>true
 |p::r=>(r.all fun q => !(Nat.beq p.1 q.1))&&Qgm r
structure JK (H:List (Nat×Qj)):Prop where
 h:∀o ob,Qb H o=some ob→Qf≤o∧okB ob=true∧Qg7 H ob=true∧ob.fix=true∧JB 0 ob=true
 a:Qgm H=true
theorem QgK:∀ {H:List (Nat×Qj)},Qgm H=true→∀p∈H,Qb H p.1=some p.2
 |p::r,h,q,hq=>by
  obtain⟨i,x⟩:=p
  simp only[Qgm,Bool.and_eq_true] at h
  rcases List.mem_cons.1 hq with rfl|hq
  ·exact Qn .. |>.trans (if_pos rfl)
  rw[Qn,if_neg,QgK h.2 q hq];intro e
  have:=List.all_eq_true.1 h.1 q hq
  simp[e] at this
def QxI (H:List (Nat×Qj)):Bool:=(H.all fun p=>Nat.ble Qf p.1&&okB p.2&&Qg7 H p.2&&p.2.fix&&JB 0 p.2)&&Qgm H
theorem JK.of {H:List (Nat×Qj)}(h:QxI H=true):JK H:=by
 rw[QxI,Bool.and_eq_true] at h;refine⟨fun o ob ho=>?_,h.2⟩
 have:=List.all_eq_true.1 h.1 _ (KN ho)
 simp only[Bool.and_eq_true] at this
 exact⟨Nat.le_of_ble_eq_true this.1.1.1.1,this.1.1.1.2,this.1.1.2,this.1.2,this.2⟩
theorem JK.m {H:List (Nat×Qj)}(h:JK H):∀p∈H,Qb H p.1=some p.2:=QgK h.a
section
variable {H H':List (Nat×Qj)}{x y z:Qj}{k k2 k3:Nat}
theorem JK.p0 (_:JK H):∀o ob,Qb H o=some ob→Qb H o=some ob:=fun _ _ h=>h
theorem JK.pre (hH:JK H)(hk:Nat.blt k Qf=true)(hs:∀o ob,Qb H o=some ob→Qb H' o=some ob):∀o ob,Qb H o=some ob→Qb ((k,x)::H') o=some ob:=fun o ob h=>by
 have h1:=(hH.h o ob h).1
 have h2:k<Qf:=Nat.le_of_ble_eq_true hk
 rw[Qn,if_neg (by omega)];exact hs o ob h
theorem JK.pp {H:List (Nat×Qj)}{q:Prop}(hH:JK H)(h:JK H→q:=by intro hq;repeat (first|exact hq.p0|refine hq.pre rfl ?_)):q:=h hH
theorem JK.p1 (hH:JK H)(hk:Nat.blt k Qf=true):∀o ob,Qb H o=some ob→Qb ((k,x)::H) o=some ob:=hH.pre hk hH.p0
theorem JK.p2 (hH:JK H)(hk:Nat.blt k Qf=true)(hk2:Nat.blt k2 Qf=true):∀o ob,Qb H o=some ob→Qb ((k,x)::(k2,y)::H) o=some ob:=hH.pre hk (hH.p1 hk2)
theorem JK.p3 (hH:JK H)(hk:Nat.blt k Qf=true)(hk2:Nat.blt k2 Qf=true)(hk3:Nat.blt k3 Qf=true):∀o ob,Qb H o=some ob→Qb ((k,x)::(k2,y)::(k3,z)::H) o=some ob:=hH.pre hk (hH.p2 hk2 hk3)
end
theorem Qsf (x:AV):Kq [] x=x:=by
 cases x with
 |sl es tk=>cases tk<;>rfl
 |_=>rfl
theorem Qfp (xs:List AV):xs.map (Kq [])=xs:=by
 rw[List.map_congr_left (g:=id) (fun x _=>Qsf x),List.map_id]
theorem Qss (x:AV):KU [] x=x:=by
 cases x with
 |agg cs=>exact congrArg AV.agg (Qfp cs)
 |tup cs=>exact congrArg AV.tup (Qfp cs)
 |fn f cs=>exact congrArg (AV.fn f) (Qfp cs)
 |sl es tk=>cases tk<;>rfl
 |_=>rfl
theorem Qlo (ob:Qj):Qgd [] ob=ob:=by
 cases ob with
 |var t cs=>exact congrArg (Qj.var t) (Qfp cs)
 |_=>rfl
section
variable {P:Program}{E:X7}{o:Oper}{st:St}
theorem QgV {g:FuncId}{bs:List AV}{H:List (Nat×Qj)}{res:AV}(hH:JK H)(hc:GC P g bs H res H)(hbig:bs.all QbK=true){st':St}(k2:QcL st.H st'.H)
  (hs:∀o ob,Qb H o=some ob→Qb st.H o=some ob) {c:Cx} {a:Act} (hr:Jk E c a st') {vs:List Value} (hl:vs.length=bs.length) (hv:∀(i:Nat) (v:Value) (x:AV),vs[i]?=some v→bs[i]?=some x→VR c v x) :
  Calls P g vs.toArray c.w fun e w'=>∃v c',e=.returned v∧c'.w=w'∧Jk E c' a st'∧FR c'.w c'.S v res:=by
 refine hr.gcall hc [] st'.H (fun o z h=>?_) (fun o o' _ _ e=>e) (fun o=>rfl) (fun o z h=>(hH.h o z h).2.2.1) (fun o z h=>?_) (fun _ _=>rfl) hl hbig (fun i v x hi hj=>(Qss x).symm▸hv i v x hi hj)
 ·obtain⟨h1,h2,h3,h4,h5⟩:=hH.h o z h
  exact⟨(Qlo z).symm▸k2 _ _ (hs o z h) h4,h1,h2⟩
 obtain⟨h1,h2,h3,h4,h5⟩:=hH.h o z h;exact(Qlo z).symm▸k2 _ _ (hs o z h) h4
theorem XE {g:FuncId}{bs:List AV}{H:List (Nat×Qj)}{res:AV}(hH:JK H)(hc:GC P g bs H res H){xs:Array Operand}{ts:Array TypeId}(ho:o.op=.call { callee:=.value (.func g),args:=xs,argTypes:=ts })[hf:Xl P g](ha:evl st xs.toList=some bs)(hbig:bs.all QbK=true)
  (hs:∀o ob,Qb H o=some ob→Qb st.H o=some ob):PY P E o st res:=by
 intro st' k1 k2 c a hr K Q hK
 have he:=Qdu ha
 have hev:xs.toList.map st'.ev=bs:=by
  rw[←he]
  refine List.map_congr_left fun y hy=>k1 y ?_
  simp only[ho,Op.operands,Call.operands]
  simp[Array.mem_toList_iff.1 hy]
 have hl:bs.length=xs.size:=by rw[←hev];simp
 have hrun:(execOp a.eval o).run P c.w=.ok (.enter g (xs.toList.map a.eval).toArray) c.w:=by
  have e1:a.eval (.func g)=.func (.func g) #[] #[]:=rfl
  have e2:(xs.toList.map a.eval).toArray=xs.map a.eval:=by apply Array.ext';simp
  simp[execOp,ho,resolve,invoke,e1,Deferred.ofValue,hf.h,e2]
 unfold Oper.wp
 rw[hrun,Oper.upon_enter];refine(QgV hH hc hbig k2 hs hr (vs:=xs.toList.map a.eval) (by rw[hl];simp) (fun i v x hi hj=>?_)).mono ?_
 ·rw[List.getElem?_map] at hi
  cases hx:xs.toList[i]? with
  |none=>rw[hx] at hi;cases hi
  |some y=>
   rw[hx] at hi;cases hi
   have:bs[i]?=some (st'.ev y):=by rw[←hev,List.getElem?_map,hx];rfl
   rw[hj] at this;rw[Option.some.inj this];exact hr.ev y
 rintro e w' ⟨v,c',rfl,rfl,hr',hfr⟩;exact hK c' v hr' (.fr _ _ hfr)
theorem Qq5 {g:FuncId}{q:Operand}{cap az bs:List AV}{H:List (Nat×Qj)}{res:AV}(hH:JK H)(hc:GC P g bs H res H){xs:Array Operand}{ts:Array TypeId}(ho:o.op=.call { callee:=.value q,args:=xs,argTypes:=ts })[hf:Xl P g](hq:X4 st q=some (.fn g cap))(ha:evl st xs.toList=some az)(hz:az++cap=bs)(hbig:bs.all QbK=true)
  (hs:∀o ob,Qb H o=some ob→Qb st.H o=some ob):PY P E o st res:=by
 intro st' k1 k2 c a hr K Q hK
 have hvq:=hr.ev q
 rw[k1 q (by simp[ho,Op.operands,Call.operands]),QZ hq] at hvq
 generalize hvx:a.eval q=vx at hvq
 have key:∃vs:List Value,vx=.func (.func g) #[] vs.toArray∧vs.length=cap.length∧∀(i:Nat) (v:Value) (x:AV),vs[i]?=some v→cap[i]?=some x→VR c v x:=by
  cases hvq with
  |fr _ _ h=>cases h with|fn _ vs _ hl h=>exact⟨vs,rfl,hl,fun i v x h1 h2=>.fr _ _ (h i v x h1 h2)⟩
  |fn _ vs _ hl h=>exact⟨vs,rfl,hl,h⟩
 obtain⟨vs,rfl,hl,hp⟩:=key
 have he:=Qdu ha
 have hev:xs.toList.map st'.ev=az:=by
  rw[←he]
  refine List.map_congr_left fun y hy=>k1 y ?_
  simp only[ho,Op.operands,Call.operands]
  simp[Array.mem_toList_iff.1 hy]
 have hla:az.length=xs.size:=by rw[←hev];simp
 have hrun:(execOp a.eval o).run P c.w=.ok (.enter g (xs.toList.map a.eval++vs).toArray) c.w:=by
  have e2:(xs.toList.map a.eval).toArray=xs.map a.eval:=by apply Array.ext';simp
  have e3:(xs.toList.map a.eval++vs).toArray=xs.map a.eval++vs.toArray:=by rw[←e2];simp
  simp[execOp,ho,resolve,invoke,hvx,Deferred.ofValue,hf.h,e3]
 unfold Oper.wp
 rw[hrun,Oper.upon_enter];refine(QgV hH hc hbig k2 hs hr (vs:=xs.toList.map a.eval++vs) (by rw[←hz];simp[hla,hl]) (fun i v x hi hj=>?_)).mono ?_
 ·rw[←hz] at hj
  rcases Nat.lt_or_ge i az.length with hlt|hge
  ·rw[List.getElem?_append_left hlt,←hev,List.getElem?_map] at hj
   rw[List.getElem?_append_left (by simp;omega),List.getElem?_map] at hi
   cases hx:xs.toList[i]? with
   |none=>rw[hx] at hi;cases hi
   |some y=>rw[hx] at hi hj;cases hi;cases hj;exact hr.ev y
  rw[List.getElem?_append_right hge] at hj;rw[List.getElem?_append_right (by simp;omega)] at hi
  simp only[List.length_map,Array.length_toList] at hi
  rw[←hla] at hi;exact hp _ v x hi hj
 rintro e w' ⟨v,c',rfl,rfl,hr',hfr⟩;exact hK c' v hr' (.fr _ _ hfr)
end
section
variable {st:St}{r res:AV}{H:List (Nat×Qj)}
theorem Qdz {ts:List Nat}(hH:JK H)(hs:∀o ob,Qb H o=some ob→Qb st.H o=some ob)(h:(Xz st ts).fzt=some r)(hr:r=res):
  (Xz st ts).fzt=some res∧∀o ob,Qb H o=some ob→Qb st.H o=some ob∧Qf≤o∧JB 0 ob=true:=
 ⟨by rw[h,hr],fun o ob ho=>⟨hs o ob ho,(hH.h o ob ho).1,(hH.h o ob ho).2.2.2.2⟩⟩
theorem Qfm {rs:List RS}(hH:JK H)(hs:∀o ob,Qb H o=some ob→Qb st.H o=some ob)(h:(resY st rs).bind AV.fzt=some r)(hr:r=res):
  (resY st rs).bind AV.fzt=some res∧∀o ob,Qb H o=some ob→Qb st.H o=some ob∧Qf≤o∧JB 0 ob=true:=
 ⟨by rw[h,hr],fun o ob ho=>⟨hs o ob ho,(hH.h o ob ho).1,(hH.h o ob ho).2.2.2.2⟩⟩
end
theorem Qcz {es:List (List AV)}(h:∀e∈es,fzs e=some e):(es.flatten.all fun x=>match x with | .p _ | .sl _ none | .emp | .bot | .el _=>true|_=>false)=true:=by
 refine List.all_eq_true.2 fun x hx=>?_
 obtain⟨e,he,hxe⟩:=List.mem_flatten.1 hx;obtain⟨i,hi⟩:=List.getElem?_of_mem hxe
 have:=(Wa (h e he)).2 i x x hi hi
 cases x with
 |sl es tk=>cases tk with
  |none=>rfl
  |some o=>simp[AV.fz1] at this
 |ptr o off=>simp[AV.fz1] at this
 |own o n=>simp[AV.fz1] at this
 |eptr o n off=>simp[AV.fz1] at this
 |agg=>simp[AV.fz1] at this
 |tup=>simp[AV.fz1] at this
 |fn=>simp[AV.fz1] at this
 |_=>rfl
theorem Qoo {L:Nat}{x:AV}(h:okId 0 x=true):okId L x=true:=by
 have one:∀x:AV,okId1 0 x=true→okId1 L x=true:=fun x h=>by
  cases x with
  |sl es tk=>cases tk with
   |none=>rfl
   |some o=>simpa [okId1] using .inr (by simpa [okId1] using h)
  |ptr o off=>simpa [okId1] using .inr (by simpa [okId1] using h)
  |own o n=>simpa [okId1] using .inr (by simpa [okId1] using h)
  |eptr o n off=>simpa [okId1] using .inr (by simpa [okId1] using h)
  |_=>first|rfl|exact h
 have many:∀cs:List AV,cs.all (okId1 0)=true→cs.all (okId1 L)=true:=fun cs h=>List.all_eq_true.2 fun x hx=>one x (List.all_eq_true.1 h x hx)
 cases x with
 |agg cs=>exact many cs h
 |tup cs=>exact many cs h
 |fn f cs=>exact many cs h
 |sl es tk=>exact one (.sl es tk) h
 |ptr o off=>exact one (.ptr o off) h
 |own o n=>exact one (.own o n) h
 |eptr o n off=>exact one (.eptr o n off) h
 |_=>rfl
theorem QlB {L:Nat}{ob:Qj}(h:JB 0 ob=true):JB L ob=true:=by
 cases ob with
 |var t cs=>exact List.all_eq_true.2 fun x hx=>Qoo (List.all_eq_true.1 h x hx)
 |tok=>rfl
 |arr t k es=>exact List.all_eq_true.2 fun x hx=>Qoo (List.all_eq_true.1 h x hx)
theorem Xw {E:X7}{st st':St}{H pre:List (Nat×Qj)}(hH:JK H)(eH:st'.H=pre++H)(hL:Nat.ble st'.nx Qf=true)(ht:QsK st st'.nx st'.t)(hp:Qsk st st'.nx pre)(hs:∀o ob,Qb H o=some ob→Qb st.H o=some ob):Kj E st st':=by
 refine QhK (Nat.le_of_ble_eq_true hL) ?_ ?_
 ·have key:∀l:List (Nat×AV),QsK st st'.nx l→∀p∈l,st.get p.1=p.2∧okId st'.nx p.2=true:=by
   intro l
   induction l with
   |nil=>simp
   |cons q l ih=>
    obtain⟨i,x⟩:=q;rintro⟨h1,h2,h3⟩ p hp
    rcases List.mem_cons.1 hp with rfl|hp
    ·exact⟨by simp[St.get,h1],h2⟩
    exact ih h3 p hp
  exact key _ ht
 ·have key:∀l:List (Nat×Qj),Qsk st st'.nx l→∀p∈l,Qb st.H p.1=some p.2∧(Nat.blt p.1 st'.nx||Nat.ble Qf p.1)=true∧JB st'.nx p.2=true:=by
   intro l
   induction l with
   |nil=>simp
   |cons q l ih=>
    obtain⟨i,x⟩:=q;rintro⟨h1,h2,h3,h4⟩ p hp
    rcases List.mem_cons.1 hp with rfl|hp
    ·exact⟨h1,h2,h3⟩
    exact ih h4 p hp
  rw[eH];intro p hpm
  rcases List.mem_append.1 hpm with hpm|hpm
  ·exact key _ hp p hpm
  ·have h1:=hH.m p hpm
   have h2:=hH.h _ _ h1
   exact⟨hs _ _ h1,by rw[Bool.or_eq_true];exact .inr (Nat.ble_eq_true_of_le h2.1),QlB h2.2.2.2.2⟩
theorem Qed {ρ:List (Nat×Nat)}(hρ:∀o,Qf≤o→rn ρ o=o){x:AV}(h:Qcn x=true):Kq ρ x=x:=by
 cases x with
 |sl es tk=>cases tk with
  |none=>rfl
  |some o=>simp only[Kq,hρ o (Nat.le_of_ble_eq_true h)]
 |ptr o off=>simp only[Kq,hρ o (Nat.le_of_ble_eq_true h)]
 |own o n=>simp only[Kq,hρ o (Nat.le_of_ble_eq_true h)]
 |eptr o n off=>simp only[Kq,hρ o (Nat.le_of_ble_eq_true h)]
 |_=>rfl
theorem Qd6 {ρ:List (Nat×Nat)}(hρ:∀o,Qf≤o→rn ρ o=o){xs:List AV}(h:xs.all Qcn=true):xs.map (Kq ρ)=xs:=by
 exact(List.map_congr_left (f:=Kq ρ) (g:=id) (fun x hx=>Qed hρ (List.all_eq_true.1 h x hx))).trans (List.map_id _)
theorem Qsu {ρ:List (Nat×Nat)}(hρ:∀o,Qf≤o→rn ρ o=o){x:AV}(h:QbK x=true):KU ρ x=x:=by
 cases x with
 |agg cs=>exact congrArg AV.agg (Qd6 hρ h)
 |tup cs=>exact congrArg AV.tup (Qd6 hρ h)
 |fn f cs=>exact congrArg (AV.fn f) (Qd6 hρ h)
 |sl es tk=>exact Qed (x:=.sl es tk) hρ h
 |ptr o off=>exact Qed (x:=.ptr o off) hρ h
 |own o n=>exact Qed (x:=.own o n) hρ h
 |eptr o n off=>exact Qed (x:=.eptr o n off) hρ h
 |_=>rfl
theorem QfL {x:AV}(h:(match x with | .p _ | .sl _ none | .emp | .bot | .el _=>true|_=>false)=true):Qcn x=true:=by
 cases x with
 |sl es tk=>cases tk with
  |none=>rfl
  |some o=>cases h
 |_=>first|rfl|cases h
theorem QjE {ob:Qj}(h:okB ob=true):ob.cells.all Qcn=true:=by
 cases ob with
 |var t cs=>exact h
 |tok=>rfl
 |arr t k es=>exact List.all_eq_true.2 fun x hx=>QfL (List.all_eq_true.1 h x hx)
theorem Qlj {ρ:List (Nat×Nat)}(hρ:∀o,Qf≤o→rn ρ o=o){ob:Qj}(h:okB ob=true):YM ρ ob=ob:=by
 have hc:=QjE h
 cases ob with
 |var t cs=>exact congrArg (Qj.var t) (Qd6 hρ hc)
 |tok=>rfl
 |arr t k es=>
  refine congrArg (Qj.arr t k) ?_;exact(List.map_congr_left (f:=fun e=>e.map (Kq ρ)) (g:=id) (fun e he=>Qd6 hρ (List.all_eq_true.2 fun x hx=>List.all_eq_true.1 hc x (List.mem_flatten.2 ⟨e,he,hx⟩)))).trans (List.map_id _)
theorem QkR {Ho:List (Nat×Qj)}{x:AV}(h:(match x with | .p _ | .sl _ none | .emp | .bot | .el _=>true|_=>false)=true):KH Ho x=true:=by
 cases x with
 |sl es tk=>cases tk with
  |none=>rfl
  |some o=>cases h
 |_=>first|rfl|cases h
theorem QuA {H:List (Nat×Qj)}{p:Nat×Qj}{x:AV}(h:KH H x=true):KH (p::H) x=true:=by
 obtain⟨i,y⟩:=p
 have one:∀o,(Qb H o).isSome=true→(Qb ((i,y)::H) o).isSome=true:=fun o h=>by
  rw[Qn]
  split
  ·rfl
  exact h
 cases x with
 |sl es tk=>cases tk with
  |none=>rfl
  |some o=>exact one o h
 |ptr o off=>exact one o h
 |own o n=>exact one o h
 |eptr o n off=>exact one o h
 |_=>first|rfl|exact h
theorem Qnx {H:List (Nat×Qj)}{p:Nat×Qj}{ob:Qj}(h:Qg7 H ob=true):ob.cells.all (KH (p::H))=true:=by
 cases ob with
 |var t cs=>exact List.all_eq_true.2 fun x hx=>QuA (List.all_eq_true.1 h x hx)
 |tok=>rfl
 |arr t k es=>exact List.all_eq_true.2 fun x hx=>QkR (List.all_eq_true.1 h x hx)
section
variable {P:Program}{E:X7}{Q:Exit→St→Prop}{ops:Array Oper}{o:Oper}{rest:List Oper}{t:List (Nat×AV)}{Hs:List (Nat×Qj)}{nx N d:Nat}{w:Bool}
theorem QfC (hN:E.N=N){f:FuncId}{bs:List AV}{H:List (Nat×Qj)}{te:TypeId}{k n r m:Nat}{es:List (List AV)}(hH:JK H)(hes:∀e∈es,fzs e=some e)(hc:GX P f bs H (.own r n) ((r,.arr te k es)::H) m)[hf:Xl P f](ho:WN ⟨t,Hs,nx⟩ o f bs)(hbig:bs.all QbK=true)
  (hs:∀o ob,Qb H o=some ob→Qb Hs o=some ob) (hr:Nat.blt r m=true) (hk:Nat.ble (nx+m) Qf=true)
  (hg:Qo ops ⟨t,Hs,nx⟩ o=some w) (hw:w=true) (hd:o.dst=some d) (hdN:Nat.blt d N=true)
  (h:Q3 P E ops rest Q ⟨(d,.own (nx+r) n)::t,(nx+r,.arr te k es)::Hs,nx+m⟩):Q3 P E ops (o::rest) Q ⟨t,Hs,nx⟩:=fun c a hrel=>by
 subst hw
 have hrm:r<m:=Nat.le_of_ble_eq_true hr
 have hmB:nx+m≤Qf:=Nat.le_of_ble_eq_true hk
 have hid:∀o,Qf≤o→rn (Yr nx m) o=o:=fun o ho=>by
  rw[rn,QaA,if_neg (by omega)];rfl
 have hnew:∀o,o<m→rn (Yr nx m) o=nx+o:=fun o ho=>by
  rw[rn,QaA,if_pos ho];rfl
 have hge:∀o,(Qb H o).isSome=true→Qf≤o:=fun o g=>by
  obtain⟨x,hx⟩:=Option.isSome_iff_exists.1 g;exact(hH.h o x hx).1
 have fresh:∀o,o<m→Qb Hs (nx+o)=none:=fun o ho=>by
  cases hx:Qb Hs (nx+o) with
  |none=>rfl
  |some ob=>
   rcases hrel.ids _ (hrel.live _ ob hx).1 with h|h
   ·have h:nx+o<nx:=h
    omega
   have:=E.kb _ h;omega
 refine wpList_step fun K hK=>?_
 rw[Xx hg hrel,if_pos rfl];obtain⟨vs,hrun,hvl,hv⟩:=ho.run (P:=P) hrel
 unfold Oper.wp
 rw[hrun,Oper.upon_enter];refine(hrel.xcall hc (Yr nx m) ((nx+r,.arr te k es)::Hs) hmB (fun o ob h=>?_) hnew (fun o o' g1 g2 e=>?_) (fun o g=>?_) (fun o ob h=>?_) (fun o hD=>?_) (fun q hq=>?_) ?_ (by simpa using hvl) hbig (fun i v x hi hj=>?_)).mono ?_
 ·obtain⟨h1,h2,h3,h4,h5⟩:=hH.h o ob h
  rw[hid o h1,Qlj hid h2];exact⟨hs o ob h,h1,QjE h2⟩
 ·rwa [hid o (hge o g1),hid o' (hge o' g2)] at e
 ·rw[Qn] at g
  split at g
  ·rename_i e;subst e;exact .inr hrm
  exact .inl g
 ·rw[Qn] at h
  split at h
  ·cases h
   refine List.all_eq_true.2 fun x hx=>?_
   obtain⟨e,he,hxe⟩:=List.mem_flatten.1 hx;exact QkR (List.all_eq_true.1 (Qcz hes) x hx)
  exact Qnx (hH.h o ob h).2.2.1
 ·rw[Qn,Qn]
  rcases hD with hD|hD
  ·have h1:=hge o hD
   rw[hid o h1,if_neg (by omega),if_neg (by omega)];obtain⟨x,hx⟩:=Option.isSome_iff_exists.1 hD;rw[hx,hs o x hx,Option.map_some,Qlj hid (hH.h o x hx).2.1]
  rw[hnew o hD]
  by_cases e:o=r
  ·subst e
   rw[if_pos rfl,if_pos rfl,Option.map_some];exact congrArg some (congrArg (Qj.arr te k) (Qnp hes).symm)
  rw[if_neg (by omega),if_neg e,fresh o hD]
  cases hx:Qb H o with
  |none=>rfl
  |some x=>have:=hge o (by rw[hx];rfl);omega
 ·rw[Qn,if_neg]
  rintro rfl;exact hq r (.inr hrm) (hnew r hrm)
 ·show(Qb ((r,Qj.arr te k es)::H) r).isSome=true
  rw[Qn,if_pos rfl];rfl
 ·rw[Qsu hid (List.all_eq_true.1 hbig x (List.mem_of_getElem? hj))]
  exact hv i v x hi hj
 rintro e w' ⟨v,c',rfl,rfl,hr',hvr⟩
 have hput:=hr'.put (d:=o.dst) (dlt hN hd hdN) hvr
 rw[hd] at hput;refine hK _ _ (h c' _ ?_);rw[hd]
 have e1:KU (Yr nx m) (.own r n)=.own (nx+r) n:=by show AV.own (rn _ r) n=_;rw[hnew r hrm]
 rw[e1] at hput;exact hput
end
theorem Qoa {ts:List Nat}{st:St}{r res:AV}{q m:Nat}{ob:Qj}{H:List (Nat×Qj)}(hH:JK H)(hs:∀o ob,Qb H o=some ob→Qb st.H o=some ob)(h:(Xz st ts).ntt=r)(hr:r=res)(hok:okId m res=true)(hn:Nat.ble st.nx m=true)(hm:Nat.ble m Qf=true)
  {ob':Qj} (hq:Qb st.H q=some ob') (e:ob'=ob) (hqm:Nat.blt q m=true) (hob:JB m ob=true) :
  (Xz st ts).ntt=res∧okId m res=true∧Nat.ble st.nx m=true∧Nat.ble m Qf=true∧∀o ob2,Qb ((q,ob)::H) o=some ob2→Qb st.H o=some ob2∧(Nat.blt o m||Nat.ble Qf o)=true∧JB m ob2=true:=by
 refine⟨by rw[h,hr],hok,hn,hm,fun o ob2 ho=>?_⟩;rw[Qn] at ho
 split at ho
 ·rename_i e2;subst e2;cases ho;exact⟨by rw[hq,e],by rw[hqm,Bool.true_or],hob⟩
 obtain⟨h1,h2,h3,h4,h5⟩:=hH.h o ob2 ho;exact⟨hs o ob2 ho,by rw[Bool.or_eq_true];exact .inr (Nat.ble_eq_true_of_le h1),QlB h5⟩
def QuG:List AV→List AV→Prop
 |[],[]=>True
 |x::xs,y::ys=>(x=y∨(x=.p (.slice none 0 0)∧y=.sl [] none))∧QuG xs ys
 |_,_=>False
theorem QhD:∀ {xs ys:List AV},QuG xs ys→xs.length=ys.length
 |[],[],_=>rfl
 |_::_,_::_,h=>congrArg (· + 1) (QhD h.2)
 |[],_::_,h=>h.elim
 |_::_,[],h=>h.elim
theorem Qor:∀ {xs ys:List AV},QuG xs ys→∀(i:Nat) (x y:AV),xs[i]?=some x→ys[i]?=some y→∀(c:Cx) (v:Value),VR c v x→VR c v y
 |[],[],_,i,x,y,hx,_=>by simp at hx
 |a::xs,b::ys,h,0,x,y,hx,hy=>fun c v hv=>by
  simp at hx hy;subst hx hy
  rcases h.1 with e|⟨e1,e2⟩
  ·rw[←e];exact hv
  subst e1 e2
  rw[hv.p_inv];exact .fr _ _ (.nil _ _ _ _ (Nat.zero_le _))
 |a::xs,b::ys,h,i+1,x,y,hx,hy=>Qor h.2 i x y (by simpa using hx) (by simpa using hy)
 |[],_::_,h,_,_,_,_,_=>h.elim
 |_::_,[],h,_,_,_,_,_=>h.elim
section
variable {E:X7}{t:List (Nat×AV)}{H:List (Nat×Qj)}{nx:Nat}
theorem Qgv (q:Nat){tt:TypeId}{cs cs':List AV}(hq:Qb H q=some (.var tt cs))(h:QuG cs cs'):Kj E ⟨t,H,nx⟩ ⟨t,(q,.var tt cs')::H,nx⟩:=fun c a hr=>by
 have hlk:∀o,Qb ((q,Qj.var tt cs')::H) o=if o=q then some (Qj.var tt cs') else Qb H o:=fun o=>Qn _ _ _ _
 refine⟨c,rfl,{ hr with live:=fun o ob ho=>?_,dead:=fun o ho=>?_ }⟩
 ·replace ho:Qb ((q,Qj.var tt cs')::H) o=some ob:=ho
  rw[hlk] at ho
  split at ho
  ·rename_i e
   subst e
   cases ho
   obtain⟨g1,v,g2,g3,g4⟩:=hr.live _ _ hq;refine⟨g1,v,g2,?_,g4⟩
   cases g3 with
   |var b ccs _ _ hh hl hp hS=>
    refine .var b ccs tt cs' hh (hl.trans (QhD h)) (fun i u y hi hy=>?_) hS
    have hil:i<cs.length:=by rw[QhD h];exact(List.getElem?_eq_some_iff.1 hy).1
    exact Qor h i _ y (List.getElem?_eq_getElem hil) hy c u (hp i u _ hi (List.getElem?_eq_getElem hil))
  exact hr.live o ob ho
 replace ho:Qb ((q,Qj.var tt cs')::H) o=none:=ho
 rw[hlk] at ho
 split at ho
 ·cases ho
 exact hr.dead o ho
end
section
variable {P:Program}{E:X7}{ops:Array Oper}{o:Oper}{t:List (Nat×AV)}{H:List (Nat×Qj)}{nx N d:Nat}{w:Bool}{T:St→Prop}
theorem QvP (hN:E.N=N)(hB:Nat.blt nx Qf=true){tt:TypeId}{x:Operand}{ax:AV}{cs:List AV}(ho:o.op=.box tt x)(hx:X4 ⟨t,H,nx⟩ x=some ax)(hc:∀st:St,st.cells1 ax=some cs)(hq:Qfk H nx=true)(hg:Qo ops ⟨t,H,nx⟩ o=some w)(hw:w=true)(hd:o.dst=some d)(hdN:Nat.blt d N=true)
  (h:T ⟨(d,.ptr nx 0)::t,(nx,.var tt cs)::H,nx+1⟩):FK P E ops o T ⟨t,H,nx⟩:=by
 subst hw
 refine⟨⟨d,.ptr nx 0,nx,.var tt cs,1⟩,⟨hg,hq,hd,by rw[hN];exact Nat.le_of_ble_eq_true hdN,fun st g1 g2 g3 c a hr=>?_⟩,h⟩
 have hnx:st.nx=nx:=g3
 have hv:=hr.ev x
 rw[g1 x (by simp[ho,Op.operands]),QZ hx] at hv;obtain⟨h1,h2,-⟩:=hr.cells hv (hc st)
 obtain⟨c',e1,-,hle,hK,hV,hr'⟩:=hr.new (by rw[hnx];exact Nat.le_of_ble_eq_true hB) (KA c.w (.cells (a.eval x).cells tt)) (.pointer (some ⟨c.w.heap.size,0,none⟩)) (.var tt cs)
  (fun c' e1 e2 hle=>.var c.w.heap.size (a.eval x).cells tt cs (by rw[e1];exact WB _ _ _) h1 (fun i u y hi hj=>(h2 i u y hi hj).mono hle) (fun off hs=>by
   rw[e2] at hs
   exact Nat.lt_irrefl _ (hr.Ssz _ _ hs))) (fun b hb=>by simp[Xd] at hb;omega)
 rw[hnx] at hK hV hr';refine⟨.pointer (some ⟨c.w.heap.size,0,none⟩),c',?_,?_,.ptr _ _ _ hK fun b hb=>?_⟩
 ·rw[e1]
  simp[execOp,ho,Instr.box,newVar,newRow]
 ·show Jk E c' a ⟨st.t,(nx,.var tt cs)::st.H,st.nx+1⟩
  rw[hnx];exact hr'
 rw[hV] at hb
 simpa using hb
end
section
variable {H H' R:List (Nat×Qj)}{x ob:Qj}{k i:Nat}
end
end Go.Proofs.YtnkkokmmeplbgaaGreat
