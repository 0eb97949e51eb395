/-
  Rows of one's own, written and read: elements of any number 
-/
import Derived.Test.YtnkkokmmeplbgaaGreatA5
namespace Go.Proofs.YtnkkokmmeplbgaaGreat
open Go.RowKit
theorem Ql1 {k:Nat}:∀ {es:List (List AV)} {j:Nat} {e:List AV},(∀e∈es,e.length=k)→es[j]?=some e→es.flatten.drop (j*k)=e++(es.drop (j+1)).flatten
 |[],_,_,_,h=>by simp at h
 |x::es,0,e,hk,h=>by simp at h;subst h;simp
 |x::es,j+1,e,hk,h=>by
  have:=Ql1 (es:=es) (j:=j) (fun e he=>hk e (by simp[he])) (by simpa using h)
  rw[List.flatten_cons,show(j+1)*k=x.length+j*k by rw[hk x (by simp),Nat.add_mul];omega,List.drop_append,List.drop_of_length_le (by omega)]
  simpa using this
theorem QnJ (x F ys:List AV)(p:Nat):Yq (x++F) (x.length+p) ys=x++Yq F p ys:=by
 have h1:(x++F).take (x.length+p)=x++F.take p:=by rw[List.take_append,List.take_of_length_le (Nat.le_add_right _ _),Nat.add_sub_cancel_left]
 have h2:(x++F).drop (x.length+p+ys.length)=F.drop (p+ys.length):=by
  rw[List.drop_append,List.drop_of_length_le (by omega),Nat.add_assoc,Nat.add_sub_cancel_left];rfl
 unfold Yq
 rw[h1,h2];simp
theorem Qlc {k:Nat}{ys:List AV}(hy:ys.length=k):∀ {es:List (List AV)} {j:Nat},(∀e∈es,e.length=k)→j<es.length→(es.set j ys).flatten=Yq es.flatten (j*k) ys
 |[],j,_,h=>by simp at h
 |x::es,0,hk,_=>by
  have:=hk x (by simp)
  simp[Yq,hy,←this]
 |x::es,j+1,hk,h=>by
  have ih:=Qlc hy (es:=es) (j:=j) (fun e he=>hk e (by simp[he])) (by simpa using h)
  have hx:=hk x (by simp)
  rw[List.set_cons_succ,List.flatten_cons,ih,List.flatten_cons,show(j+1)*k=x.length+j*k by rw[hx,Nat.add_mul];omega,QnJ]
section
variable {P:Program}{E:X7}{Q:Exit→St→Prop}{ops:Array Oper}{o:Oper}{rest:List Oper}{t:List (Nat×AV)}{H:List (Nat×Qj)}{nx N d:Nat}{w:Bool}{st:St}
theorem XJ {tt:TypeId}{x:Operand}(ho:o.op=.load tt x){n:Nat}{row:Bool}[hT:XV P tt n row]{q m off:Nat}(hx:X4 st x=some (.eptr q m off)){te:TypeId}{k:Nat}{es:List (List AV)}(hq:Qb st.H q=some (.arr te k es))(hm:m=es.length)(hk:∀e∈es,e.length=k)(j:Nat)(hoff:off=j*k){e:List AV}(he:es[j]?=some e){r:AV}(hl:∀z,W7 row n (e++z)=some r)(hn:Nat.blt 0 n=true):PY P E o st r:=by
 subst hm hoff
 refine Xc ho hx (cs:=e++(es.drop (j+1)).flatten) ?_ (hl _) hn
 simp only[St.at_,hq]
 rw[Nat.beq_refl,cond_true,Ql1 hk he]
theorem QiJ {tt:TypeId}{x y:Operand}(ho:o.op=.store tt x y){n:Nat}{row:Bool}[hT:XV P tt n row]{q off:Nat}{te:TypeId}{es:List (List AV)}(hx:X4 ⟨t,H,nx⟩ x=some (.eptr q es.length off))(hq:Qb H q=some (.arr te n es))(j:Nat)(hoff:off=j*n)(hj:j<es.length)
  {ay:AV} {ys:List AV} (hy:X4 ⟨t,H,nx⟩ y=some ay) (hc:St.cells1 ⟨t,H,nx⟩ ay=some ys) (hyn:ys.length=n) (hk:∀e∈es,e.length=n):∀c a,Jk E c a ⟨t,H,nx⟩→∃c':Cx,(execOp a.eval o).run P c.w=.ok .skip c'.w∧Jk E c' a (St.set ⟨t,H,nx⟩ q (.arr te n (es.set j ys))):=fun c a hr=>by
 subst hoff
 have hvx:=hr.ev x
 rw[QZ hx] at hvx
 have hce:=hr.ev y
 rw[QZ hy] at hce;obtain⟨h1,h2,h3⟩:=hr.cells hce hc;obtain⟨hkq,v0,hv0,hor,_⟩:=hr.live q _ hq
 cases hor with
 |arr _ _ _ _ xs hown _ hxs hS=>
  have hjn:(j+1)*n≤es.length*n:=Nat.mul_le_mul_right _ hj
  rw[Nat.add_mul,Nat.one_mul] at hjn
  rcases hown.2 with ⟨hnil,h0⟩|⟨g,cap,cur,hv,-,hgb,hnc,hcm,hcs,htk⟩
  ·omega
  subst hv
  have hvp:a.eval x=.pointer (some ⟨g,j*n,none⟩):=by
   generalize a.eval x=vx at hvx
   cases hvx with
   |fr _ _ h=>cases h
   |eptr _ _ _ _ hK hV=>
    obtain⟨_,h2⟩:=hV _ _ _ hv0;obtain⟨b',h3,h4⟩:=h2 rfl
    cases h3
    exact h4
  obtain⟨vs,hvs⟩:∃vs,vs=(a.eval y).cells.toList:=⟨_,rfl⟩
  have hvl:vs.length=n:=by rw[hvs];simp[h1,hyn]
  have hcapn:es.length*n≤cap*n:=Nat.mul_le_mul_right _ hnc
  obtain⟨cur',h4,h5,h6⟩:=Qan g te (0,0) vs (j*n) c.w cur hgb;obtain⟨r1,r2,r3,r4,r5⟩:=WA g vs (j*n) c.w
  have hxl:xs.length=es.length*n:=hown.1
  have hcur:∀i,i<es.length*n→cur[i]?=xs[i]?:=fun i hi=>by
   have:=congrArg (·[i]?) htk
   simpa only [List.getElem?_take,if_pos hi,Array.getElem?_toList] using this
  obtain⟨xs',hxs'⟩:∃xs',xs'=xs.take (j*n)++vs++xs.drop (j*n+n):=⟨_,rfl⟩
  have hxg:∀i,xs'[i]?=if j*n≤i∧i<j*n+n then vs[i-j*n]? else xs[i]?:=fun i=>by
   rw[hxs']
   by_cases ha:i<j*n
   ·rw[if_neg (by omega),List.append_assoc,List.getElem?_append_left (by simp;omega),List.getElem?_take,if_pos ha]
   by_cases hb:i<j*n+n
   ·rw[if_pos (by omega),List.append_assoc,List.getElem?_append_right (by simp;omega),List.getElem?_append_left (by simp;omega)]
    congr 1
    simp;omega
   rw[if_neg (by omega),List.getElem?_append_right (by simp;omega),List.getElem?_drop]
   congr 1
   simp;omega
  have hxl':xs'.length=es.length*n:=by rw[hxs'];simp;omega
  have hfs:=Qlc hyn hk hj
  have hel:∀e∈es.set j ys,e.length=n:=fun e he=>by
   rcases List.mem_or_eq_of_mem_set he with h|h
   ·exact hk e h
   rw[h];exact hyn
  obtain⟨c',e1,-,hle',-,-,hr'⟩:=hr.upd hq (w':=c.w.setCells g (j*n) vs) (S':=c.S) hv0 (.arr te n (es.set j ys)) (v':=.slice (some ⟨g,0,none⟩) es.length cap) r1 r2 r3 ⟨by omega,by omega⟩
   (fun k hk hne=>J7 g _ _ _ k (fun e=>hne (by rw[e];rfl)))
   (fun b' off' hs=>⟨hs,by
    have hne:b'≠g:=fun e=>hS b' (by rw[e];rfl) off' hs
    have:=J7 g vs (j*n) c.w b' hne
    simp only[World.cell?,this]⟩)
   (fun b' off' hs=>.inl hs) (.inl rfl) (.refl _)
   (fun c' e1 e2 hle=>.arr _ te n (es.set j ys) xs' (by
    rw[e1,List.length_set];refine⟨hxl',.inr ⟨g,cap,cur',rfl,Nat.zero_le _,h4,hnc,hcm,by rw[h5,hcs],?_⟩⟩
    have:=QmZ (cur:=cur') (l:=xs') (by rw[h5,hcs,hxl'];omega) (fun i hi=>by
     rw[hxl'] at hi;rw[h6,hxg]
     by_cases hin:j*n≤i∧i<j*n+n
     ·rw[if_pos ⟨hin.1,by rw[hvl];exact hin.2,by rw[hcs];omega⟩,if_pos hin]
     rw[if_neg (by rw[hvl];omega),if_neg hin,hcur i hi])
    rwa [hxl'] at this) hel (fun i u z hi hz=>by
     rw[hxg] at hi;rw[hfs,Qdr _ _ _ (by rw[QcA hk,hyn];omega)] at hz;rw[hyn] at hz
     by_cases hin:j*n≤i∧i<j*n+n
     ·rw[if_pos hin] at hi hz
      rw[hvs] at hi;exact(h2 _ u z (by simpa using hi) hz).mono hle
     rw[if_neg hin] at hi hz
     exact(hxs i u z hi hz).mono hle) (fun b hb off hs=>by rw[e2] at hs;exact hS b hb off hs))
  refine⟨c',?_,hr'⟩;obtain⟨i,hi,hsz⟩:=JD hT.size
  have hrun:=run_storeCells_cells (P:=P) g (j*n) vs 0 c.w
   (fun i hi=>by
    rw[KT hgb]
    have:j*n+i<cur.size:=by rw[hcs];omega
    simp[this])
   (fun j hj=>by simp[World.frozen?,hgb]) (fun v hv=>h3 v (by rw[hvs] at hv;exact hv))
  rw[Nat.add_zero] at hrun;rw[e1]
  have hsz2:(a.eval y).cells.size=i.size:=by rw[h1];omega
  rw[hvs] at hrun ⊢
  simp[execOp,ho,hvp,Instr.storeAt,Instr.sureAddr,storeVar,sizeOf,typeInfo,hi,hsz2,hrun]
theorem Qlv (hN:E.N=N){tt:TypeId}{x y:Operand}(ho:o.op=.store tt x y){n:Nat}{row:Bool}[hT:XV P tt n row]{q m off:Nat}(hx:X4 ⟨t,H,nx⟩ x=some (.eptr q m off)){te:TypeId}{k:Nat}{es:List (List AV)}(hq:Qb H q=some (.arr te k es))(hm:m=es.length)(j:Nat)(hoff:off=j*k)(hj:j<es.length)
  {ay:AV} {ys:List AV} (hy:X4 ⟨t,H,nx⟩ y=some ay) (hc:St.cells1 ⟨t,H,nx⟩ ay=some ys) (hyn:ys.length=n) (hnk:n=k) (hk:∀e∈es,e.length=k) (hg:Qo ops ⟨t,H,nx⟩ o=some w) (hw:w=true) (hd:o.dst=none) {es':List (List AV)} (hs:es.set j ys=es')
  (h:Q3 P E ops rest Q ⟨t,(q,.arr te k es')::H,nx⟩):Q3 P E ops (o::rest) Q ⟨t,H,nx⟩:=by
 subst hw hm hoff hnk hs
 have _:=hN
 exact Qdf (St.set ⟨t,H,nx⟩ q (.arr te n (es.set j ys))) hg (Qxf hd) (QiJ ho hx hq j rfl hj hy hc hyn hk) (by rw[hd];exact h)
theorem Q5 {i:Nat}{T:St→Prop}(hi:ops[i]?=some o){tt:TypeId}{x y:Operand}(ho:o.op=.store tt x y){n:Nat}{row:Bool}[hT:XV P tt n row]{q m off:Nat}(hx:X4 ⟨t,H,nx⟩ x=some (.eptr q m off)){te:TypeId}{k:Nat}{es:List (List AV)}(hq:Qb H q=some (.arr te k es))(hm:m=es.length)(j:Nat)(hoff:off=j*k)(hj:j<es.length)
  {ay:AV} {ys:List AV} (hy:X4 ⟨t,H,nx⟩ y=some ay) (hc:St.cells1 ⟨t,H,nx⟩ ay=some ys) (hyn:ys.length=n) (hnk:n=k) (hk:∀e∈es,e.length=k) (hg:Qo ops ⟨t,H,nx⟩ o=some w) (hw:w=true) (hd:o.dst=none) {es':List (List AV)} (hs:es.set j ys=es')
  (h:T ⟨t,(q,.arr te k es')::H,nx⟩):aSt P E ops i T ⟨t,H,nx⟩:=by
 subst hw hm hoff hnk hs
 exact⟨o,_,hi,hg,hd,QiJ ho hx hq j rfl hj hy hc hyn hk,h⟩
end
section
variable {P:Program}{E:X7}{ops:Array Oper}{md:Region.Mode}
def WI (P:Program)(E:X7)(ops:Array Oper)(o:Oper)(x:AV)(s:St):Prop:=Qi5 E o∧∀c a,Jk E c a s→∃v,Yields P ops o v a∧VR c v x
def AT (P:Program)(E:X7)(ops:Array Oper)(md:Region.Mode)(Q:Exit→St→Prop):Nat→Array Bool→St→Prop
 |0,listed,s=>Region.ready md ops listed=[]∧Q .normal s
 |f+1,listed,s=>(∃i oi x,ops[i]?=some oi∧(Region.ready md ops listed).contains i=true∧Region.free md ops listed i=true∧WI P E ops oi x s∧AT P E ops md Q f (listed.setIfInBounds i true) (s.put oi.dst x)) ∨
  ((Region.ready md ops listed=[]→Q .normal s)∧∀i∈Region.ready md ops listed,aOp P E ops i (AT P E ops md Q f (listed.setIfInBounds i true)) s∨aSt P E ops i (AT P E ops md Q f (listed.setIfInBounds i true)) s)
theorem Qch {Q:Exit→St→Prop}(hs:Region.noSelect ops=true)(hQ:∀c s,Q (.panic c) s→False):∀(f:Nat) (listed:Array Bool) (c:Cx) (a:Act) (s:St),Jk E c a s→AT P E ops md Q f listed s→wpAny P md ops (QfB E Q) f listed a c.w
 |0,_,c,_,s,hr,h=>⟨h.1,c,s,rfl,hr,h.2⟩
 |f+1,listed,c,a,s,hr,h=>by
  rcases h with ⟨i,oi,x,hoi,hrd,hfr,⟨hd,hwi⟩,hk⟩|h
  ·obtain⟨v,hy,hv⟩:=hwi c a hr
   exact wpAny_take hoi hs hfr hrd (fun c' a' w' ⟨c2,s2,_,_,hq⟩=>(hQ c' s2 hq).elim) hy (Qch hs hQ f _ c _ _ (hr.put hd hv) hk)
  refine⟨fun h0=>⟨c,s,rfl,hr,h.1 h0⟩,fun i hi=>?_⟩
  rcases h.2 i hi with h1|⟨o,s',ho,hw,hd,hrun,hk⟩
  ·exact KR hr (fun c' a' s' hr' h'=>Qch hs hQ f _ c' a' s' hr' h') h1
  unfold wpOp
  simp only[ho]
  rw[Xx hw hr,if_pos rfl];obtain⟨c',hrun',hr'⟩:=hrun c a hr;refine .inl ?_
  unfold Oper.wp
  rw[hrun',Oper.upon_skip,hd];exact Qch hs hQ f _ c' _ s' hr' hk
theorem QsA {Q:Exit→St→Prop}{st:St}{id:Nat}{l:List Oper}(n:Nat)(hn:l.toArray.size=n)(hm:P.follows .mixedOrders=true)(hs:Region.noSelect l.toArray=true)(hQ:∀c s,Q (.panic c) s→False)(h:AT P E l.toArray .any Q n (Array.replicate n false) st):Y1 P E (.region id l.toArray true) Q st:=fun c a hr=>by
 subst hn
 exact wp_region_any hm (Qch hs hQ _ _ _ _ _ hr.drew h)
def QwB (P:Program)(E:X7)(ops:Array Oper)(md:Region.Mode)(Q:Exit→St→Prop)(f:Nat)(listed:Array Bool)(s:St):List Nat→Prop
 |[]=>True
 |i::r=>(aOp P E ops i (AT P E ops md Q f (listed.setIfInBounds i true)) s∨aSt P E ops i (AT P E ops md Q f (listed.setIfInBounds i true)) s)∧QwB P E ops md Q f listed s r
theorem QbR {Q:Exit→St→Prop}{f:Nat}{listed:Array Bool}{s:St}(rs:List Nat)(hr:Region.ready md ops listed=rs)(hne:rs.isEmpty=false)(h:QwB P E ops md Q f listed s rs):AT P E ops md Q (f+1) listed s:=by
 have key:∀(rs:List Nat),QwB P E ops md Q f listed s rs→∀i∈rs,aOp P E ops i (AT P E ops md Q f (listed.setIfInBounds i true)) s∨aSt P E ops i (AT P E ops md Q f (listed.setIfInBounds i true)) s:=by
  intro rs
  induction rs with
  |nil=>intro _ i hi;cases hi
  |cons j r ih=>
   rintro⟨h1,h2⟩ i hi
   rcases List.mem_cons.1 hi with rfl|hi
   ·exact h1
   exact ih h2 i hi
 refine .inr ⟨fun h0=>?_,fun i hi=>key rs h i (hr▸hi)⟩
 rw[h0] at hr;subst hr;cases hne
theorem QoE {Q:Exit→St→Prop}{listed:Array Bool}{s:St}(hr:Region.ready md ops listed=[])(h:Q .normal s):AT P E ops md Q 0 listed s:=⟨hr,h⟩
variable {o:Oper}{t:List (Nat×AV)}{H:List (Nat×Qj)}{nx N d:Nat}{w:Bool}
theorem WD {Q:Exit→St→Prop}{f:Nat}{listed:Array Bool}(i:Nat)(hi:ops[i]?=some o)(hr:(Region.ready md ops listed).contains i=true)(hf:Region.free md ops listed i=true){x:AV}(hd:o.dst=some d)(hy:WI P E ops o x ⟨t,H,nx⟩)
  (h:AT P E ops md Q f (listed.setIfInBounds i true) ⟨(d,x)::t,H,nx⟩):AT P E ops md Q (f+1) listed ⟨t,H,nx⟩:=.inl ⟨i,o,x,hi,hr,hf,hy,by rw[hd];exact h⟩
theorem QgP (hN:E.N=N){s:St}{x:AV}(hg:Qo ops s o=some w)(hw:w=true)(hd:o.dst=some d)(hdN:Nat.blt d N=true)(h:∀c a,Jk E c a s→∃v,(∀w,(execOp a.eval o).run P w=.ok (.value v) w)∧VR c v x):WI P E ops o x s:=by
 subst hw
 refine⟨dlt hN hd hdN,fun c a hr=>?_⟩;obtain⟨v,h1,h2⟩:=h c a hr;refine⟨v,.inl ⟨?_,h1⟩,h2⟩;rw[Xx hg hr]
variable {s:St}
theorem Y4 (hN:E.N=N){x:Operand}{r:AV}(ho:o.op=.move x)(hx:X4 s x=some r)(hg:Qo ops s o=some w)(hw:w=true)(hd:o.dst=some d)(hdN:Nat.blt d N=true):WI P E ops o r s:=QgP hN hg hw hd hdN fun c a hr=>by
 have hv:=hr.ev x
 rw[QZ hx] at hv;exact⟨a.eval x,fun w=>by simp[execOp,ho],hv⟩
theorem Qeo (hN:E.N=N){x:Operand}{r:AV}(ho:o.op=.assign x)(hx:X4 s x=some r)(hg:Qo ops s o=some w)(hw:w=true)(hd:o.dst=some d)(hdN:Nat.blt d N=true):WI P E ops o r s:=QgP hN hg hw hd hdN fun c a hr=>by
 have hv:=hr.ev x
 rw[QZ hx] at hv;exact⟨a.eval x,fun w=>by simp[execOp,ho],hv⟩
theorem Qs9 (hN:E.N=N){op:BinOp}{tt ty:TypeId}{x y:Operand}(ho:o.op=.binOp op tt x y ty){u u' v:Value}(hx:X4 s x=some (.p u))(hy:X4 s y=some (.p u'))[hb:QaG P tt op u u' v](hg:Qo ops s o=some w)(hw:w=true)(hd:o.dst=some d)(hdN:Nat.blt d N=true):WI P E ops o (.p v) s:=QgP hN hg hw hd hdN fun c a hr=>by
 have hvx:=hr.ev x
 rw[QZ hx] at hvx
 have hvy:=hr.ev y
 rw[QZ hy] at hvy;refine⟨v,fun w=>?_,.fr _ _ (.p _)⟩
 have:=hb.h x y w
 rw[←hvx.p_inv,←hvy.p_inv] at this;rw[Sem.run_bind] at this
 simp only[execOp,ho,Sem.run_bind,this,Result.andThen_ok,Sem.run_pure]
theorem QpH (hN:E.N=N){tt ty:TypeId}{x y:Operand}(ho:o.op=.binOp .sub tt x y ty){a b:Int}(hx:X4 s x=some (.p (.int .i64 a)))(hy:X4 s y=some (.p (.int .i64 b)))(h : -9223372036854775808≤a-b∧a-b≤9223372036854775807)(hg:Qo ops s o=some w)(hw:w=true)(hd:o.dst=some d)(hdN:Nat.blt d N=true):WI P E ops o (.p (.int .i64 (a-b))) s:=by
 have:=Qs9 (P:=P) (E:=E) (ops:=ops) hN ho hx hy (v:=.int .i64 (IntKind.i64.wrap (a-b))) hg hw hd hdN
 rwa [IntWalk.i64_in _ (by omega)] at this
theorem Qon (hN:E.N=N){tt ty:TypeId}{x y:Operand}(ho:o.op=.binOp .add tt x y ty){a b:Int}(hx:X4 s x=some (.p (.int .i64 a)))(hy:X4 s y=some (.p (.int .i64 b)))(h : -9223372036854775808≤a+b∧a+b≤9223372036854775807)(hg:Qo ops s o=some w)(hw:w=true)(hd:o.dst=some d)(hdN:Nat.blt d N=true):WI P E ops o (.p (.int .i64 (a+b))) s:=by
 have:=Qs9 (P:=P) (E:=E) (ops:=ops) hN ho hx hy (v:=.int .i64 (IntKind.i64.wrap (a+b))) hg hw hd hdN
 rwa [IntWalk.i64_in _ (by omega)] at this
theorem QoV (hN:E.N=N){tt:TypeId}{x ix:Operand}(ho:o.op=.indexAddr tt x ix){e:TypeId}{k:Nat}[hT:JJ P tt e k]{q m:Nat}(hx:X4 s x=some (.own q m)){kk:IntKind}{i:Int}(hi:X4 s ix=some (.p (.int kk i))){te:TypeId}{es:List (List AV)}(hq:Qb s.H q=some (.arr te k es))(hm:m=es.length)
  (j:Nat) (hij:i=(j:Int)) (hj:j<m) (hg:Qo ops s o=some w) (hw:w=true) (hd:o.dst=some d) (hdN:Nat.blt d N=true):WI P E ops o (.eptr q m (j*k)) s:=QgP hN hg hw hd hdN fun c a hr=>by
 have hv:=hr.ev x
 rw[QZ hx] at hv
 have hvi:=hr.ev ix
 rw[QZ hi] at hvi
 have hvi:=hvi.p_inv
 obtain⟨hKq,-⟩:=hr.live q _ hq;obtain⟨xs,hown,hV⟩:=hr.own_val hq hm hv
 rcases hown.2 with ⟨hn,h0⟩|⟨g,cap,cur,hvs,-,-,-⟩
 ·omega
 subst hij
 refine⟨.pointer (some ⟨g,j*k,none⟩),fun w=>?_,.eptr _ _ _ _ hKq fun A n' cap' hh=>?_⟩
 ·simp[execOp,ho,Instr.indexAt,hvi,hvs,asIntOf,run_underlying (Xq hT.h),hj,X6 hT.size,Addr.add_mk]
 rw[hV,hvs] at hh
 cases hh
 exact⟨Nat.le_refl _,fun _=>⟨g,rfl,rfl⟩⟩
end
end Go.Proofs.YtnkkokmmeplbgaaGreat
