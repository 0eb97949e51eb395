/-
  Contracts: the example of the chapter.
-/
import Derived.Test.YtnkkokmmeplbgaaGreatB15
import Derived.Test.YtnkkokmmeplbgaaGreatB14
import Derived.Test.YtnkkokmmeplbgaaGreatA4
import Derived.Test.YtnkkokmmeplbgaaGreatRows
import Derived.Deep.Slices
import Derived.Deep.Fields
import Derived.ChangeSame
import Derived.SliceStrings
import Derived.ProofKit
namespace Go.Proofs.YtnkkokmmeplbgaaGreat
set_option maxRecDepth 100000
open Go.RowKit
theorem QtH {es:List En}{e:En}(h:e∈es):1+e.1.length≤Qb4 es:=by
 obtain⟨k,hk⟩:=List.mem_iff_getElem?.1 h
 have:=Qi1 hk
 have:=Qpm es (k+1)
 omega
theorem Qme:∀es:List En,es.length≤Qb4 es
 |[]=>Nat.zero_le _
 |e::r=>by
  have:=Qme r
  have h:Qb4 (e::r)=(1+e.1.length)+Qb4 r:=by simp[Qb4]
  rw[h,List.length_cons];omega
theorem QnM (v:Qz):1≤Wq v:=by rw[Qgn];omega
theorem Qh7:∀ {ps:List Qz} {p:Qz},p∈ps→Wq p≤Yz ps
 |q::r,p,h=>by
  rw[Yz]
  rcases List.mem_cons.1 h with rfl|h
  ·omega
  have:=Qh7 h;omega
theorem Qh5:∀ps:List Qz,ps.length≤Yz ps
 |[]=>Nat.zero_le _
 |p::r=>by have:=Qh5 r;have:=QnM p;rw[Yz,List.length_cons];omega
theorem Qm2 (n:Nat)(hn:n≤65)(v:Qz)(h:Wq v≤n):SmV n v:=by
 have e:=Qgn v
 have h1:=Qme v.es
 have h2:=Qh5 v.ps
 exact .mk v (by omega) (by omega) (by omega) (fun x hx=>by have:=QtH hx;omega) (fun p hp=>Qm2 n hn p (by have:=Qh7 hp;omega))
termination_by v
decreasing_by exact Qz.sizeOf_ps ‹_›
theorem Qln {v:Qz}(h:Wu v 40=true):SmV 40 v:=Qm2 40 (by decide) v (by have:=of_decide_eq_true h;omega)
theorem Qgj {l:Qv}{vs:List Qz}(hc:QJ l=0)(h:(vs.all fun v=>QA v l)=true):JP l vs=0:=by
 unfold JP QaC
 have:vs.all (Xr l)=true:=by
  rw[List.all_eq_true] at h ⊢
  intro v hv
  simp[Xr,hc,h v hv]
 simp[hc,this]
theorem Ql4 {l:Qv}{vs:List Qz}{v:Qz}(hc:JP l vs=0)(h:YZ l vs=v):Qcx l vs=(v,0):=by rw[Qcx,if_pos hc,h]
theorem QqK {l:Qv}{vs:List Qz}{o:List Int}(hc:JP l vs=0)(h:KE l vs vs.length=some o):Qee l vs=(o,true):=by rw[Qee,if_pos hc,h]
theorem Quc {l:Qv}{a b:Qz}{r:Bool}(hc:JP l [a,b]=0)(h:(QE l a b||QE l b a)=r):QiN l a b=r:=by rw[QiN,hc,h];rfl
open Go.RowKit Go.ChangeShapes Go.WideShapes Go.ChangeAt
def Qgx (w:World):Nat→Nat→Prop:=fun b _=>b<w.heap.size
section
variable {H:Type}{enc:TypeId×Value→H}{P:Program}{w:World}{base:Nat}{spare:Nat→Bool}{held:Bool}
theorem QtM {t e:TypeId}{fuel:Nat}{v:Value}{x:DataW H×List MemPlace}(ht:P.underlying t=some (.slice e))(k:Nat)(he:P.cellsOf e=k)(hk:0<k)(h:DataW.trod enc P w base spare held fuel t [v]=some x):
  ∃A n c,v=.slice A n c∧n≤c∧c≤maxLen∧(0<n→∃b off,A=some ⟨b,off,none⟩∧b<w.heap.size∧∀j,j<n→∃ds y m,m<fuel∧ds.length=k∧(∀i u,ds[i]?=some u→w.cell? ⟨b,off+j*k+i,none⟩=some u)∧DataW.trod enc P w base spare held m e ds=some y):=by
 rcases DataW.trod_slice ht h with ⟨hcs,_⟩|⟨a,len,cap,elems,rest,n,hfu,hcs,-,hb,hl,hm,hlen,hel,-,-⟩
 ·simp only[List.cons.injEq,and_true] at hcs
  exact⟨none,0,0,hcs,Nat.le_refl _,Nat.zero_le _,fun h=>absurd h (by omega)⟩
 simp only[List.cons.injEq,and_true] at hcs
 refine⟨some a,len,cap,hcs,hl,hm,fun h0=>?_⟩;rw[he] at hel
 have hat:∀j,j<len→∃ds y,ds.length=k∧(∀i u,ds[i]?=some u→w.cell? ((a.add (j*k)).add i)=some u)∧DataW.trod enc P w base spare held n e ds=some y:=by
  intro j hj
  have key:=hel j hj
  rw[List.getElem?_eq_getElem (by omega)] at key;obtain⟨cs',h1,h2⟩:=Option.bind_eq_some_iff.1 key;obtain⟨_,hcl,hat⟩:=World.cells?_some h1
  exact⟨cs',_,hcl,fun i u hu=>by
   have hi:=(List.getElem?_eq_some_iff.1 hu).1
   rw[hat i (by omega),hu],h2⟩
 obtain⟨ds,y,hdl,hc,-⟩:=hat 0 h0
 have hc0:=hc 0 _ (List.getElem?_eq_getElem (by omega))
 obtain⟨b,off,spot⟩:=a
 have hsp:spot=none:=by simpa [Addr.add] using World.cell?_spot hc0
 subst hsp
 have ha:∀o j,(⟨b,o,none⟩:Addr).add j=⟨b,o+j,none⟩:=by intro o j;unfold Addr.add;split<;>simp_all
 refine⟨b,off,rfl,World.block_lt_of_cell? w _ (by simpa [Addr.add] using hc0),fun j hj=>?_⟩;obtain⟨ds,y,hdl,hc,ht⟩:=hat j hj;refine⟨ds,y,n,by omega,hdl,fun i u hu=>?_,ht⟩
 have:=hc i u hu
 rw[ha,ha] at this;exact this
def RdC (w:World)(cs:List Value)(xs:List AV):Prop:=∀(i:Nat) (u:Value) (a:AV),cs[i]?=some u→xs[i]?=some a→FR w (Qgx w) u a
theorem Qdk {t e:TypeId}{fuel:Nat}{v:Value}{x:DataW H×List MemPlace}(ht:P.underlying t=some (.slice e))(k:Nat)(he:P.cellsOf e=k)(hk:0<k)(h:DataW.trod enc P w base spare held fuel t [v]=some x)
  {α:Type} (f:α→List AV) (hf:∀z,(f z).length=k) (hel:∀m ds y,m<fuel→ds.length=k→DataW.trod enc P w base spare held m e ds=some y→∃z:α,RdC w ds (f z)):∃l:List α,FR w (Qgx w) v (.sl (l.map f) none):=by
 obtain⟨A,n,c,rfl,h1,h2,h3⟩:=QtM ht k he hk h
 by_cases hn:0<n
 ·obtain⟨b,off,rfl,hb,hat⟩:=h3 hn
  obtain⟨l,hl,hp⟩:=QcJ (p:=fun j (z:α)=>∀i a,(f z)[i]?=some a→∃u,w.cell? ⟨b,off+j*k+i,none⟩=some u∧FR w (Qgx w) u a) n (fun j hj=>by
   obtain⟨ds,y,m,hm,hdl,hcl,htr⟩:=hat j hj;obtain⟨z,hz⟩:=hel m ds y hm hdl htr;refine⟨z,fun i a ha=>?_⟩
   have hi:i<ds.length:=by have:=(List.getElem?_eq_some_iff.1 ha).1;rw[hf] at this;omega
   exact⟨ds[i],hcl i _ (List.getElem?_eq_getElem hi),hz i _ a (List.getElem?_eq_getElem hi) ha⟩)
  have key:∀(j:Nat) (e:List AV) (i:Nat) (x:AV),(l.map f)[j]?=some e→e[i]?=some x→∃u,w.cell? ⟨b,off+j*k+i,none⟩=some u∧FR w (Qgx w) u x:=fun j e i x hj hi=>by
   rw[List.getElem?_map] at hj
   cases hz:l[j]? with
   |none=>rw[hz] at hj;cases hj
   |some z=>rw[hz] at hj;cases hj;exact hp j z hz i x hi
  refine⟨l,.sl _ n c k _ b off (fun j i=>(w.cell? ⟨b,off+j*k+i,none⟩).getD undef) (by simp[hl]) h1 h2 (fun _=>rfl) (fun j e hj=>?_) (fun j e i x hj hi=>?_) (fun j e i x hj hi=>?_)⟩
  ·rw[List.getElem?_map] at hj
   cases hz:l[j]? with
   |none=>rw[hz] at hj;cases hj
   |some z=>rw[hz] at hj;cases hj;exact hf z
  ·obtain⟨u,hu,-⟩:=key j e i x hj hi
   exact⟨hb,by rw[hu];rfl⟩
  obtain⟨u,hu,hfr⟩:=key j e i x hj hi
  rw[hu];exact hfr
 obtain rfl:n=0:=by omega
 exact⟨[],.nil _ _ _ _ h2⟩
theorem Qt7 (s:ByteArray):(⟨s.data.toList.toArray⟩:ByteArray)=s:=by cases s;simp
theorem QnN (s:ByteArray):sv s.data.toList=.p (.string s):=by show AV.p (.string ⟨s.data.toList.toArray⟩)=_;rw[Qt7]
end
section
variable {H:Type}{enc:TypeId×Value→H}{w:World}{base:Nat}{spare:Nat→Bool}{held:Bool}
theorem QnG {fuel:Nat}{v:Value}{x:DataW H×List MemPlace}(h:DataW.trod enc Tryz.prog w base spare held fuel 22 [v]=some x):∃l:List Nm,FR w (Qgx w) v (Jz l):=
 Qdk Tryz.underlying22 1 (by kernel_rfl) (by decide) h sv1 (fun _=>rfl) (fun m ds y _ hdl ht=>by
  obtain⟨s,hs,-,-⟩:=DataW.trod_string Tryz.underlying9 ht
  subst hs
  refine⟨s.data.toList,fun i u a hi ha=>?_⟩
  match i,hi,ha with
  |0,hi,ha=>
   simp[sv1] at hi ha
   subst hi ha
   rw[QnN];exact .p _
  |i+1,hi,_=>simp at hi)
theorem Qv9 {fuel:Nat}{v:Value}{x:DataW H×List MemPlace}(h:DataW.trod enc Tryz.prog w base spare held fuel 147 [v]=some x):∃l:List Tk,FR w (Qgx w) v (tks l):=
 Qdk Tryz.underlying147 2 (by kernel_rfl) (by decide) h tkC (fun _=>rfl) (fun m ds y _ hdl ht=>by
  obtain⟨u0,u1,rfl⟩:∃a b,ds=[a,b]:=by
   match ds,hdl with
   |[a,b],_=>exact⟨a,b,rfl⟩
  obtain⟨xs,k,-,rfl,hl,hlen,hf⟩:=DataW.trod_struct Tryz.underlying192 ht
  have f0:=hf 0 _ rfl
  have f1:=hf 1 _ rfl
  have hx0:xs[0]?=some (xs[0]'(by rw[hlen];decide)):=List.getElem?_eq_getElem _
  have hx1:xs[1]?=some (xs[1]'(by rw[hlen];decide)):=List.getElem?_eq_getElem _
  obtain⟨p,hp,-⟩:=DataW.trod_int Tryz.underlying3 (f0.trans hx0);obtain⟨q,hq,-⟩:=DataW.trod_int Tryz.underlying2 (f1.trans hx1)
  have hp':[u0]=[Value.int .i64 p]:=hp
  have hq':[u1]=[Value.int .i64 q]:=hq
  simp only[List.cons.injEq,and_true] at hp' hq'
  subst hp' hq'
  refine⟨(p,q),fun i u a hi ha=>?_⟩
  match i,hi,ha with
  |0,hi,ha=>simp[tkC] at hi ha;subst hi ha;exact .p _
  |1,hi,ha=>simp[tkC] at hi ha;subst hi ha;exact .p _
  |i+2,hi,_=>simp at hi)
theorem Qw9 {fuel:Nat}{v:Value}{x:DataW H×List MemPlace}(h:DataW.trod enc Tryz.prog w base spare held fuel 28 [v]=some x):∃l:List En,FR w (Qgx w) v (ens l):=
 Qdk Tryz.underlying28 2 (by kernel_rfl) (by decide) h enC (fun _=>rfl) (fun m ds y _ hdl ht=>by
  obtain⟨u0,u1,rfl⟩:∃a b,ds=[a,b]:=by
   match ds,hdl with
   |[a,b],_=>exact⟨a,b,rfl⟩
  obtain⟨xs,k,-,rfl,hl,hlen,hf⟩:=DataW.trod_struct Tryz.underlying149 ht
  have f0:=hf 0 _ rfl
  have f1:=hf 1 _ rfl
  have hx0:xs[0]?=some (xs[0]'(by rw[hlen];decide)):=List.getElem?_eq_getElem _
  have hx1:xs[1]?=some (xs[1]'(by rw[hlen];decide)):=List.getElem?_eq_getElem _
  obtain⟨ts,hts⟩:=Qv9 (v:=u0) (f0.trans hx0);obtain⟨s,hs,-,-⟩:=DataW.trod_string Tryz.underlying9 (f1.trans hx1)
  have hs':[u1]=[Value.string s]:=hs
  simp only[List.cons.injEq,and_true] at hs'
  subst hs'
  refine⟨(ts,s.data.toList),fun i u a hi ha=>?_⟩
  match i,hi,ha with
  |0,hi,ha=>simp[enC] at hi ha;subst hi ha;exact hts
  |1,hi,ha=>simp[enC] at hi ha;subst hi ha;rw[QnN];exact .p _
  |i+2,hi,_=>simp at hi)
theorem Qsx (y:Qz):(Ym y).length=4:=by rw[KK];rfl
theorem Qs2 (y:Qv):(Qna y).length=6:=by rw[QkT];rfl
theorem Qxh:∀(fuel:Nat) (cs:List Value) (x:DataW H×List MemPlace),DataW.trod enc Tryz.prog w base spare held fuel 30 cs=some x→cs.length=4∧∃y:Qz,RdC w cs (QO y):=by
 intro fuel
 induction fuel using Nat.strongRecOn with
 |_ fuel ih=>
  intro cs x h;obtain⟨xs,k,hfu,-,hl,hlen,hf⟩:=DataW.trod_struct Tryz.underlying30 h
  have h4:cs.length=4:=hl.trans (by kernel_rfl)
  refine⟨h4,?_⟩
  obtain⟨u0,u1,u2,u3,rfl⟩:∃a b c d,cs=[a,b,c,d]:=by
   match cs,h4 with
   |[a,b,c,d],_=>exact⟨a,b,c,d,rfl⟩
  have f0:=hf 0 _ rfl
  have f1:=hf 1 _ rfl
  have f2:=hf 2 _ rfl
  have f3:=hf 3 _ rfl
  have hx0:xs[0]?=some (xs[0]'(by rw[hlen];decide)):=List.getElem?_eq_getElem _
  have hx1:xs[1]?=some (xs[1]'(by rw[hlen];decide)):=List.getElem?_eq_getElem _
  have hx2:xs[2]?=some (xs[2]'(by rw[hlen];decide)):=List.getElem?_eq_getElem _
  have hx3:xs[3]?=some (xs[3]'(by rw[hlen];decide)):=List.getElem?_eq_getElem _
  obtain⟨N,hN,-⟩:=DataW.trod_int Tryz.underlying2 (f0.trans hx0)
  have hN':[u0]=[Value.int .i64 N]:=hN
  simp only[List.cons.injEq,and_true] at hN'
  subst hN'
  obtain⟨nm,hnm⟩:=QnG (v:=u1) (f1.trans hx1);obtain⟨es,hes⟩:=Qw9 (v:=u3) (f3.trans hx3)
  subst hfu
  obtain⟨ps,hps⟩:=Qdk (v:=u2) Tryz.underlying27 4 (by kernel_rfl) (by decide) (f2.trans hx2) Ym Qsx (fun m ds y hm hdl ht=>by
   obtain⟨-,z,hz⟩:=ih m (by omega) ds y ht
   exact⟨z,by rw[KK];exact hz⟩)
  refine⟨.mk N nm ps es,fun i u a hi ha=>?_⟩
  match i,hi,ha with
  |0,hi,ha=>simp at hi ha;subst hi ha;exact .p _
  |1,hi,ha=>simp at hi ha;subst hi ha;exact hnm
  |2,hi,ha=>simp at hi ha;subst hi ha;exact hps
  |3,hi,ha=>simp at hi ha;subst hi ha;exact hes
  |i+4,hi,_=>simp at hi
theorem Qxc {fuel:Nat}{v:Value}{x:DataW H×List MemPlace}(h:DataW.trod enc Tryz.prog w base spare held fuel 24 [v]=some x):∃l:List Ru,FR w (Qgx w) v (rus l):=
 Qdk Tryz.underlying24 2 (by kernel_rfl) (by decide) h ruC (fun _=>rfl) (fun m ds y _ hdl ht=>by
  obtain⟨u0,u1,rfl⟩:∃a b,ds=[a,b]:=by
   match ds,hdl with
   |[a,b],_=>exact⟨a,b,rfl⟩
  obtain⟨xs,k,-,rfl,hl,hlen,hf⟩:=DataW.trod_struct Tryz.underlying188 ht
  have f0:=hf 0 _ rfl
  have f1:=hf 1 _ rfl
  have hx0:xs[0]?=some (xs[0]'(by rw[hlen];decide)):=List.getElem?_eq_getElem _
  have hx1:xs[1]?=some (xs[1]'(by rw[hlen];decide)):=List.getElem?_eq_getElem _
  obtain⟨ts,hts⟩:=QnG (v:=u0) (f0.trans hx0);obtain⟨s,hs,-,-⟩:=DataW.trod_string Tryz.underlying9 (f1.trans hx1)
  have hs':[u1]=[Value.string s]:=hs
  simp only[List.cons.injEq,and_true] at hs'
  subst hs'
  refine⟨⟨ts,s.data.toList⟩,fun i u a hi ha=>?_⟩
  match i,hi,ha with
  |0,hi,ha=>simp[ruC] at hi ha;subst hi ha;exact hts
  |1,hi,ha=>simp[ruC] at hi ha;subst hi ha;rw[QnN];exact .p _
  |i+2,hi,_=>simp at hi)
theorem QwD:∀(fuel:Nat) (cs:List Value) (x:DataW H×List MemPlace),DataW.trod enc Tryz.prog w base spare held fuel 26 cs=some x→cs.length=6∧∃y:Qv,RdC w cs (Q7 y):=by
 intro fuel
 induction fuel using Nat.strongRecOn with
 |_ fuel ih=>
  intro cs x h;obtain⟨xs,k,hfu,-,hl,hlen,hf⟩:=DataW.trod_struct Tryz.underlying26 h
  have h6:cs.length=6:=hl.trans (by kernel_rfl)
  refine⟨h6,?_⟩
  obtain⟨u0,u1,u2,u3,u4,u5,rfl⟩:∃a b c d e f,cs=[a,b,c,d,e,f]:=by
   match cs,h6 with
   |[a,b,c,d,e,f],_=>exact⟨a,b,c,d,e,f,rfl⟩
  have f0:=hf 0 _ rfl
  have f1:=hf 1 _ rfl
  have f2:=hf 2 _ rfl
  have f3:=hf 3 _ rfl
  have f4:=hf 4 _ rfl
  have f5:=hf 5 _ rfl
  have hx0:xs[0]?=some (xs[0]'(by rw[hlen];decide)):=List.getElem?_eq_getElem _
  have hx1:xs[1]?=some (xs[1]'(by rw[hlen];decide)):=List.getElem?_eq_getElem _
  have hx2:xs[2]?=some (xs[2]'(by rw[hlen];decide)):=List.getElem?_eq_getElem _
  have hx3:xs[3]?=some (xs[3]'(by rw[hlen];decide)):=List.getElem?_eq_getElem _
  have hx4:xs[4]?=some (xs[4]'(by rw[hlen];decide)):=List.getElem?_eq_getElem _
  have hx5:xs[5]?=some (xs[5]'(by rw[hlen];decide)):=List.getElem?_eq_getElem _
  obtain⟨K,hK,-⟩:=DataW.trod_int Tryz.underlying3 (f0.trans hx0)
  have hK':[u0]=[Value.int .i64 K]:=hK
  obtain⟨lo,hlo,-⟩:=DataW.trod_int Tryz.underlying2 (f1.trans hx1)
  have hlo':[u1]=[Value.int .i64 lo]:=hlo
  obtain⟨hi,hhi,-⟩:=DataW.trod_int Tryz.underlying2 (f2.trans hx2)
  have hhi':[u2]=[Value.int .i64 hi]:=hhi
  simp only[List.cons.injEq,and_true] at hK' hlo' hhi'
  subst hK' hlo' hhi'
  obtain⟨nm,hnm⟩:=QnG (v:=u3) (f3.trans hx3);obtain⟨rs,hrs⟩:=Qxc (v:=u5) (f5.trans hx5)
  subst hfu
  obtain⟨ps,hps⟩:=Qdk (v:=u4) Tryz.underlying23 6 (by kernel_rfl) (by decide) (f4.trans hx4) Qna Qs2 (fun m ds y hm hdl ht=>by
   obtain⟨-,z,hz⟩:=ih m (by omega) ds y ht
   exact⟨z,by rw[QkT];exact hz⟩)
  refine⟨.mk K lo hi nm ps rs,fun i u a hi ha=>?_⟩
  match i,hi,ha with
  |0,hi,ha=>simp at hi ha;subst hi ha;exact .p _
  |1,hi,ha=>simp at hi ha;subst hi ha;exact .p _
  |2,hi,ha=>simp at hi ha;subst hi ha;exact .p _
  |3,hi,ha=>simp at hi ha;subst hi ha;exact hnm
  |4,hi,ha=>simp at hi ha;subst hi ha;exact hps
  |5,hi,ha=>simp at hi ha;subst hi ha;exact hrs
  |i+6,hi,_=>simp at hi
theorem Qvu {cs:Array Value}{xs:List AV}(hl:cs.toList.length=xs.length)(h:RdC w cs.toList xs):FR w (Qgx w) (.agg cs) (.agg xs):=by
 have:=FR.agg (w:=w) (S:=Qgx w) cs.toList xs hl h
 simpa using this
end
theorem QsG {P:Program}{f:FuncId}{args:List AV}(h:FC P f args (bl true))(W:World)(vs:List Value)(hl:vs.length=args.length)(hr:∀(i:Nat) (v:Value) (x:AV),vs[i]?=some v→args[i]?=some x→FR W (Qgx W) v x):
  Calls P f vs.toArray W fun e W'=>e=.returned (.bool true)∧Below W.heap.size W W':=by
 refine(h W (Qgx W) vs (fun _ _ h=>h) ⟨hl,hr⟩).mono ?_;rintro e w' ⟨v,S',rfl,hb,-,-,hfr⟩
 cases hfr
 exact⟨rfl,hb.toBelow⟩
end Go.Proofs.YtnkkokmmeplbgaaGreat
