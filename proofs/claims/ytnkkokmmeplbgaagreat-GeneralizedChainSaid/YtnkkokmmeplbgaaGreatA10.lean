/-
  A row of one's own that an element of another row of one's o
-/
import Derived.Test.YtnkkokmmeplbgaaGreatA8
import Derived.Scope
import Derived.Test.YtnkkokmmeplbgaaGreatA2
import Derived.Test.YtnkkokmmeplbgaaGreatA3
import Derived.Test.YtnkkokmmeplbgaaGreatT5
import Derived.Test.YtnkkokmmeplbgaaGreatA5
import Derived.ChangeKeysEq
import Derived.OrdersHeld
namespace Go.Proofs.YtnkkokmmeplbgaaGreat
open Go.RowKit
theorem QjL {x:AV}:∀ {eo:List (List AV)} {j i:Nat},(∀e∈eo,e.length=1)→(eo.set j [x]).flatten[i]?=if i=j∧j<eo.length then some x else eo.flatten[i]?
 |[],j,i,_=>by simp
 |e::eo,0,i,h=>by
  obtain⟨y,rfl⟩:=List.length_eq_one_iff.1 (h e (by simp))
  cases i<;>simp
 |e::eo,j+1,i,h=>by
  obtain⟨y,rfl⟩:=List.length_eq_one_iff.1 (h e (by simp))
  have ih:=fun i=>QjL (x:=x) (eo:=eo) (j:=j) (i:=i) (fun e he=>h e (by simp[he]))
  cases i with
  |zero=>simp
  |succ i=>
   rw[List.set_cons_succ,List.flatten_cons,List.flatten_cons]
   simp only[List.singleton_append,List.getElem?_cons_succ,ih,List.length_cons,Nat.add_right_cancel_iff,Nat.add_lt_add_iff_right]
theorem QmH {x:AV}:∀ {eo:List (List AV)} {j:Nat},(∀e∈eo,e.length=1)→eo[j]?=some [x]→eo.flatten[j]?=some x
 |[],j,_,h=>by simp at h
 |e::eo,0,_,h=>by simp at h;subst h;simp
 |e::eo,j+1,hk,h=>by
  obtain⟨y,rfl⟩:=List.length_eq_one_iff.1 (hk e (by simp));rw[List.getElem?_cons_succ] at h;rw[List.flatten_cons,List.singleton_append,List.getElem?_cons_succ];exact QmH (fun e he=>hk e (by simp[he])) h
def YM (ρ:List (Nat×Nat)):Qj→Qj
 | .var t cs=>.var t (cs.map (Kq ρ))
 | .tok t k n=>.tok t k n
 | .arr t k es=>.arr t k (es.map fun e=>e.map (Kq ρ))
def Qj.cells:Qj→List AV
 | .var _ cs=>cs
 | .tok _ _ _=>[]
 | .arr _ _ es=>es.flatten
def Qb0 (Hin:List (Nat×Qj)):AV→Bool
 | .agg cs | .tup cs | .fn _ cs=>cs.all (KH Hin)
 |x=>KH Hin x
structure Qto (Hout:List (Nat×Qj)) (m:Nat) (c c':Cx):Prop where
 os:c'.w.os=c.w.os
 tape:c'.w.tape=c.w.tape
 output:c'.w.output=c.w.output
 drawn:c.w.drawn≤c'.w.drawn
 size:c.w.heap.size≤c'.w.heap.size
 frame:∀b,b<c.w.heap.size→(∀o v,c.V o=some v→Xd v≠some b)→c'.w.heap[b]?=c.w.heap[b]?
 le:c.le c'
 K:∀o,c'.K o↔c.K o∨o<m
 Snew:∀b off,c'.S b off→c.S b off∨(∃o v,c.V o=some v∧Xd v=some b)∨c.w.heap.size≤b
 Ssz:∀b off,c'.S b off→b<c'.w.heap.size
 live:∀o ob,Qb Hout o=some ob→c'.K o∧∃v,c'.V o=some v∧OR c' v ob∧∀b,Xd v=some b→(∃o' v',c.V o'=some v'∧Xd v'=some b)∨c.w.heap.size≤b
 dead:∀o,Qb Hout o=none→c'.V o=none
 apart:∀o o' v v' b,c'.V o=some v→c'.V o'=some v'→Xd v=some b→Xd v'=some b→o=o'
def GX (P:Program)(f:FuncId)(args:List AV)(Hin:List (Nat×Qj))(res:AV)(Hout:List (Nat×Qj))(m:Nat):Prop:=
 ∀(c:Cx) (vs:List Value),GIn Hin c→vs.length=args.length→(∀(i:Nat) (v:Value) (x:AV),vs[i]?=some v→args[i]?=some x→VR c v x) →
  Calls P f vs.toArray c.w fun e w'=>∃v c',e=.returned v∧c'.w=w'∧Qto Hout m c c'∧VR c' v res
def AV.nt:AV→AV
 | .sl es _=>.sl es none
 |x=>x
def AV.ntt:AV→AV
 | .tup xs=>.tup (xs.map AV.nt)
 |x=>x.nt
theorem VR.nt {c:Cx}{v:Value}{x:AV}(h:VR c v x):VR c v x.nt:=by
 cases x with
 |sl es tk=>exact .fr _ _ h.sl_inv
 |_=>exact h
theorem VR.ntt {c:Cx}{v:Value}{x:AV}(h:VR c v x):VR c v x.ntt:=by
 have many:∀ {vs:List Value} {cs:List AV},vs.length=cs.length→(∀(i:Nat) (v:Value) (x:AV),vs[i]?=some v→cs[i]?=some x→VR c v x)→VR c (.tuple vs.toArray) (.tup (cs.map AV.nt)):=fun {vs cs} hl h=>
  .tup vs _ (by simpa using hl) fun i v x hi hj=>by
   rw[List.getElem?_map] at hj
   cases hx:cs[i]? with
   |none=>rw[hx] at hj;cases hj
   |some y=>rw[hx] at hj;cases hj;exact(h i v y hi hx).nt
 cases x with
 |tup cs=>cases h with
  |fr _ _ h=>cases h with|tup vs _ hl h=>exact many hl (fun i v x h1 h2=>.fr _ _ (h i v x h1 h2))
  |tup vs _ hl h=>exact many hl h
 |_=>exact h.nt
def retX (ts:List Nat)(res:AV)(Hout:List (Nat×Qj))(m:Nat):Exit→St→Prop
 | .normal,st | .ret,st=>(Xz st ts).ntt=res∧okId m res=true∧Nat.ble st.nx m=true∧Nat.ble m Qf=true∧∀o ob,Qb Hout o=some ob→Qb st.H o=some ob∧(Nat.blt o m||Nat.ble Qf o)=true∧JB m ob=true
 |_,_=>False
theorem Xt {P:Program}{f:FuncId}{fn:Func}{code:Code}{args:List AV}{res:AV}{Hin Hout:List (Nat×Qj)}{m:Nat}(ts:List Nat)(hf:P.funcs[f]?=some fn)(hb:fn.body=some code)(hres:fn.results=(ts.map ResultVar.tmp).toArray)(N:Nat)(hN:fn.ntmps=N)(hle:args.length≤N)
  (h:∀E:X7,E.N=N→Y1 P E code (retX ts res Hout m) ⟨Qao 0 args,Hin,0⟩):GX P f args Hin res Hout m:=by
 intro c0 vs hg hvl hv;refine calls_of_wp hf hb ?_
 let E:X7:=⟨N,c0.w,c0.S,fun b=>c0.w.heap.size≤b∨∃o v,c0.V o=some v∧Xd v=some b,fun _ h=>.inl h,c0.K,hg.big,c0.V⟩
 have hr:Jk E c0 { tmps:=vs.toArray++Array.replicate (fn.ntmps-vs.toArray.size) undef,defers:=[] } ⟨Qao 0 args,Hin,0⟩:={
  defers:=rfl
  size:=by show(vs.toArray++Array.replicate (fn.ntmps-vs.toArray.size) undef).size=N;simp;omega
  tmps:=fun i=>by
   show VR _ ((vs.toArray++Array.replicate (fn.ntmps-vs.toArray.size) undef).getD i undef) ((Qb (Qao 0 args) i).getD .bot)
   rw[Wp]
   simp only[Nat.zero_le,if_true,Nat.sub_zero]
   rcases Nat.lt_or_ge i args.length with hlt|hge
   ·have hlt':i<vs.length:=by omega
    have e:(vs.toArray++Array.replicate (fn.ntmps-vs.toArray.size) undef).getD i undef=vs[i]:=by
     simp[Array.getElem?_append,hlt']
    rw[e,List.getElem?_eq_getElem hlt];exact hv i _ _ (List.getElem?_eq_getElem hlt') (List.getElem?_eq_getElem hlt)
   rw[List.getElem?_eq_none hge];exact .fr _ _ (.bot _)
  live:=fun o ob h=>by
   obtain⟨h1,v,h2,h3⟩:=hg.live o ob h;exact⟨h1,v,h2,h3,fun b hb=>.inr ⟨o,v,h2,hb⟩⟩
  dead:=hg.dead
  apart:=hg.apart
  ids:=fun _ h=>.inr h
  nxB:=Nat.zero_le _
  kbs:=fun _ h=>h
  V0:=fun _ _=>.refl _
  Ssz:=hg.Ssz
  os:=rfl,tape:=rfl,output:=rfl,drawn:=Nat.le_refl _,grown:=Nat.le_refl _
  frame:=fun _ _ _=>rfl
  S0:=fun _ _ h=>⟨h,rfl⟩
  Snew:=fun _ _ h=>.inl h }
 refine wp_mono (h E rfl _ _ hr) ?_;rintro e a' w' ⟨c,st,rfl,hr',hq⟩
 have fin:((Xz st ts).ntt=res∧okId m res=true∧Nat.ble st.nx m=true∧Nat.ble m Qf=true∧∀o ob,Qb Hout o=some ob→Qb st.H o=some ob∧(Nat.blt o m||Nat.ble Qf o)=true∧JB m ob=true) →
   a'.defers=[]∧∃v,(results fn a'.tmps).run P c.w=.ok v c.w∧∃v' c',Ending.returned v=.returned v'∧c'.w=c.w∧Qto Hout m c0 c'∧VR c' v' res:=by
  rintro⟨hr2,hok,hnx,hmB,hout⟩
  have hnx:=Nat.le_of_ble_eq_true hnx
  have hmB:=Nat.le_of_ble_eq_true hmB
  obtain⟨V',hV'⟩:∃V':Nat→Option Value,V'=fun o=>if (Qb Hout o).isSome then c.V o else none:=⟨_,rfl⟩
  have hVs:∀o v,V' o=some v→c.V o=some v∧(Qb Hout o).isSome=true:=fun o v h=>by
   rw[hV'] at h;dsimp only at h
   split at h
   ·exact⟨h,by assumption⟩
   cases h
  have hK:∀o,c.K o→o<m∨Qf≤o→c0.K o∨o<m:=fun o hk ho=>by
   rcases hr'.ids o hk with h1|h1
   ·exact .inr (by omega)
   exact .inl h1
  have hle:c0.le ⟨c.w,c.S,V',fun o=>c0.K o∨o<m⟩:=⟨fun b off hs=>hr'.S0 b off hs,fun _ h=>.inl h,fun o hk=>by
   refine(hr'.V0 o hk).trans ?_
   show Qa9 (c.V o) (V' o)
   rw[hV'];dsimp only
   split
   ·exact .refl _
   exact .inr (.inl rfl)⟩
  have or2:∀ {o},(Nat.blt o m||Nat.ble Qf o)=true→o<m∨Qf≤o:=fun h=>by
   rcases Bool.or_eq_true _ _▸h with h|h
   ·exact .inl (Nat.le_of_ble_eq_true h)
   exact .inr (Nat.le_of_ble_eq_true h)
  refine⟨hr'.defers,_,W9 ts hres a'.tmps c.w,_,⟨c.w,c.S,V',fun o=>c0.K o∨o<m⟩,rfl,rfl,?_,?_⟩
  ·exact {
    os:=hr'.os,tape:=hr'.tape,output:=hr'.output,drawn:=hr'.drawn,size:=hr'.grown
    frame:=fun b hb hn=>hr'.frame b hb (fun hw=>by
     rcases hw with hw|⟨o,v,h1,h2⟩
     ·have hw:c0.w.heap.size≤b:=hw
      have hb:b<c0.w.heap.size:=hb
      omega
     exact hn o v h1 h2)
    le:=hle
    K:=fun _=>Iff.rfl
    Snew:=fun b off hs=>by
     rcases hr'.Snew b off hs with h1|h1|h1
     ·exact .inl h1
     ·exact .inr (.inr h1)
     exact .inr (.inl h1)
    Ssz:=hr'.Ssz
    live:=fun o ob ho=>by
     obtain⟨h1,h2,h3⟩:=hout o ob ho;obtain⟨hk,v,hv,hor,hwr⟩:=hr'.live o ob h1;refine⟨hK o hk (or2 h2),v,by rw[hV'];simp[ho,hv],?_,fun b hb=>?_⟩
     ·exact OR.okId (c:=c) (c':=⟨c.w,c.S,V',fun o=>c0.K o∨o<m⟩) rfl rfl hK (fun o v h=>(hVs o v h).1) hor h3
     rcases hwr b hb with h4|h4
     ·exact .inr h4
     exact .inl h4
    dead:=fun o ho=>by show V' o=none;rw[hV'];simp[ho]
    apart:=fun o o' v v' b h1 h2 h3 h4=>hr'.apart o o' v v' b (hVs o v h1).1 (hVs o' v' h2).1 h3 h4 }
  have hvr:VR c (Qsa a'.tmps ts) (Xz st ts):=by
   have many:∀ts:List Nat,VR c (.tuple (ts.map fun t=>a'.tmps.getD t undef).toArray) (.tup (ts.map st.get)):=fun ts=>by
    refine .tup _ _ (by simp) fun i v x hi hj=>?_
    rw[List.getElem?_map] at hi hj
    cases hq:ts[i]? with
    |none=>rw[hq] at hi;cases hi
    |some t=>rw[hq] at hi hj;cases hi;cases hj;exact hr'.tmps t
   match ts with
   |[]=>exact many []
   |[t]=>exact hr'.tmps t
   |t::u::ts=>exact many (t::u::ts)
  have h9:=hvr.ntt
  rw[hr2] at h9;exact VR.okId (c:=c) (c':=⟨c.w,c.S,V',fun o=>c0.K o∨o<m⟩) rfl rfl hK (fun o v h=>(hVs o v h).1) h9 hok
 cases e with
 |normal=>exact fin hq
 |ret=>exact fin hq
 |_=>exact hq.elim
section
variable {P:Program}{E:X7}{c:Cx}{a:Act}{st:St}
theorem VR.backV {ρ:List (Nat×Nat)}{c' c0':Cx}{Hin:List (Nat×Qj)}(hw:c'.w=c0'.w)(hS:c'.S=c0'.S)(hK:∀o,c0'.K o→c'.K (rn ρ o))(hV:∀o v,(Qb Hin o).isSome=true→c'.V (rn ρ o)=some v→c0'.V o=some v){v:Value}{x:AV}(h:VR c0' v x)(hx:Qb0 Hin x=true):VR c' v (KU ρ x):=by
 have many:∀ {vs:List Value} {cs:List AV},cs.all (KH Hin)=true→(∀(i:Nat) (v:Value) (x:AV),vs[i]?=some v→cs[i]?=some x→VR c0' v x)→∀(i:Nat) (v:Value) (x:AV),vs[i]?=some v→(cs.map (Kq ρ))[i]?=some x→VR c' v x:=
  fun {vs cs} hc h i v x hi hj=>by
   rw[List.getElem?_map] at hj
   cases hx:cs[i]? with
   |none=>rw[hx] at hj;cases hj
   |some y=>rw[hx] at hj;cases hj;exact(h i v y hi hx).back1 hw hS hK hV (List.all_eq_true.1 hc _ (List.mem_of_getElem? hx))
 cases x with
 |agg cs=>cases h with
  |fr _ _ h=>cases h with|agg vs _ hl h=>exact .agg vs _ (by simpa using hl) (many hx (fun i v x h1 h2=>.fr _ _ (h i v x h1 h2)))
  |agg vs _ hl h=>exact .agg vs _ (by simpa using hl) (many hx h)
 |tup cs=>cases h with
  |fr _ _ h=>cases h with|tup vs _ hl h=>exact .tup vs _ (by simpa using hl) (many hx (fun i v x h1 h2=>.fr _ _ (h i v x h1 h2)))
  |tup vs _ hl h=>exact .tup vs _ (by simpa using hl) (many hx h)
 |fn f cs=>cases h with
  |fr _ _ h=>cases h with|fn _ vs _ hl h=>exact .fn f vs _ (by simpa using hl) (many hx (fun i v x h1 h2=>.fr _ _ (h i v x h1 h2)))
  |fn _ vs _ hl h=>exact .fn f vs _ (by simpa using hl) (many hx h)
 |_=>exact VR.back1 hw hS hK hV h hx
theorem Qbt (g:AV→AV)(es:List (List AV)):(es.map fun e=>e.map g).flatten=es.flatten.map g:=by rw[List.map_flatten]
theorem Qiy {g:AV→AV}{cs:List AV}{i:Nat}{x:AV}(h:(cs.map g)[i]?=some x):∃y,cs[i]?=some y∧g y=x:=by
 rw[List.getElem?_map] at h
 cases hx:cs[i]? with
 |none=>rw[hx] at h;cases h
 |some y=>rw[hx] at h;cases h;exact⟨y,rfl,rfl⟩
theorem Jk.xcall (hr:Jk E c a st){f:FuncId}{bs:List AV}{Hin Hout:List (Nat×Qj)}{res:AV}{m:Nat}(hc:GX P f bs Hin res Hout m)(ρ:List (Nat×Nat))(H':List (Nat×Qj))(hmB:st.nx+m≤Qf)
  (hin:∀o ob,Qb Hin o=some ob→Qb st.H (rn ρ o)=some (YM ρ ob)∧Qf≤o∧ob.cells.all Qcn=true)
  (hnew:∀o,o<m→rn ρ o=st.nx+o)
  (inj:∀o o',(Qb Hin o).isSome=true→(Qb Hin o').isSome=true→rn ρ o=rn ρ o'→o=o')
  (dom:∀o,(Qb Hout o).isSome=true→(Qb Hin o).isSome=true∨o<m) (hout:∀o ob,Qb Hout o=some ob→ob.cells.all (KH Hout)=true)
  (h1:∀o,(Qb Hin o).isSome=true∨o<m→Qb H' (rn ρ o)=(Qb Hout o).map (YM ρ)) (h2:∀q,(∀o,(Qb Hin o).isSome=true∨o<m→rn ρ o≠q)→Qb H' q=Qb st.H q)
  (hrs:Qb0 Hout res=true)
  {vs:List Value} (hvl:vs.length=bs.length) (hbig:bs.all QbK=true) (hv:∀(i:Nat) (v:Value) (x:AV),vs[i]?=some v→bs[i]?=some x→VR c v (KU ρ x)) :
  Calls P f vs.toArray c.w fun e w'=>∃v c',e=.returned v∧c'.w=w'∧Jk E c' a ⟨st.t,H',st.nx+m⟩∧VR c' v (KU ρ res):=by
 classical
 obtain⟨V0,hV0⟩:∃V0:Nat→Option Value,V0=fun o=>if (Qb Hin o).isSome then c.V (rn ρ o) else none:=⟨_,rfl⟩
 have hV0s:∀o v,V0 o=some v→c.V (rn ρ o)=some v∧(Qb Hin o).isSome=true:=fun o v h=>by
  rw[hV0] at h;dsimp only at h
  split at h
  ·exact⟨h,by assumption⟩
  cases h
 have hV0i:∀o,(Qb Hin o).isSome=true→V0 o=c.V (rn ρ o):=fun o h=>by rw[hV0];simp[h]
 have hK0:∀o,Qf≤o→c.K (rn ρ o)→(⟨c.w,c.S,V0,fun o=>Qf≤o∧c.K (rn ρ o)⟩:Cx).K o:=fun o h1 h2=>⟨h1,h2⟩
 have gin:GIn Hin ⟨c.w,c.S,V0,fun o=>Qf≤o∧c.K (rn ρ o)⟩:={
  big:=fun o h=>h.1
  live:=fun o ob ho=>by
   obtain⟨g1,g2,g3⟩:=hin o ob ho;obtain⟨hk,v,hvv,hor,_⟩:=hr.live _ _ g1;refine⟨⟨g2,hk⟩,v,(hV0i o (by rw[ho];rfl)).trans hvv,?_⟩
   have into:∀ {u:Value} {x:AV},VR c u (Kq ρ x)→Qcn x=true→VR ⟨c.w,c.S,V0,fun o=>Qf≤o∧c.K (rn ρ o)⟩ u x:=fun h hx=>VR.into1 (c:=c) (c0:=⟨c.w,c.S,V0,fun o=>Qf≤o∧c.K (rn ρ o)⟩) (ρ:=ρ) rfl rfl hK0 (fun o v h=>(hV0s o v h).1) h hx
   cases ob with
   |var t cs=>cases hor with
    |var b ccs _ _ hh hl hp hS=>
     exact .var b ccs t cs hh (by simpa using hl) (fun i u x hi hj=>into (hp i u _ hi (by rw[List.getElem?_map,hj];rfl)) (List.all_eq_true.1 g3 _ (List.mem_of_getElem? hj))) hS
   |tok t k n=>cases hor with|tok _ _ _ _ xs ho hS=>exact .tok v t k n xs ho hS
   |arr t k es=>cases hor with
    |arr _ _ _ _ xs ho hks hp hS=>
     rw[List.length_map] at ho;exact .arr v t k es xs ho (fun e he=>by simpa using hks _ (List.mem_map_of_mem he)) (fun i u x hi hj=>into (hp i u _ hi (by rw[Qbt,List.getElem?_map,hj];rfl)) (List.all_eq_true.1 g3 _ (List.mem_of_getElem? hj))) hS
  dead:=fun o ho=>by show V0 o=none;rw[hV0];simp[ho]
  apart:=fun o o' v v' b g1 g2 g3 g4=>by
   obtain⟨k1,k2⟩:=hV0s o v g1;obtain⟨k3,k4⟩:=hV0s o' v' g2;exact inj o o' k2 k4 (hr.apart _ _ v v' b k1 k3 g3 g4)
  Ssz:=hr.Ssz }
 refine(hc _ vs gin hvl (fun i v x hi hj=>VR.intoV (c:=c) (c0:=⟨c.w,c.S,V0,fun o=>Qf≤o∧c.K (rn ρ o)⟩) (ρ:=ρ) rfl rfl hK0 (fun o v h=>(hV0s o v h).1) (hv i v x hi hj) (List.all_eq_true.1 hbig _ (List.mem_of_getElem? hj)))).mono ?_;rintro e w' ⟨v,c0',rfl,rfl,go,hfr⟩
 have fresh:∀o,o<m→¬c.K (st.nx+o):=fun o ho hk=>by
  rcases hr.ids _ hk with h|h
  ·omega
  have:=E.kb _ h;omega
 have kin:∀o,(Qb Hin o).isSome=true→c.K (rn ρ o):=fun o ho=>by
  cases h:Qb Hin o with
  |none=>rw[h] at ho;cases ho
  |some ob=>exact(gin.live o ob h).1.2
 have injD:∀o o',((Qb Hin o).isSome=true∨o<m)→((Qb Hin o').isSome=true∨o'<m)→rn ρ o=rn ρ o'→o=o':=fun o o' g1 g2 e=>by
  rcases g1 with g1|g1<;>rcases g2 with g2|g2
  ·exact inj o o' g1 g2 e
  ·rw[hnew o' g2] at e
   exact absurd (e▸kin o g1) (fresh o' g2)
  ·rw[hnew o g1] at e
   exact absurd (e▸kin o' g2) (fresh o g1)
  rw[hnew o g1,hnew o' g2] at e;omega
 obtain⟨V',hV'⟩:∃V':Nat→Option Value,V'=fun q=>if h:∃o,((Qb Hin o).isSome=true∨o<m)∧rn ρ o=q then c0'.V h.choose else c.V q:=⟨_,rfl⟩
 have hVq:∀o,((Qb Hin o).isSome=true∨o<m)→V' (rn ρ o)=c0'.V o:=fun o ho=>by
  have hex:∃o',((Qb Hin o').isSome=true∨o'<m)∧rn ρ o'=rn ρ o:=⟨o,ho,rfl⟩
  rw[hV'];dsimp only;rw[dif_pos hex];exact congrArg c0'.V (injD _ _ hex.choose_spec.1 ho hex.choose_spec.2)
 have hVn:∀q,(∀o,((Qb Hin o).isSome=true∨o<m)→rn ρ o≠q)→V' q=c.V q:=fun q hq=>by
  have hex:¬ ∃o',((Qb Hin o').isSome=true∨o'<m)∧rn ρ o'=q:=fun⟨o,g1,g2⟩=>hq o g1 g2
  rw[hV'];dsimp only;rw[dif_neg hex]
 have part:∀q,(∃o,((Qb Hin o).isSome=true∨o<m)∧rn ρ o=q)∨(∀o,((Qb Hin o).isSome=true∨o<m)→rn ρ o≠q):=fun q=>by
  by_cases h:∃o,((Qb Hin o).isSome=true∨o<m)∧rn ρ o=q
  ·exact .inl h
  exact .inr (fun o g1 g2=>h ⟨o,g1,g2⟩)
 let K':Nat→Prop:=fun q=>c.K q∨(st.nx≤q∧q<st.nx+m)
 have hKb:∀o,c0'.K o→K' (rn ρ o):=fun o hk=>by
  rcases(go.K o).1 hk with h|h
  ·exact .inl h.2
  exact .inr (by rw[hnew o h];omega)
 have hlec:c.le ⟨c0'.w,c0'.S,V',K'⟩:=⟨fun b off hs=>go.le.S b off hs,fun _ h=>.inl h,fun q hk=>by
  rcases part q with ⟨o,g1,rfl⟩|hq
  ·rcases g1 with g1|g1
   ·show Qa9 (c.V (rn ρ o)) (V' (rn ρ o))
    rw[hVq o (.inl g1),←hV0i o g1]
    cases ho:Qb Hin o with
    |none=>rw[ho] at g1;cases g1
    |some ob=>exact go.le.V o (gin.live o ob ho).1
   rw[hnew o g1] at hk;exact absurd hk (fresh o g1)
  exact .inl (hVn q hq)⟩
 have hsz:=go.size
 have hDout:∀o ob,Qb Hout o=some ob→(Qb Hin o).isSome=true∨o<m:=fun o ob h=>dom o (by rw[h];rfl)
 have oth:∀q u,(∀o,((Qb Hin o).isSome=true∨o<m)→rn ρ o≠q)→c.V q=some u→∀b,Xd u=some b→∀o v,V0 o=some v→Xd v≠some b:=fun q u hq hu b hb o v hov e=>by
  obtain⟨k1,k2⟩:=hV0s o v hov;exact hq o (.inl k2) (hr.apart _ _ v u b k1 hu e hb)
 have lv:∀q u,c.V q=some u→∃ob,Qb st.H q=some ob∧OR c u ob∧∀b,Xd u=some b→E.Wr b:=fun q u hu=>by
  cases hl:Qb st.H q with
  |none=>rw[hr.dead q hl] at hu;cases hu
  |some ob=>
   obtain⟨_,u',hu',hor,hwr⟩:=hr.live q ob hl
   rw[hu] at hu';cases hu'
   exact⟨ob,rfl,hor,hwr⟩
 have wrIn:∀o v b,V0 o=some v→Xd v=some b→E.Wr b∧b<c.w.heap.size:=fun o v b hov hb=>by
  obtain⟨ob,_,hor,hwr⟩:=lv _ _ (hV0s o v hov).1;exact⟨hwr b hb,hor.lt hb⟩
 have bk:∀ {u:Value} {x:AV},VR c0' u x→KH Hout x=true→VR ⟨c0'.w,c0'.S,V',K'⟩ u (Kq ρ x):=fun h hx=>
  VR.back1 (c0':=c0') (c':=⟨c0'.w,c0'.S,V',K'⟩) (Hin:=Hout) rfl rfl hKb (fun o v hs e=>by rw[←hVq o (dom o hs)];exact e) h hx
 refine⟨v,⟨c0'.w,c0'.S,V',K'⟩,rfl,rfl,?_,VR.backV (c0':=c0') (c':=⟨c0'.w,c0'.S,V',K'⟩) (Hin:=Hout) rfl rfl hKb (fun o v hs e=>by rw[←hVq o (dom o hs)];exact e) hfr hrs⟩
 exact {
  defers:=hr.defers,size:=hr.size
  tmps:=fun i=>(hr.tmps i).mono hlec
  live:=fun q ob hq=>by
   rcases part q with ⟨o,g1,rfl⟩|hnq
   ·have hq':=h1 o g1
    rw[show Qb H' (rn ρ o)=some ob from hq] at hq'
    cases ho:Qb Hout o with
    |none=>rw[ho] at hq';cases hq'
    |some ob0=>
     rw[ho] at hq'
     have:ob=YM ρ ob0:=Option.some.inj hq'
     subst this
     obtain⟨hk0,u,hu,hor,hbl⟩:=go.live o ob0 ho;refine⟨hKb o hk0,u,(hVq o g1).trans hu,?_,fun b hb=>?_⟩
     ·have hio:=hout o ob0 ho
      cases ob0 with
      |var t cs=>cases hor with
       |var b ccs _ _ hh hl hp hS=>
        exact .var b ccs t _ hh (by simpa using hl) (fun i u x hi hj=>by
         obtain⟨x0,hx,rfl⟩:=Qiy hj
         exact bk (hp i u x0 hi hx) (List.all_eq_true.1 hio _ (List.mem_of_getElem? hx))) hS
      |tok t k n=>cases hor with|tok _ _ _ _ xs ho hS=>exact .tok u t k n xs ho hS
      |arr t k es=>cases hor with
       |arr _ _ _ _ xs ho hks hp hS=>
        exact .arr u t k _ xs (by rw[List.length_map];exact ho) (fun e he=>by
         obtain⟨e0,h0,rfl⟩:=List.mem_map.1 he
         simpa using hks e0 h0) (fun i u x hi hj=>by
         rw[Qbt] at hj;obtain⟨x0,hx,rfl⟩:=Qiy hj
         exact bk (hp i u x0 hi hx) (List.all_eq_true.1 hio _ (List.mem_of_getElem? hx))) hS
     rcases hbl b hb with ⟨o',v',g2,g3⟩|g2
     ·exact(wrIn o' v' b g2 g3).1
     exact E.new b (Nat.le_trans hr.grown g2)
   have hq':Qb st.H q=some ob:=by rw[←h2 q hnq];exact hq
   obtain⟨hk,u,hu,hor,hwr⟩:=hr.live q ob hq';refine⟨.inl hk,u,(hVn q hnq).trans hu,?_,hwr⟩
   have hst:∀b,Xd u=some b→c0'.w.heap[b]?=c.w.heap[b]?:=fun b hb=>go.frame b (hor.lt hb) (fun o v hov=>oth q u hnq hu b hb o v hov)
   have hSs:∀b,Xd u=some b→∀off,c0'.S b off→c.S b off:=fun b hb off hs=>by
    rcases go.Snew b off hs with g1|⟨o,v,g1,g2⟩|g1
    ·exact g1
    ·exact absurd g2 (oth q u hnq hu b hb o v g1)
    have:=hor.lt hb
    have g1:c.w.heap.size≤b:=g1
    omega
   cases hor with
   |var b ccs t cs hh hl hp hn=>exact .var b ccs t cs ((hst b rfl).trans hh) hl (fun i u x h1 h2=>(hp i u x h1 h2).mono hlec) (fun off hs=>hn off (hSs b rfl off hs))
   |tok _ t k n xs ho2 hn=>
    refine .tok u t k n xs ?_ (fun b hb off hle hs=>hn b hb off hle (hSs b hb off hs));refine⟨ho2.1,?_⟩
    rcases ho2.2 with h1|⟨g,cap,cur,rfl,h1,h2,h3⟩
    ·exact .inl h1
    exact .inr ⟨g,cap,cur,rfl,h1,(hst g rfl).trans h2,h3⟩
   |arr _ t k es xs ho2 hk2 hp hn=>
    refine .arr u t k es xs ?_ hk2 (fun i u x h1 h2=>(hp i u x h1 h2).mono hlec) (fun b hb off hs=>hn b hb off (hSs b hb off hs));refine⟨ho2.1,?_⟩
    rcases ho2.2 with h1|⟨g,cap,cur,rfl,h1,h2,h3⟩
    ·exact .inl h1
    exact .inr ⟨g,cap,cur,rfl,h1,(hst g rfl).trans h2,h3⟩
  dead:=fun q hq=>by
   rcases part q with ⟨o,g1,rfl⟩|hnq
   ·have h3:=h1 o g1
    rw[show Qb H' (rn ρ o)=none from hq] at h3
    cases ho:Qb Hout o with
    |some ob0=>rw[ho] at h3;cases h3
    |none=>exact(hVq o g1).trans (go.dead o ho)
   exact(hVn q hnq).trans (hr.dead q (by rw[←h2 q hnq];exact hq))
  apart:=fun q q' u u' b hu hu' hb1 hb2=>by
   have ofIn:∀o v,c0'.V o=some v→∀b,Xd v=some b→(∃o' v',V0 o'=some v'∧Xd v'=some b)∨c.w.heap.size≤b:=fun o v g2 b hb=>by
    cases ho:Qb Hout o with
    |none=>rw[go.dead o ho] at g2;cases g2
    |some ob0=>
     obtain⟨_,v2,g3,_,g4⟩:=go.live o ob0 ho
     rw[g2] at g3;cases g3
     exact g4 b hb
   have mix:∀o v q u b,c0'.V o=some v→(∀o,((Qb Hin o).isSome=true∨o<m)→rn ρ o≠q)→c.V q=some u→Xd v=some b→Xd u=some b→False:=fun o v q u b g2 g3 g4 g5 g6=>by
    rcases ofIn o v g2 b g5 with ⟨o',v',k1,k2⟩|k1
    ·exact oth q u g3 g4 b g6 o' v' k1 k2
    obtain⟨ob,_,hor,_⟩:=lv q u g4
    have:=hor.lt g6
    omega
   have hu:V' q=some u:=hu
   have hu':V' q'=some u':=hu'
   rcases part q with ⟨o,g1,rfl⟩|hnq<;>rcases part q' with ⟨o',g2,rfl⟩|hnq'
   ·rw[hVq o g1] at hu
    rw[hVq o' g2] at hu';rw[go.apart o o' u u' b hu hu' hb1 hb2]
   ·rw[hVq o g1] at hu
    rw[hVn q' hnq'] at hu';exact(mix o u q' u' b hu hnq' hu' hb1 hb2).elim
   ·rw[hVn q hnq] at hu
    rw[hVq o' g2] at hu';exact(mix o' u' q u b hu' hnq hu hb2 hb1).elim
   rw[hVn q hnq] at hu;rw[hVn q' hnq'] at hu';exact hr.apart q q' u u' b hu hu' hb1 hb2
  ids:=fun q hk=>by
   rcases hk with hk|hk
   ·rcases hr.ids q hk with h|h
    ·exact .inl (by show q<st.nx+m;omega)
    exact .inr h
   exact .inl hk.2
  nxB:=hmB,kbs:=fun q h=>.inl (hr.kbs q h)
  V0:=fun q hk=>(hr.V0 q hk).trans (hlec.V q (hr.kbs q hk))
  Ssz:=go.Ssz
  os:=go.os.trans hr.os,tape:=go.tape.trans hr.tape,output:=go.output.trans hr.output,drawn:=Nat.le_trans hr.drawn go.drawn
  grown:=Nat.le_trans hr.grown hsz
  frame:=fun b hb hn=>by
   refine(go.frame b (Nat.lt_of_lt_of_le hb hr.grown) (fun o v hov e=>hn (wrIn o v b hov e).1)).trans (hr.frame b hb hn)
  S0:=fun b off hs=>⟨(go.le.S _ _ (hr.S0 b off hs).1).1,((go.le.S _ _ (hr.S0 b off hs).1).2).trans (hr.S0 b off hs).2⟩
  Snew:=fun b off hs=>by
   rcases go.Snew b off hs with g1|⟨o,v,g1,g2⟩|g1
   ·exact hr.Snew b off g1
   ·exact .inr (wrIn o v b g1 g2).1
   exact .inr (E.new b (Nat.le_trans hr.grown g1)) }
end
def Yr (nx:Nat):Nat→List (Nat×Nat)
 |0=>[]
 |m+1=>(m,nx+m)::Yr nx m
theorem QaA (nx:Nat):∀m o,Qb (Yr nx m) o=if o<m then some (nx+o) else none
 |0,o=>by simp[Yr,Qb]
 |m+1,o=>by
  rw[Yr,Qn,QaA nx m o]
  by_cases h:o=m
  ·subst h;simp
  rw[if_neg h]
  by_cases h2:o<m
  ·rw[if_pos h2,if_pos (by omega)]
  rw[if_neg h2,if_neg (by omega)]
theorem Kv {α:Type}:∀(l r:List (Nat×α)) (o:Nat),Qb (l++r) o=(Qb l o).or (Qb r o)
 |[],r,o=>by simp[Qb]
 |(j,x)::l,r,o=>by
  rw[List.cons_append,Qn,Qn,Kv l r o]
  split<;>rfl
theorem W0 {α:Type}:∀ {l:List (Nat×α)} {o:Nat},(∀p∈l,p.1≠o)→Qb l o=none
 |[],_,_=>rfl
 |(j,x)::l,o,h=>by
  rw[Qn,if_neg (fun e=>h (j,x) (.head _) e.symm)]
  exact W0 fun p hp=>h p (.tail _ hp)
theorem QcK {α:Type}:∀ {l:List (Nat×α)} {p:Nat×α},p∈l→(Qb l p.1).isSome=true
 |(j,x)::l,p,h=>by
  rw[Qn]
  split
  ·rfl
  rename_i hne
  cases h with
  |head=>exact absurd rfl hne
  |tail _ h=>exact QcK h
theorem QcM {α:Type}{l:List (Nat×α)}{o:Nat}(h:(Qb l o).isSome=true):∃p∈l,p.1=o:=by
 cases hx:Qb l o with
 |none=>rw[hx] at h;cases h
 |some x=>exact⟨(o,x),KN hx,rfl⟩
def Qrw (ρ:List (Nat×Nat))(H:List (Nat×Qj)):List (Nat×Qj)→Prop
 |[]=>True
 |(o,ob)::r=>Qb H (rn ρ o)=some (YM ρ ob)∧Nat.ble Qf o=true∧ob.cells.all Qcn=true∧Qrw ρ H r
theorem QhA {ρ:List (Nat×Nat)}{H:List (Nat×Qj)}:∀ {Hin:List (Nat×Qj)},Qrw ρ H Hin→∀o ob,Qb Hin o=some ob→Qb H (rn ρ o)=some (YM ρ ob)∧Qf≤o∧ob.cells.all Qcn=true
 |[],_,_,_,h=>by cases h
 |(q,ob')::r,⟨h1,h2,h3,h4⟩,o,ob,h=>by
  rw[Qn] at h
  split at h
  ·rename_i e;cases h;subst e;exact⟨h1,Nat.le_of_ble_eq_true h2,h3⟩
  exact QhA h4 o ob h
def Qsb (Ho:List (Nat×Qj)):List (Nat×Qj)→Prop
 |[]=>True
 |(_,ob)::r=>ob.cells.all (KH Ho)=true∧Qsb Ho r
theorem QhZ {Ho:List (Nat×Qj)}:∀ {l:List (Nat×Qj)},Qsb Ho l→∀o ob,Qb l o=some ob→ob.cells.all (KH Ho)=true
 |[],_,_,_,h=>by cases h
 |(q,ob')::r,⟨h1,h2⟩,o,ob,h=>by
  rw[Qn] at h
  split at h
  ·cases h;exact h1
  exact QhZ h2 o ob h
def Qwm (st:St)(m:Nat):List (Nat×Qj)→Prop
 |[]=>True
 |(o,ob)::r=>Qb st.H o=some ob∧(Nat.blt o m||Nat.ble Qf o)=true∧JB m ob=true∧Qwm st m r
theorem Qjw {st:St}{m:Nat}:∀ {l:List (Nat×Qj)},Qwm st m l→∀o ob,Qb l o=some ob→Qb st.H o=some ob∧(Nat.blt o m||Nat.ble Qf o)=true∧JB m ob=true
 |[],_,_,_,h=>by cases h
 |(q,ob')::r,⟨h1,h2,h3,h4⟩,o,ob,h=>by
  rw[Qn] at h
  split at h
  ·rename_i e;cases h;subst e;exact⟨h1,h2,h3⟩
  exact Qjw h4 o ob h
theorem Wb {ts:List Nat}{st:St}{r res:AV}{Hout:List (Nat×Qj)}{m:Nat}(h:(Xz st ts).ntt=r)(hr:r=res)(hok:okId m res=true)(hn:Nat.ble st.nx m=true)(hm:Nat.ble m Qf=true)(hx:Qwm st m Hout):
  (Xz st ts).ntt=res∧okId m res=true∧Nat.ble st.nx m=true∧Nat.ble m Qf=true∧∀o ob,Qb Hout o=some ob→Qb st.H o=some ob∧(Nat.blt o m||Nat.ble Qf o)=true∧JB m ob=true:=
 ⟨by rw[h,hr],hok,hn,hm,Qjw hx⟩
def xOk (ρ:List (Nat×Nat))(ρ':List (Nat×Nat))(Hin Hout:List (Nat×Qj))(m nx:Nat):Bool:=
 ρ.all (fun p=>Nat.ble Qf p.1)&&Nat.ble (nx+m) Qf&&Hin.all (fun p=>Hin.all fun q => !(Nat.beq (rn ρ' p.1) (rn ρ' q.1))||Nat.beq p.1 q.1)&&Hout.all (fun p=>(Qb Hin p.1).isSome||Nat.blt p.1 m)&&Hin.all (fun p=>(Qb Hout p.1).isSome)
theorem QuC {ρ:List (Nat×Nat)}{x:AV}(h:x.fz1=some x):Kq ρ x=x:=by
 cases x with
 |sl es tk=>cases tk with
  |none=>rfl
  |some o=>simp[AV.fz1] at h
 |ptr o off=>simp[AV.fz1] at h
 |own o n=>simp[AV.fz1] at h
 |eptr o n off=>simp[AV.fz1] at h
 |_=>rfl
theorem Qnp {ρ:List (Nat×Nat)}{es:List (List AV)}(h:∀e∈es,fzs e=some e):(es.map fun e=>e.map (Kq ρ))=es:=by
 have:∀e∈es,e.map (Kq ρ)=e:=fun e he=>by
  have h2:=(Wa (h e he)).2
  refine List.ext_getElem? fun i=>?_
  rw[List.getElem?_map]
  cases hx:e[i]? with
  |none=>rfl
  |some x=>exact congrArg some (QuC (h2 i x x hx hx))
 rw[List.map_congr_left this,List.map_id']
section
variable {P:Program}{E:X7}{Q:Exit→St→Prop}{ops:Array Oper}{o:Oper}{rest:List Oper}{t:List (Nat×AV)}{H:List (Nat×Qj)}{nx N d:Nat}{w:Bool}
theorem Yd (hN:E.N=N){f:FuncId}{bs avs:List AV}{Hin Hout:List (Nat×Qj)}{res res':AV}{m:Nat}(ρ:List (Nat×Nat))(hc:GX P f bs Hin res Hout m)[hf:Xl P f](ho:WN ⟨t,H,nx⟩ o f avs){ρ':List (Nat×Nat)}(hρ:ρ++Yr nx m=ρ')(hab:bs.map (KU ρ')=avs)(hbig:bs.all QbK=true)
  (hin:Qrw ρ' H Hin) (hk:xOk ρ ρ' Hin Hout m nx=true) (hout:Qsb Hout Hout) (hrs:Qb0 Hout res=true) {Hn H':List (Nat×Qj)} (hHn:Hout.map (fun p=>(rn ρ' p.1,YM ρ' p.2))=Hn) (hH:Hn++H=H') (hre:KU ρ' res=res')
  (hg:Qo ops ⟨t,H,nx⟩ o=some w) (hw:w=true) (hd:o.dst=some d) (hdN:Nat.blt d N=true)
  (h:Q3 P E ops rest Q ⟨(d,res')::t,H',nx+m⟩):Q3 P E ops (o::rest) Q ⟨t,H,nx⟩:=fun c a hr=>by
 subst hw hH hre hHn
 simp only[xOk,Bool.and_eq_true] at hk
 obtain⟨⟨⟨⟨k1,k2⟩,k3⟩,k4⟩,k5⟩:=hk
 have hmB:nx+m≤Qf:=Nat.le_of_ble_eq_true k2
 have hnew:∀o,o<m→rn ρ' o=nx+o:=fun o ho=>by
  have h0:Qb ρ o=none:=W0 fun p hp e=>by
   have:=Nat.le_of_ble_eq_true (List.all_eq_true.1 k1 p hp)
   omega
  rw[←hρ,rn,Kv,h0,QaA,if_pos ho]
  rfl
 have hdi:=QhA hin
 have inj:∀o o',(Qb Hin o).isSome=true→(Qb Hin o').isSome=true→rn ρ' o=rn ρ' o'→o=o':=fun o o' g1 g2 e=>by
  obtain⟨p,hp,rfl⟩:=QcM g1;obtain⟨q,hq,rfl⟩:=QcM g2
  have:=List.all_eq_true.1 (List.all_eq_true.1 k3 p hp) q hq
  rw[e,Nat.beq_refl,Bool.not_true,Bool.false_or] at this;exact Nat.eq_of_beq_eq_true this
 have dom:∀o,(Qb Hout o).isSome=true→(Qb Hin o).isSome=true∨o<m:=fun o g=>by
  obtain⟨p,hp,rfl⟩:=QcM g
  rcases Bool.or_eq_true _ _▸List.all_eq_true.1 k4 p hp with h|h
  ·exact .inl h
  exact .inr (Nat.le_of_ble_eq_true h)
 have dom2:∀o,(Qb Hin o).isSome=true→(Qb Hout o).isSome=true:=fun o g=>by
  obtain⟨p,hp,rfl⟩:=QcM g;exact List.all_eq_true.1 k5 p hp
 have fresh:∀o,o<m→Qb H (nx+o)=none:=fun o ho=>by
  cases hx:Qb H (nx+o) with
  |none=>rfl
  |some ob=>
   rcases hr.ids _ (hr.live _ ob hx).1 with h|h
   ·have h:nx+o<nx:=h
    omega
   have:=E.kb _ h;omega
 have kin:∀o,(Qb Hin o).isSome=true→rn ρ' o<nx∨Qf≤rn ρ' o:=fun o g=>by
  cases hx:Qb Hin o with
  |none=>rw[hx] at g;cases g
  |some ob=>
   rcases hr.ids _ (hr.live _ _ (hdi o ob hx).1).1 with h|h
   ·exact .inl h
   exact .inr (E.kb _ h)
 have injD:∀o o',((Qb Hin o).isSome=true∨o<m)→((Qb Hin o').isSome=true∨o'<m)→rn ρ' o=rn ρ' o'→o=o':=fun o o' g1 g2 e=>by
  rcases g1 with g1|g1<;>rcases g2 with g2|g2
  ·exact inj o o' g1 g2 e
  ·have:=kin o g1;rw[e,hnew o' g2] at this;omega
  ·have:=kin o' g2;rw[←e,hnew o g1] at this;omega
  rw[hnew o g1,hnew o' g2] at e;omega
 have lk:∀(l:List (Nat×Qj)),(∀p∈l,(Qb Hin p.1).isSome=true∨p.1<m)→∀o,((Qb Hin o).isSome=true∨o<m)→Qb (l.map fun p=>(rn ρ' p.1,YM ρ' p.2)) (rn ρ' o)=(Qb l o).map (YM ρ'):=by
  intro l
  induction l with
  |nil=>intro _ o _;rfl
  |cons p l ih=>
   intro hl o hD;obtain⟨j,x⟩:=p;rw[List.map_cons,Qn,Qn]
   by_cases e:o=j
   ·subst e;rw[if_pos rfl,if_pos rfl];rfl
   rw[if_neg e,if_neg (fun e2=>e (injD o j hD (hl (j,x) (.head _)) e2))];exact ih (fun p hp=>hl p (.tail _ hp)) o hD
 have hDl:∀p∈Hout,(Qb Hin p.1).isSome=true∨p.1<m:=fun p hp=>dom p.1 (QcK hp)
 refine wpList_step fun K hK=>?_
 rw[Xx hg hr,if_pos rfl];obtain⟨vs,hrun,hvl,hv⟩:=ho.run (P:=P) hr
 unfold Oper.wp
 rw[hrun,Oper.upon_enter]
 subst hab
 refine(hr.xcall hc ρ' (Hout.map (fun p=>(rn ρ' p.1,YM ρ' p.2))++H) hmB hdi hnew inj dom (QhZ hout) (fun o hD=>?_) (fun q hq=>?_) hrs (by simpa using hvl) hbig (fun i v x hi hj=>hv i v _ hi (by rw[List.getElem?_map,hj];rfl))).mono ?_
 ·rw[Kv,lk Hout hDl o hD]
  cases hx:Qb Hout o with
  |some ob=>rfl
  |none=>
   rcases hD with h|h
   ·have:=dom2 o h;rw[hx] at this;cases this
   show Qb H (rn ρ' o)=none
   rw[hnew o h];exact fresh o h
 ·rw[Kv,W0 (fun p hp e=>?_)]
  ·rfl
  obtain⟨p0,hp0,rfl⟩:=List.mem_map.1 hp;exact hq p0.1 (hDl p0 hp0) e
 rintro e w' ⟨v,c',rfl,rfl,hr',hvr⟩
 have hput:=hr'.put (d:=o.dst) (dlt hN hd hdN) hvr
 rw[hd] at hput;refine hK _ _ (h c' _ ?_);rw[hd];exact hput
end
section
variable {P:Program}{E:X7}{Q:Exit→St→Prop}{ops:Array Oper}{o:Oper}{rest:List Oper}{t:List (Nat×AV)}{H:List (Nat×Qj)}{nx N d:Nat}{w:Bool}
theorem Qi3 (hN:E.N=N)(hB:Nat.blt nx Qf=true){tt:TypeId}{len:Nat}{parts:Array (Nat×Operand)}(ho:o.op=.buildSlice tt len parts){e:TypeId}{n:Nat}[hT:JJ P tt e n]{zs:List Value}[hZ:Xa P e zs]{ps:List (Nat×List AV)}(hp:Qe2 ⟨t,H,nx⟩ parts.toList=some ps)
  {flat:List AV} (hf:Qd8 ((List.range len).map fun i=>(i*n,n)) ((List.replicate len zs).flatten.map .p) ps=some flat) (hn:zs.length=n) (h24:len*n≤16777216) (h25:len≤16777216) {es:List (List AV)} (hes:es.flatten=flat) (hel:es.length=len) (hek:∀x∈es,x.length=n)
  (hg:Qo ops ⟨t,H,nx⟩ o=some w) (hw:w=true) (hd:o.dst=some d) (hdN:Nat.blt d N=true)
  (h:Q3 P E ops rest Q ⟨(d,.own nx len)::t,(nx,.arr e n es)::H,nx+1⟩):Q3 P E ops (o::rest) Q ⟨t,H,nx⟩:=by
 subst hw
 refine Qbr (.own nx len) ⟨t,(nx,.arr e n es)::H,nx+1⟩ hg (dlt hN hd hdN) (fun c a hr=>?_) (by rw[hd];exact h);obtain⟨g1,g2⟩:=Qce hr (QcL.refl _) (fun _ _=>rfl) hp;obtain⟨i,hi,hsz⟩:=JD hT.size
 have hzz:=hZ.h
 rw[hi] at hzz
 cases hz0:i.zero with
 |none=>simp[hz0] at hzz
 |some z=>
  have hzc:z.cells.toList=zs:=by simpa [hz0] using hzz
  have hzn:z.cells.size=n:=by rw[←Array.length_toList,hzc];exact hn
  obtain⟨cells0,hc0⟩:∃cells0:Array Value,cells0=(Array.range (len*n)).map ((if len*n=0 then #[] else z.cells)[· % (if len*n=0 then #[] else z.cells:Array Value).size]!):=⟨_,rfl⟩
  have hs0:cells0.size=len*n:=by rw[hc0];simp
  have hg0:∀j u,cells0[j]?=some u→j<len*n∧zs[j % n]?=some u:=fun j u hj=>by
   have hjl:j<len*n:=by rw[←hs0];exact(Array.getElem?_eq_some_iff.1 hj).1
   refine⟨hjl,?_⟩;have hne:¬len*n=0:=by omega
   have hn0:0<n:=Nat.pos_of_ne_zero (fun e=>hne (by rw[e,Nat.mul_zero]))
   rw[hc0] at hj
   simp only[hne,if_false] at hj
   rw[Array.getElem?_map] at hj;rw[show(Array.range (len*n))[j]?=some j by simp[hjl]] at hj
   simp only[Option.map_some,Option.some.injEq] at hj
   have hm:j % n<z.cells.size:=by rw[hzn];exact Nat.mod_lt _ hn0
   rw[hzn,getElem!_pos z.cells (j % n) hm] at hj;rw[←hzc]
   simp[hm,hj]
  obtain⟨cells',f1,f2,f3⟩:=Qhj (c:=c) (pl:=(List.range len).map fun i=>(i*n,n)) (place:=fun j=>some (j*n,n)) (fun j os h=>by
    rw[List.getElem?_map] at h
    cases hq:(List.range len)[j]? with
    |none=>rw[hq] at h;cases h
    |some q=>
     rw[hq] at h
     have:q=j:=by have:=(List.getElem?_eq_some_iff.1 hq).2;simpa using this.symm
     subst this
     exact h) _ ps cells0 _ flat g1 g2 (by rw[hs0];simp[hn]) (fun j u y hj hk=>by
    obtain⟨h3,h4⟩:=hg0 j u hj;rw[List.getElem?_map,Qiq,hn,if_pos h3,h4] at hk
    cases hk
    exact .fr _ _ (.p u)) hf
  have hfl:flat.length=len*n:=by
   have key:∀(ps:List (Nat×List AV)) (cs cs':List AV),Qd8 ((List.range len).map fun i=>(i*n,n)) cs ps=some cs'→cs'.length=cs.length:=by
    intro ps
    induction ps with
    |nil=>intro cs cs' h;cases h;rfl
    |cons q ps ih=>
     obtain⟨q1,q2⟩:=q;intro cs cs' h
     simp only[Qd8] at h
     split at h
     ·rename_i off size _
      cases hb:(q2.length==size&&Nat.ble (off+q2.length) cs.length) with
      |false=>rw[hb] at h;cases h
      |true=>
       rw[hb] at h
       simp only[cond_true] at h
       simp only[Bool.and_eq_true] at hb
       have hle:=Nat.le_of_ble_eq_true hb.2
       rw[ih _ _ h]
       unfold Yq;simp;omega
     cases h
   rw[key ps _ _ hf];simp[hn]
  have hrun:(execOp a.eval o).run P c.w=.ok (.value (.slice (some ⟨c.w.heap.size,0,none⟩) len len)) (c.w.alloc (.cells cells' e)):=by
   have hpt:(parts.map fun(i,x)=>(i,a.eval x)).toList=parts.toList.map fun(i,x)=>(i,a.eval x):=by simp
   have h24':¬(len*i.size > 2 ^ 24):=by rw[hsz];omega
   rw[hc0] at f1
   have f1':=f1
   rw[←hsz] at f1'
   have hs1:(sizeOf e).run P c.w=.ok i.size c.w:=by simp[sizeOf,typeInfo,hi]
   have hz1:(zeroValue e).run P c.w=.ok z c.w:=by simp[zeroValue,typeInfo,hi,hz0]
   by_cases h0:len*i.size=0
   ·simp only[if_pos h0] at f1'
    simp only[execOp,ho,Sem.run_bind,Instr.buildSlice,run_underlying (Xq hT.h),Result.andThen_ok,hs1,h24',if_false,if_pos h0,Sem.run_pure,hpt,f1']
    simp[newRow]
   simp only[if_neg h0] at f1'
   simp only[execOp,ho,Sem.run_bind,Instr.buildSlice,run_underlying (Xq hT.h),Result.andThen_ok,hs1,h24',if_false,if_neg h0,hz1,Sem.run_pure,hpt,f1']
   simp[newRow]
  have hxl:cells'.toList.length=len*n:=by simp[f2,hfl]
  have hown:(c.w.alloc (.cells cells' e)).ownsRow 0 e n (.slice (some ⟨c.w.heap.size,0,none⟩) len len) es.length cells'.toList:=by
   rw[hel];exact⟨hxl,.inr ⟨c.w.heap.size,len,cells',rfl,Nat.zero_le _,WB _ _ _,Nat.le_refl _,by unfold maxLen;omega,by simpa using hxl,by rw[←hxl,List.take_length]⟩⟩
  obtain⟨c',e1,e2,hle,e4,e5,hr'⟩:=hr.new (Nat.le_of_ble_eq_true hB) (KA c.w (.cells cells' e)) (.slice (some ⟨c.w.heap.size,0,none⟩) len len) (.arr e n es)
   (fun c' e1 e2 hle=>.arr _ e n es cells'.toList (by rw[e1];exact hown) hek (fun j u y hj hy=>by
    rw[hes] at hy
    exact(f3 j u y (by simpa using hj) hy).mono hle) (fun b hb off hs=>by
    rw[e2] at hs
    have:c.w.heap.size=b:=by simpa [Xd] using hb
    subst this
    exact Nat.lt_irrefl _ (hr.Ssz _ _ hs))) (fun b hb=>by
    have:c.w.heap.size=b:=by simpa [Xd] using hb
    omega)
  refine⟨_,c',by rw[e1];exact hrun,hr',.own _ _ _ e4 (fun A n' cap hh=>?_)⟩;rw[show c'.V nx=some _ from e5] at hh
  cases hh
  exact⟨Nat.le_refl _,fun _=>rfl⟩
end
section
variable {P:Program}{E:X7}{st:St}{o:Oper}{c:Cx}{a:Act}
end
section
variable {P:Program}{E:X7}{ops:Array Oper}{o:Oper}{w:Bool}{N d:Nat}{s:St}
end
section
variable {P:Program}{E:X7}{st:St}{o:Oper}
end
section
variable {P:Program}{E:X7}{Q:Exit→St→Prop}{ops:Array Oper}{o:Oper}{rest:List Oper}{t:List (Nat×AV)}{H:List (Nat×Qj)}{nx N d:Nat}{w:Bool}{c:Cx}{a:Act}
end
section
variable {E:X7}{t:List (Nat×AV)}{H:List (Nat×Qj)}{nx:Nat}
end
section
variable {P:Program}{E:X7}{ops:Array Oper}{md:Region.Mode}
def Qm4 (w0:World)(S0:Nat→Nat→Prop)(w:World):Prop:=∀b off,S0 b off→w.cell? ⟨b,off,none⟩=w0.cell? ⟨b,off,none⟩
def WF (P:Program)(E:X7)(ops:Array Oper)(o:Oper)(x:AV)(s:St):Prop:=Qi5 E o∧∀c a,Jk E c a s→∃v,YieldsIf P ops (Qm4 c.w c.S) o v a∧VR c v x
theorem WI.wf {o:Oper}{x:AV}{s:St}(h:WI P E ops o x s):WF P E ops o x s:=⟨h.1,fun c a hr=>by
 obtain⟨v,hy,hv⟩:=h.2 c a hr
 exact⟨v,hy.yieldsIf,hv⟩⟩
def AF (P:Program)(E:X7)(ops:Array Oper)(md:Region.Mode)(Q:Exit→St→Prop):Nat→Array Bool→St→Prop
 |0,listed,s=>AU P E ops md Q 0 listed s
 |f+1,listed,s=>(∃i oi x,ops[i]?=some oi∧(Region.ready md ops listed).contains i=true∧Region.free md ops listed i=true∧WF P E ops oi x s∧AF P E ops md Q f (listed.setIfInBounds i true) (s.put oi.dst x))∨AU P E ops md Q (f+1) listed s
theorem QaH {Q:Exit→St→Prop}(hs:Region.noSelect ops=true)(hQ:∀c s,Q (.panic c) s→False):∀(f:Nat) (listed:Array Bool) (c:Cx) (a:Act) (s:St),Jk E c a s→AU P E ops md Q f listed s→wpAnyH P md ops (QfB E Q) (Qm4 E.w0 E.S0) f listed a c.w
 |0,_,c,_,s,hr,h=>⟨h.1,c,s,rfl,hr,h.2⟩
 |f+1,listed,c,a,s,hr,h=>by
  have sm:∀ {c:Cx} {a:Act} {s:St},Jk E c a s→Qm4 E.w0 E.S0 c.w:=fun hr b off h=>(hr.S0 b off h).2
  rcases h with ⟨i,oi,x,hoi,hrd,hfr,⟨hd,hwi⟩,hk⟩|h
  ·obtain⟨v,hy,hv⟩:=hwi c a hr
   exact wpAnyH_take hoi hs hfr hrd (fun c' a' w' ⟨c2,s2,_,_,hq⟩=>(hQ c' s2 hq).elim) hy.yieldsIf (sm hr) (QaH hs hQ f _ c _ _ (hr.put hd hv) hk)
  refine⟨fun h0=>⟨c,s,rfl,hr,h.1 h0⟩,fun i hi=>?_⟩
  rcases h.2 i hi with h1|⟨o,s',ho,hw,hd,hrun,hk⟩|⟨o,s',x,ho,hw,hd,hrun,hk⟩
  ·exact KR hr (fun c' a' s' hr' h'=>⟨sm hr',QaH hs hQ f _ c' a' s' hr' h'⟩) h1
  ·unfold wpOp
   simp only[ho]
   rw[Xx hw hr,if_pos rfl];obtain⟨c',hrun',hr'⟩:=hrun c a hr;refine .inl ?_
   unfold Oper.wp
   rw[hrun',Oper.upon_skip,hd];exact⟨sm hr',QaH hs hQ f _ c' _ s' hr' hk⟩
  unfold wpOp
  simp only[ho]
  rw[Xx hw hr,if_pos rfl];exact .inl (hrun c a hr _ _ fun c' v hr' hv=>⟨sm (hr'.put hd hv),QaH hs hQ f _ c' _ _ (hr'.put hd hv) hk⟩)
theorem QhM {Q:Exit→St→Prop}(hs:Region.noSelect ops=true)(hQ:∀c s,Q (.panic c) s→False)(c:Cx)(hw:c.w=E.w0)(hS:c.S=E.S0):∀(f:Nat) (listed:Array Bool) (a:Act) (s:St),Jk E c a s→AF P E ops md Q f listed s→wpAnyH P md ops (QfB E Q) (Qm4 E.w0 E.S0) f listed a c.w
 |0,listed,a,s,hr,h=>QaH hs hQ 0 listed c a s hr h
 |f+1,listed,a,s,hr,h=>by
  rcases h with ⟨i,oi,x,hoi,hrd,hfr,⟨hd,hwi⟩,hk⟩|h
  ·obtain⟨v,hy,hv⟩:=hwi c a hr
   rw[hw,hS] at hy;exact wpAnyH_take hoi hs hfr hrd (fun c' a' w' ⟨c2,s2,_,_,hq⟩=>(hQ c' s2 hq).elim) hy (fun b off _=>by rw[hw]) (QhM hs hQ c hw hS f _ _ _ (hr.put hd hv) hk)
  exact QaH hs hQ (f+1) listed c a s hr h
def X7.at (E:X7)(c:Cx)(hg:E.w0.heap.size≤c.w.heap.size):X7:=⟨E.N,c.w,c.S,E.Wr,fun b h=>E.new b (Nat.le_trans hg h),E.KB,E.kb,c.V⟩
theorem Jk.rebase {c:Cx}{a:Act}{s:St}(hr:Jk E c a s):Jk (E.at c hr.grown) c a s:={
 defers:=hr.defers,size:=hr.size,tmps:=hr.tmps,live:=hr.live,dead:=hr.dead,apart:=hr.apart,ids:=hr.ids,nxB:=hr.nxB,kbs:=hr.kbs
 V0:=fun _ _=>Qa9.refl _,Ssz:=hr.Ssz,os:=rfl,tape:=rfl,output:=rfl,drawn:=Nat.le_refl _,grown:=Nat.le_refl _
 frame:=fun _ _ _=>rfl,S0:=fun _ _ h=>⟨h,rfl⟩,Snew:=fun _ _ h=>.inl h }
theorem Jk.back {c c2:Cx}{a a2:Act}{s s2:St}(hr:Jk E c a s)(h:Jk (E.at c hr.grown) c2 a2 s2):Jk E c2 a2 s2:={
 defers:=h.defers,size:=h.size,tmps:=h.tmps,live:=h.live,dead:=h.dead,apart:=h.apart,ids:=h.ids,nxB:=h.nxB,kbs:=h.kbs
 V0:=fun o ho=>(hr.V0 o ho).trans (h.V0 o ho),Ssz:=h.Ssz,os:=h.os.trans hr.os,tape:=h.tape.trans hr.tape,output:=h.output.trans hr.output
 drawn:=Nat.le_trans hr.drawn h.drawn,grown:=Nat.le_trans hr.grown h.grown
 frame:=fun b hb hw=>(h.frame b (Nat.lt_of_lt_of_le hb hr.grown) hw).trans (hr.frame b hb hw)
 S0:=fun b off hs=>by
  obtain⟨h1,h2⟩:=hr.S0 b off hs;obtain⟨h3,h4⟩:=h.S0 b off h1;exact⟨h3,h4.trans h2⟩
 Snew:=fun b off hs=>by
  rcases h.Snew b off hs with h1|h1
  ·exact hr.Snew b off h1
  exact .inr h1 }
theorem QgD {Q:Exit→St→Prop}{st:St}{id:Nat}{l:List Oper}{N:Nat}(hN:E.N=N)(n:Nat)(hn:l.toArray.size=n)(hm:P.follows .mixedOrders=true)(hs:Region.noSelect l.toArray=true)(hQ:∀c s,Q (.panic c) s→False)(h:∀E':X7,E'.N=N→AF P E' l.toArray .any Q n (Array.replicate n false) st):Y1 P E (.region id l.toArray true) Q st:=fun c a hr=>by
 subst hn
 have hr1:=hr.drew
 have hh:=QhM hs hQ _ rfl rfl _ _ _ _ hr1.rebase (h (E.at _ hr1.grown) hN)
 refine wp_mono (wp_region_held hm hh) ?_;rintro e a' w' ⟨c2,s2,h1,h2,h3⟩;exact⟨c2,s2,h1,hr1.back h2,h3⟩
variable {o:Oper}{t:List (Nat×AV)}{H:List (Nat×Qj)}{nx N d:Nat}{w:Bool}
theorem J0 {Q:Exit→St→Prop}{f:Nat}{listed:Array Bool}(i:Nat)(hi:ops[i]?=some o)(hr:(Region.ready md ops listed).contains i=true)(hf:Region.free md ops listed i=true){x:AV}(hd:o.dst=some d)(hy:WF P E ops o x ⟨t,H,nx⟩)
  (h:AF P E ops md Q f (listed.setIfInBounds i true) ⟨(d,x)::t,H,nx⟩):AF P E ops md Q (f+1) listed ⟨t,H,nx⟩:=.inl ⟨i,o,x,hi,hr,hf,hy,by rw[hd];exact h⟩
theorem Qkx {Q:Exit→St→Prop}{f:Nat}{listed:Array Bool}{s:St}(h:AU P E ops md Q f listed s):AF P E ops md Q f listed s:=by
 cases f with
 |zero=>exact h
 |succ f=>exact .inr h
theorem Qhm (hN:E.N=N){s:St}{tt:TypeId}{x:Operand}(ho:o.op=.load tt x){n:Nat}{row:Bool}[hT:XV P tt n row]{cs:List AV}(hx:X4 s x=some (.el cs)){r:AV}(hl:W7 row n cs=some r)(hn:Nat.blt 0 n=true)(hg:Qo ops s o=some w)(hw:w=true)(hd:o.dst=some d)(hdN:Nat.blt d N=true):WF P E ops o r s:=by
 subst hw
 refine⟨dlt hN hd hdN,fun c a hr=>?_⟩
 have hn:=Nat.le_of_ble_eq_true hn
 have hv:=hr.ev x
 rw[QZ hx] at hv
 generalize hvx:a.eval x=vx at hv
 have key:∃(b off:Nat) (f:Nat→Value),vx=.pointer (some ⟨b,off,none⟩)∧∀(i:Nat) (y:AV),cs[i]?=some y→(∀w,Qm4 c.w c.S w→w.cell? ⟨b,off+i,none⟩=some (f i))∧VR c (f i) y:=by
  cases hv with
  |fr _ _ h=>cases h with
   |el b off _ f hcell h=>exact⟨b,off,f,rfl,fun i y hi=>⟨fun w hs=>(hs b _ (hcell i y hi).1).trans (hcell i y hi).2,.fr _ _ (h i y hi)⟩⟩
 obtain⟨b,off,f,hp,hat⟩:=key;obtain⟨i,hi,hsz⟩:=JD hT.size;obtain⟨dd,hdd,hdr⟩:=Qdg hT.row
 cases row with
 |false=>
  cases cs with
  |nil=>cases hl
  |cons y ys=>
   cases hl
   obtain⟨h1,h2⟩:=hat 0 _ rfl;refine⟨f 0,.inl ⟨by rw[Xx hg hr],fun w hs=>?_⟩,h2⟩
   simp[execOp,ho,hvx,hp,Instr.loadAt,Instr.sureAddr,loadVar,Qaw hT.row,show w.cell? ⟨b,off,none⟩=some (f 0) from h1 w hs]
 |true=>
  simp only[W7] at hl
  cases hb:Nat.ble n cs.length with
  |false=>rw[hb] at hl;cases hl
  |true=>
   rw[hb] at hl
   cases hl
   have hnl:n≤cs.length:=Nat.le_of_ble_eq_true hb
   obtain⟨us,hus⟩:∃us,us=(List.range n).map f:=⟨_,rfl⟩
   have hul:us.length=n:=by rw[hus];simp
   have hug:∀(j:Nat) (v:Value),us[j]?=some v→j<n∧v=f j:=fun j v hj=>by
    rw[hus,List.getElem?_map] at hj
    have hjn:j<n:=by
     rcases Nat.lt_or_ge j n with h|h
     ·exact h
     rw[List.getElem?_eq_none (by simpa using h)] at hj;cases hj
    rw[List.getElem?_range hjn] at hj
    cases hj
    exact⟨hjn,rfl⟩
   refine⟨.agg us.toArray,.inl ⟨by rw[Xx hg hr],fun w hs=>?_⟩,.agg us (cs.take n) (by simp;omega) (fun j v y h1 h2=>?_)⟩
   ·have:=run_loadAt_mid (P:=P) w b off tt us dd (fun j v hj=>by
     obtain⟨hjn,rfl⟩:=hug j v hj
     exact(hat j cs[j] (List.getElem?_eq_getElem (by omega))).1 w hs) hdd hdr (by rw[hi,Option.map_some,hsz,hul])
    simp[execOp,ho,hvx,hp,this]
   obtain⟨hjn,rfl⟩:=hug j v h1;rw[List.getElem?_take,if_pos hjn] at h2;exact(hat j y h2).2
end
section
variable {P:Program}{E:X7}{Q:Exit→St→Prop}{ops:Array Oper}{o:Oper}{rest:List Oper}{t:List (Nat×AV)}{H:List (Nat×Qj)}{nx N d:Nat}{w:Bool}
end
def rnH (ρ:List (Nat×Nat))(H:List (Nat×Qj)):List (Nat×Qj):=H.map fun p=>(rn ρ p.1,YM ρ p.2)
theorem QmJ {ρ:List (Nat×Nat)}:∀(H:List (Nat×Qj)) (o:Nat),(∀p∈H,rn ρ p.1=rn ρ o→p.1=o)→Qb (rnH ρ H) (rn ρ o)=(Qb H o).map (YM ρ)
 |[],_,_=>rfl
 |p::H,o,h=>by
  show Qb ((rn ρ p.1,YM ρ p.2)::rnH ρ H) (rn ρ o)=(Qb ((p.1,p.2)::H) o).map _
  rw[Qn,Qn]
  by_cases e:o=p.1
  ·rw[if_pos (by rw[e]),if_pos e];rfl
  rw[if_neg (fun e2=>e (h p (by simp) e2.symm).symm),if_neg e]
  exact QmJ H o fun q hq=>h q (by simp[hq])
theorem QgZ {ρ:List (Nat×Nat)}:∀(H:List (Nat×Qj)) (q:Nat) (ob:Qj),Qb (rnH ρ H) q=some ob→∃p∈H,rn ρ p.1=q
 |[],_,_,h=>by cases h
 |p::H,q,ob,h=>by
  have h:Qb ((rn ρ p.1,YM ρ p.2)::rnH ρ H) q=some ob:=h
  rw[Qn] at h
  split at h
  ·rename_i e;exact⟨p,by simp,e.symm⟩
  obtain⟨p',h1,h2⟩:=QgZ H q ob h;exact⟨p',by simp[h1],h2⟩
theorem QgG:∀ {H:List (Nat×Qj)} {p:Nat×Qj},p∈H→(Qb H p.1).isSome=true
 |[],_,h=>by cases h
 |x::H,p,h=>by
  show(Qb ((x.1,x.2)::H) p.1).isSome=true
  rw[Qn]
  split
  ·rfl
  rename_i e
  rcases List.mem_cons.1 h with rfl|h
  ·exact absurd rfl e
  exact QgG h
theorem QeE:∀ {H:List (Nat×Qj)} {o:Nat},(Qb H o).isSome=true→∃p∈H,p.1=o
 |[],_,h=>by cases h
 |x::H,o,h=>by
  replace h:(Qb ((x.1,x.2)::H) o).isSome=true:=h
  rw[Qn] at h
  split at h
  ·rename_i e;exact⟨x,by simp,e.symm⟩
  obtain⟨p,h1,h2⟩:=QeE h;exact⟨p,by simp[h1],h2⟩
section
variable {P:Program}{E:X7}{ops:Array Oper}
end
end Go.Proofs.YtnkkokmmeplbgaaGreat
