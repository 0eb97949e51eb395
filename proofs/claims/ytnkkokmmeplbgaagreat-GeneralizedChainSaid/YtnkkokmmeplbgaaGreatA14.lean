/-
  What a call gives out, with other numbers and without what i
-/
import Derived.Test.YtnkkokmmeplbgaaGreatA10
import Derived.Test.YtnkkokmmeplbgaaGreatA8
namespace Go.Proofs.YtnkkokmmeplbgaaGreat
open Go.RowKit
theorem GX.ren {P:Program}{f:FuncId}{args:List AV}{Hin Hout:List (Nat×Qj)}{res:AV}{m:Nat}(hc:GX P f args Hin res Hout m)(Hk:List (Nat×Qj))(ρ:List (Nat×Nat))(m':Nat){H':List (Nat×Qj)}(eH:rnH ρ Hk=H')
  (hsub:∀o ob,Qb Hk o=some ob→Qb Hout o=some ob) (hin:∀p∈Hk,p.2.cells.all (KH Hk)=true) (hinj:∀p∈Hk,∀q∈Hk,rn ρ p.1=rn ρ q.1→p.1=q.1)
  (hk:∀p∈Hk,Qf≤p.1∧rn ρ p.1=p.1∨p.1<m∧rn ρ p.1<m') (hm:m≤Qf) (hm':m'≤Qf) (hres:Qb0 Hk res=true) {res':AV} (er:KU ρ res=res'):GX P f args Hin res' H' m':=by
 classical
 subst eH er
 intro c vs hg hvl hv;refine(hc c vs hg hvl hv).mono ?_;rintro e w' ⟨v,c',rfl,rfl,ho,hvr⟩
 have inj:∀o o',(Qb Hk o).isSome=true→(Qb Hk o').isSome=true→rn ρ o=rn ρ o'→o=o':=fun o o' h1 h2 e=>by
  obtain⟨p,hp,rfl⟩:=QeE h1;obtain⟨q,hq,rfl⟩:=QeE h2;exact hinj p hp q hq e
 have hkk:∀o,(Qb Hk o).isSome=true→Qf≤o∧rn ρ o=o∨o<m∧rn ρ o<m':=fun o h1=>by
  obtain⟨p,hp,rfl⟩:=QeE h1;exact hk p hp
 have hlook:∀o,(Qb Hk o).isSome=true→Qb (rnH ρ Hk) (rn ρ o)=(Qb Hk o).map (YM ρ):=fun o ho=>QmJ Hk o fun p hp e=>inj _ _ (QgG hp) ho e
 obtain⟨V',hV'⟩:∃V':Nat→Option Value,V'=fun q=>if h:∃o,(Qb Hk o).isSome=true∧rn ρ o=q then c'.V h.choose else none:=⟨_,rfl⟩
 have hVq:∀o,(Qb Hk o).isSome=true→V' (rn ρ o)=c'.V o:=fun o ho=>by
  have hex:∃o',(Qb Hk o').isSome=true∧rn ρ o'=rn ρ o:=⟨o,ho,rfl⟩
  rw[hV'];dsimp only;rw[dif_pos hex];exact congrArg c'.V (inj _ _ hex.choose_spec.1 ho hex.choose_spec.2)
 have hVn:∀q,(¬ ∃o,(Qb Hk o).isSome=true∧rn ρ o=q)→V' q=none:=fun q hq=>by rw[hV'];dsimp only;rw[dif_neg hq]
 let K':Nat→Prop:=fun q=>c.K q∨q<m'
 have hKl:∀o,(Qb Hk o).isSome=true→K' (rn ρ o):=fun o h1=>by
  rcases hkk o h1 with ⟨h2,h3⟩|⟨h2,h3⟩
  ·rw[h3]
   cases hx:Qb Hk o with
   |none=>rw[hx] at h1;cases h1
   |some ob=>
    rcases(ho.K o).1 (ho.live o ob (hsub o ob hx)).1 with h|h
    ·exact .inl h
    omega
  exact .inr h3
 have bk1:∀ {u:Value} {x:AV},VR c' u x→KH Hk x=true→VR ⟨c'.w,c'.S,V',K'⟩ u (Kq ρ x):=fun {u x} h hx=>
  VR.back1 (c0':=⟨c'.w,c'.S,c'.V,fun o=>(Qb Hk o).isSome=true⟩) (c':=⟨c'.w,c'.S,V',K'⟩) (Hin:=Hk) rfl rfl hKl (fun o v hs e=>by rw[←hVq o hs];exact e) (by
   cases h with
   |fr _ _ h=>exact .fr _ _ h
   |tok _ es o h hk hv=>exact .tok _ es o h hx hv
   |own _ o n hk hv=>exact .own _ o n hx hv
   |ptr _ o off hk hv=>exact .ptr _ o off hx hv
   |eptr _ o n off hk hv=>exact .eptr _ o n off hx hv
   |agg=>cases hx
   |tup=>cases hx
   |fn=>cases hx) hx
 have many:∀ {vs:List Value} {cs:List AV},cs.all (KH Hk)=true→(∀(i:Nat) (v:Value) (x:AV),vs[i]?=some v→cs[i]?=some x→VR c' v x)→∀(i:Nat) (v:Value) (x:AV),vs[i]?=some v→(cs.map (Kq ρ))[i]?=some x→VR ⟨c'.w,c'.S,V',K'⟩ v x:=
  fun {vs cs} hc h i v x hi hj=>by
   obtain⟨y,hy,rfl⟩:=Qiy hj;exact bk1 (h i v y hi hy) (List.all_eq_true.1 hc _ (List.mem_of_getElem? hy))
 have bkV:∀ {u:Value} {x:AV},VR c' u x→Qb0 Hk x=true→VR ⟨c'.w,c'.S,V',K'⟩ u (KU ρ x):=fun {u x} h hx=>by
  cases x with
  |agg cs=>cases h with
   |fr _ _ h=>cases h with|agg vs _ hl h=>exact .agg vs _ (by simpa using hl) (many hx (fun i v x h1 h2=>.fr _ _ (h i v x h1 h2)))
   |agg vs _ hl h=>exact .agg vs _ (by simpa using hl) (many hx h)
  |tup cs=>cases h with
   |fr _ _ h=>cases h with|tup vs _ hl h=>exact .tup vs _ (by simpa using hl) (many hx (fun i v x h1 h2=>.fr _ _ (h i v x h1 h2)))
   |tup vs _ hl h=>exact .tup vs _ (by simpa using hl) (many hx h)
  |fn f cs=>cases h with
   |fr _ _ h=>cases h with|fn _ vs _ hl h=>exact .fn f vs _ (by simpa using hl) (many hx (fun i v x h1 h2=>.fr _ _ (h i v x h1 h2)))
   |fn _ vs _ hl h=>exact .fn f vs _ (by simpa using hl) (many hx h)
  |_=>exact bk1 h hx
 refine⟨v,⟨c'.w,c'.S,V',K'⟩,rfl,rfl,?_,bkV hvr hres⟩
 exact {
  os:=ho.os,tape:=ho.tape,output:=ho.output,drawn:=ho.drawn,size:=ho.size,frame:=ho.frame
  le:=⟨ho.le.S,fun o h=>.inl h,fun o hk=>by
   show Qa9 (c.V o) (V' o)
   by_cases e:∃p,(Qb Hk p).isSome=true∧rn ρ p=o
   ·obtain⟨p,hp,rfl⟩:=e
    rw[hVq p hp]
    rcases hkk p hp with ⟨h2,h3⟩|⟨h2,h3⟩
    ·rw[h3] at hk ⊢;exact ho.le.V p hk
    have:=hg.big _ hk;omega
   rw[hVn o e];exact .inr (.inl rfl)⟩
  K:=fun _=>Iff.rfl
  Snew:=ho.Snew,Ssz:=ho.Ssz
  live:=fun q ob hq=>by
   obtain⟨p,hp,rfl⟩:=QgZ Hk q ob hq
   have hs:=QgG hp
   rw[hlook p.1 hs] at hq
   cases hx:Qb Hk p.1 with
   |none=>rw[hx] at hs;cases hs
   |some ob0=>
    rw[hx] at hq
    have e:YM ρ ob0=ob:=Option.some.inj hq
    subst e
    obtain⟨hk,v,hv,hor,hwr⟩:=ho.live p.1 ob0 (hsub _ _ hx);refine⟨hKl _ hs,v,(hVq p.1 hs).trans hv,?_,hwr⟩
    have hcs:ob0.cells.all (KH Hk)=true:=by
     have key:∀(L:List (Nat×Qj)) (k:Nat),Qb L k=some ob0→∃p∈L,p.2=ob0:=by
      intro L k
      induction L with
      |nil=>intro h;cases h
      |cons p t ih=>
       intro h
       replace h:Qb ((p.1,p.2)::t) k=some ob0:=h
       rw[Qn] at h
       split at h
       ·cases h;exact⟨p,by simp,rfl⟩
       obtain⟨q,h1,h2⟩:=ih h;exact⟨q,by simp[h1],h2⟩
     obtain⟨q,hqm,rfl⟩:=key Hk p.1 hx;exact hin q hqm
    cases ob0 with
    |var t cs=>cases hor with
     |var b ccs _ _ hh hl hp hS=>exact .var b ccs t _ hh (by simpa using hl) (fun i u x hi hj=>many (vs:=ccs.toList) hcs (fun i u x hi hj=>hp i u x (by simpa using hi) hj) i u x (by simpa using hi) hj) hS
    |tok t k n=>cases hor with|tok _ _ _ _ xs ho hS=>exact .tok v t k n xs ho hS
    |arr t k es=>cases hor with
     |arr _ _ _ _ xs ho hks hp hS=>
      refine .arr v t k _ xs (by simpa using ho) (fun e he=>?_) (fun i u x hi hj=>?_) hS
      ·obtain⟨e0,h0,rfl⟩:=List.mem_map.1 he
       simpa using hks e0 h0
      rw[Qbt] at hj;exact many (vs:=xs) hcs (fun i u x hi hj=>hp i u x hi hj) i u x hi hj
  dead:=fun q hq=>by
   refine hVn q ?_;rintro⟨o,ho,rfl⟩;rw[hlook o ho] at hq
   cases h:Qb Hk o with
   |none=>rw[h] at ho;cases ho
   |some ob=>rw[h] at hq;cases hq
  apart:=fun o o' v v' b h1 h2 h3 h4=>by
   replace h1:V' o=some v:=h1
   replace h2:V' o'=some v':=h2
   by_cases e1:∃p,(Qb Hk p).isSome=true∧rn ρ p=o
   ·by_cases e2:∃p,(Qb Hk p).isSome=true∧rn ρ p=o'
    ·obtain⟨p,hp,rfl⟩:=e1
     obtain⟨q,hq,rfl⟩:=e2;rw[hVq p hp] at h1;rw[hVq q hq] at h2;rw[ho.apart p q v v' b h1 h2 h3 h4]
    rw[hVn o' e2] at h2;cases h2
   rw[hVn o e1] at h1;cases h1 }
def mp1 (σ:Nat→Nat):AV→AV
 | .sl es (some o)=>.sl es (some (σ o))
 | .own o n=>.own (σ o) n
 | .ptr o off=>.ptr (σ o) off
 | .eptr o n off=>.eptr (σ o) n off
 |x=>x
def mpV (σ:Nat→Nat):AV→AV
 | .agg cs=>.agg (cs.map (mp1 σ))
 | .tup cs=>.tup (cs.map (mp1 σ))
 | .fn f cs=>.fn f (cs.map (mp1 σ))
 |x=>mp1 σ x
def mpO (σ:Nat→Nat):Qj→Qj
 | .var t cs=>.var t (cs.map (mp1 σ))
 | .tok t k n=>.tok t k n
 | .arr t k es=>.arr t k (es.map fun e=>e.map (mp1 σ))
theorem Qx7 {g:AV→AV}{cs:List AV}{i:Nat}{x:AV}(h:cs[i]?=some x):(cs.map g)[i]?=some (g x):=by rw[List.getElem?_map,h];rfl
theorem Qtv {E:X7}{st st':St}(σ:Nat→Nat)(hB:st'.nx≤Qf)(ht:∀i x,Qb st'.t i=some x→Qb st.t i=some (mpV σ x)∧Qb0 st'.H x=true)
  (hH:∀q ob,Qb st'.H q=some ob→Qb st.H (σ q)=some (mpO σ ob)∧ob.cells.all (KH st'.H)=true∧(q<st'.nx∨Qf≤q∧σ q=q))
  (inj:∀q q',(Qb st'.H q).isSome=true→(Qb st'.H q').isSome=true→σ q=σ q'→q=q'):Kj E st st':=fun c a hr=>by
 classical
 obtain⟨V',hV'⟩:∃V':Nat→Option Value,V'=fun q=>if (Qb st'.H q).isSome=true then c.V (σ q) else none:=⟨_,rfl⟩
 have hVy:∀q,(Qb st'.H q).isSome=true→V' q=c.V (σ q):=fun q h=>by rw[hV'];dsimp only;rw[if_pos h]
 have hVn:∀q,¬(Qb st'.H q).isSome=true→V' q=none:=fun q h=>by rw[hV'];dsimp only;rw[if_neg h]
 let K':Nat→Prop:=fun q=>(Qb st'.H q).isSome=true∨E.KB q
 have bk1:∀ {u:Value} {x:AV},VR c u (mp1 σ x)→KH st'.H x=true→VR ⟨c.w,c.S,V',K'⟩ u x:=fun {u x} h hx=>by
  cases x with
  |bot=>exact .fr _ _ (.bot _)
  |p v=>cases h with|fr _ _ h=>exact .fr _ _ h
  |emp=>cases h with|fr _ _ h=>exact .fr _ _ h
  |el cs=>cases h with|fr _ _ h=>exact .fr _ _ h
  |sl es tk=>cases tk with
   |none=>cases h with|fr _ _ h=>exact .fr _ _ h
   |some o=>cases h with
    |fr _ _ h=>cases h
    |tok _ _ _ h hK hV=>exact .tok _ es o h (.inl hx) (fun A n cap hv=>hV A n cap (by rw[←hVy o hx];exact hv))
  |own o n=>cases h with
   |fr _ _ h=>cases h
   |own _ _ _ hK hV=>exact .own _ o n (.inl hx) (fun A n' cap hv=>hV A n' cap (by rw[←hVy o hx];exact hv))
  |ptr o off=>cases h with
   |fr _ _ h=>cases h
   |ptr _ _ _ hK hV=>exact .ptr _ o off (.inl hx) (fun b hv=>hV b (by rw[←hVy o hx];exact hv))
  |eptr o n off=>cases h with
   |fr _ _ h=>cases h
   |eptr _ _ _ _ hK hV=>exact .eptr _ o n off (.inl hx) (fun A n' cap hv=>hV A n' cap (by rw[←hVy o hx];exact hv))
  |agg=>cases hx
  |tup=>cases hx
  |fn=>cases hx
 have many:∀ {vs:List Value} {cs:List AV},cs.all (KH st'.H)=true→(∀(i:Nat) (v:Value) (x:AV),vs[i]?=some v→(cs.map (mp1 σ))[i]?=some x→VR c v x)→∀(i:Nat) (v:Value) (x:AV),vs[i]?=some v→cs[i]?=some x→VR ⟨c.w,c.S,V',K'⟩ v x:=
  fun {vs cs} hc h i v x hi hj=>bk1 (h i v _ hi (Qx7 hj)) (List.all_eq_true.1 hc _ (List.mem_of_getElem? hj))
 have bkV:∀ {u:Value} {x:AV},VR c u (mpV σ x)→Qb0 st'.H x=true→VR ⟨c.w,c.S,V',K'⟩ u x:=fun {u x} h hx=>by
  cases x with
  |agg cs=>cases h with
   |fr _ _ h=>cases h with|agg vs _ hl h=>exact .agg vs _ (by simpa using hl) (many hx (fun i v x h1 h2=>.fr _ _ (h i v x h1 h2)))
   |agg vs _ hl h=>exact .agg vs _ (by simpa using hl) (many hx h)
  |tup cs=>cases h with
   |fr _ _ h=>cases h with|tup vs _ hl h=>exact .tup vs _ (by simpa using hl) (many hx (fun i v x h1 h2=>.fr _ _ (h i v x h1 h2)))
   |tup vs _ hl h=>exact .tup vs _ (by simpa using hl) (many hx h)
  |fn f cs=>cases h with
   |fr _ _ h=>cases h with|fn _ vs _ hl h=>exact .fn f vs _ (by simpa using hl) (many hx (fun i v x h1 h2=>.fr _ _ (h i v x h1 h2)))
   |fn _ vs _ hl h=>exact .fn f vs _ (by simpa using hl) (many hx h)
  |_=>exact bk1 h hx
 refine⟨⟨c.w,c.S,V',K'⟩,rfl,?_⟩
 exact {
  defers:=hr.defers,size:=hr.size
  tmps:=fun i=>by
   show VR _ _ ((Qb st'.t i).getD .bot)
   cases hl:Qb st'.t i with
   |none=>exact .fr _ _ (.bot _)
   |some x=>
    obtain⟨h1,h2⟩:=ht i x hl
    have hv:=hr.tmps i
    rw[show st.get i=mpV σ x by simp[St.get,h1]] at hv;exact bkV hv h2
  live:=fun q ob hq=>by
   obtain⟨h1,h2,h3⟩:=hH q ob hq
   have hs:(Qb st'.H q).isSome=true:=by rw[hq];rfl
   obtain⟨hk,v,hv,hor,hwr⟩:=hr.live _ _ h1;refine⟨.inl hs,v,(hVy q hs).trans hv,?_,hwr⟩
   cases ob with
   |var t cs=>cases hor with
    |var b ccs _ _ hh hl hp hS=>exact .var b ccs t _ hh (by simpa using hl) (fun i u x hi hj=>many (vs:=ccs.toList) h2 (fun i u x hi hj=>hp i u x (by simpa using hi) hj) i u x (by simpa using hi) hj) hS
   |tok t k n=>cases hor with|tok _ _ _ _ xs ho hS=>exact .tok v t k n xs ho hS
   |arr t k es=>cases hor with
    |arr _ _ _ _ xs ho hks hp hS=>
     refine .arr v t k _ xs (by simpa using ho) (fun e he=>?_) (fun i u x hi hj=>?_) hS
     ·have:=hks _ (List.mem_map.2 ⟨e,he,rfl⟩)
      simpa using this
     have:∀(i:Nat) (v:Value) (x:AV),xs[i]?=some v→(es.flatten.map (mp1 σ))[i]?=some x→VR c v x:=fun i v x hi hj=>hp i v x hi (by rw[Qbt];exact hj)
     exact many (vs:=xs) h2 this i u x hi hj
  dead:=fun q hq=>hVn q (by rw[hq];decide)
  apart:=fun o o' v v' b h1 h2 h3 h4=>by
   replace h1:V' o=some v:=h1
   replace h2:V' o'=some v':=h2
   by_cases e1:(Qb st'.H o).isSome=true
   ·by_cases e2:(Qb st'.H o').isSome=true
    ·rw[hVy o e1] at h1
     rw[hVy o' e2] at h2;exact inj o o' e1 e2 (hr.apart _ _ v v' b h1 h2 h3 h4)
    rw[hVn o' e2] at h2;cases h2
   rw[hVn o e1] at h1;cases h1
  ids:=fun q hk=>by
   rcases hk with hk|hk
   ·cases hl:Qb st'.H q with
    |none=>rw[hl] at hk;cases hk
    |some ob=>
     obtain⟨h1,-,h3⟩:=hH q ob hl
     rcases h3 with h3|⟨h3,h4⟩
     ·exact .inl h3
     rw[h4] at h1
     rcases hr.ids q (hr.live _ _ h1).1 with h|h
     ·have:=hr.nxB;omega
     exact .inr h
   exact .inr hk
  nxB:=hB,kbs:=fun q h=>.inr h
  V0:=fun q hk=>by
   show Qa9 (E.V0 q) (V' q)
   by_cases e:(Qb st'.H q).isSome=true
   ·rw[hVy q e]
    cases hl:Qb st'.H q with
    |none=>rw[hl] at e;cases e
    |some ob=>
     have hb:=E.kb q hk
     rcases(hH q ob hl).2.2 with h3|⟨h3,h4⟩
     ·omega
     rw[h4];exact hr.V0 q hk
   rw[hVn q e];exact .inr (.inl rfl)
  Ssz:=hr.Ssz,os:=hr.os,tape:=hr.tape,output:=hr.output,drawn:=hr.drawn,grown:=hr.grown,frame:=hr.frame,S0:=hr.S0,Snew:=hr.Snew }
theorem QdS {α:Type}(g:Nat→Bool):∀(H:List (Nat×α)) (q:Nat),Qb (H.filter fun p=>g p.1) q=if g q then Qb H q else none
 |[],q=>by simp[Qb]
 |p::H,q=>by
  have ih:=QdS g H q
  rw[List.filter_cons]
  by_cases h:g p.1=true
  ·rw[if_pos h,show(p::H.filter fun p=>g p.1)=(p.1,p.2)::H.filter fun p=>g p.1 from rfl,Qn,ih,show Qb (p::H) q=Qb ((p.1,p.2)::H) q from rfl,Qn]
   by_cases e:q=p.1
   ·subst e;simp[h]
   simp[e]
  rw[if_neg h,ih,show Qb (p::H) q=Qb ((p.1,p.2)::H) q from rfl,Qn]
  by_cases e:q=p.1
  ·subst e;simp[h]
  simp[e]
section
variable {P:Program}{E:X7}{c:Cx}{a:Act}{st:St}
theorem Qe7 {Hin Hout H:List (Nat×Qj)}{ρ':List (Nat×Nat)}{m nx:Nat}(hnew:∀o,o<m→rn ρ' o=nx+o)(fresh:∀o,o<m→Qb H (nx+o)=none)
  (injD:∀o o',((Qb Hin o).isSome=true∨o<m)→((Qb Hin o').isSome=true∨o'<m)→rn ρ' o=rn ρ' o'→o=o') (dom:∀o,(Qb Hout o).isSome=true→(Qb Hin o).isSome=true∨o<m) :
  ∃H',(∀o,(Qb Hin o).isSome=true∨o<m→Qb H' (rn ρ' o)=(Qb Hout o).map (YM ρ'))∧∀q,(∀o,(Qb Hin o).isSome=true∨o<m→rn ρ' o≠q)→Qb H' q=Qb H q:=by
 refine⟨Hout.map (fun p=>(rn ρ' p.1,YM ρ' p.2))++H.filter (fun p => !(Hin.any fun q=>rn ρ' q.1==p.1)),fun o hD=>?_,fun q hq=>?_⟩
 ·have lk:∀(l:List (Nat×Qj)),(∀p∈l,(Qb Hin p.1).isSome=true∨p.1<m)→Qb (l.map fun p=>(rn ρ' p.1,YM ρ' p.2)) (rn ρ' o)=(Qb l o).map (YM ρ'):=by
   intro l
   induction l with
   |nil=>intro _;rfl
   |cons p l ih=>
    intro hl;obtain⟨j,x⟩:=p;rw[List.map_cons,Qn,Qn]
    by_cases e:o=j
    ·subst e;rw[if_pos rfl,if_pos rfl];rfl
    rw[if_neg e,if_neg (fun e2=>e (injD o j hD (hl (j,x) (.head _)) e2))];exact ih (fun p hp=>hl p (.tail _ hp))
  rw[Kv,lk Hout (fun p hp=>dom p.1 (QcK hp))]
  cases hx:Qb Hout o with
  |some ob=>rfl
  |none=>
   show Qb (H.filter _) (rn ρ' o)=none
   rw[QdS (fun k => !(Hin.any fun q=>rn ρ' q.1==k))]
   split
   ·rename_i h
    rcases hD with hD|hD
    ·obtain⟨p,hp,rfl⟩:=QcM hD
     have:(Hin.any fun q=>rn ρ' q.1==rn ρ' p.1)=true:=List.any_eq_true.2 ⟨p,hp,by simp⟩
     rw[this] at h;cases h
    rw[hnew o hD];exact fresh o hD
   rfl
 rw[Kv,W0 (fun p hp e=>?_)]
 ·show Qb (H.filter _) q=_
  rw[QdS (fun k => !(Hin.any fun q=>rn ρ' q.1==k)),if_pos];rw[Bool.not_eq_true',List.any_eq_false];intro p hp h;exact hq p.1 (.inl (QcK hp)) (by simpa using h)
 obtain⟨p0,hp0,rfl⟩:=List.mem_map.1 hp;exact hq p0.1 (dom p0.1 (QcK hp0)) e
theorem Jk.append_ownO (hr:Jk E c a st){q r:Nat}{t te te2:TypeId}{k bytes:Nat}[hT:QaZ P t te k bytes](ty:TypeId){es es':List (List AV)}(hq:Qb st.H q=some (.arr te k es))(hq2:Qb st.H r=some (.arr te2 k es')){v sv:Value}(hv:VR c v (.own q es.length))(hs:VR c sv (.own r es'.length))
  (h1:es'.flatten.all st.cell1=true) (hb:(es.length+es'.length)*bytes≤140737488355328) (h63:es.length+es'.length≤9223372036854775807) :
  ∃(v':Value) (c':Cx),(Builtin.append_ #[t,t] ty #[v,sv]).run P c.w=.ok v' c'.w∧Jk E c' a (st.set q (.arr te k (es++es')))∧VR c' v' (.own q (es.length+es'.length)):=by
 obtain⟨hkq,v0,hv0,hor,hwr⟩:=hr.live q _ hq;obtain⟨hkr,s0,hs0,hor2,hwr2⟩:=hr.live r _ hq2
 cases hor2 with
 |arr _ _ _ _ news hown2 hek2 hxs2 hS2=>
 obtain⟨A2,cap2,hA2⟩:=Y3 hown2
 have hss:sv=s0:=by
  cases hs with
  |fr _ _ h=>cases h
  |own _ _ _ hK hV=>rw[(hV A2 _ cap2 (by rw[hs0,hA2])).2 rfl,hA2]
 subst hss
 have hn1:news.length=es'.length*k:=hown2.1
 have hfl2:=QcA hek2
 have hn2:∀u∈news,u.oneCell'=true:=fun u hu=>by
  obtain⟨i,hi⟩:=List.getElem?_of_mem hu
  have hlt:=(List.getElem?_eq_some_iff.1 hi).1
  have hx:es'.flatten[i]?=some es'.flatten[i]:=List.getElem?_eq_getElem (by omega)
  exact hr.one (hxs2 i u _ hi hx) (List.all_eq_true.1 h1 _ (List.mem_of_getElem? hx))
 obtain⟨A,cc,hsv,hn4⟩:∃A cc,sv=.slice A es'.length cc∧((A=none∧es'.length=0)∨∃ad,A=some ad∧∀(j:Nat) (u:Value),news[j]?=some u→c.w.cell? (ad.add j)=some u):=by
  rcases hown2.2 with ⟨e1,e2⟩|⟨g,cap,cur,e1,e2,e3,e4,e5,e6,e7⟩
  ·exact⟨none,0,by rw[e1,e2],.inl ⟨rfl,e2⟩⟩
  refine⟨some ⟨g,0,none⟩,cap,e1,.inr ⟨_,rfl,fun j u hj=>?_⟩⟩;rw[←e7] at hj
  have hj2:cur[j]?=some u:=by
   rw[List.getElem?_take] at hj
   split at hj
   ·simpa using hj
   cases hj
  have hc0:c.w.cell? ⟨g,0+j,none⟩=some u:=by simp[World.cell?,e3,hj2]
  rw[Addr.add_mk];exact hc0
 subst hsv
 cases hor with
 |arr _ _ _ _ xs hown hek hxs hS=>
  obtain⟨A0,cap0,hA0⟩:=Y3 hown
  have hvv:v=v0:=by
   cases hv with
   |fr _ _ h=>cases h
   |own _ _ _ hK hV=>rw[(hV A0 _ cap0 (by rw[hv0,hA0])).2 rfl,hA0]
  subst hvv
  obtain⟨v',w',r1,r2,r3,r4,r5,r6,r7,⟨A',cap',r8⟩,r9⟩:=W6 (P:=P) c.w (t:=t) ty hown hn1 hn2 hn4 hb h63
  obtain⟨c',e1,e2,hle,e4,e5,hr'⟩:=hr.upd hq (w':=w') (S':=c.S) hv0 (.arr te k (es++es')) (v':=v') r3 r4 r5 r6
   (fun b hb hne=>by
    rcases r7 with ⟨_,e2⟩|⟨_,e2⟩
    ·exact e2 b hb hne
    exact e2 b hb)
   (fun b off hs=>⟨hs,by
    have hbl:=hr.Ssz b off hs
    rcases r7 with ⟨_,e2⟩|⟨_,e2⟩
    ·exact World.cell?_of_block (a:=⟨b,off,none⟩) (e2 b hbl (fun e=>hS b e off hs))
    exact World.cell?_of_block (a:=⟨b,off,none⟩) (e2 b hbl)⟩)
   (fun b off hs=>.inl hs)
   (by
    rcases r7 with ⟨e1,_⟩|⟨e1,_⟩
    ·exact .inl e1
    exact .inr (fun b hb=>by rw[e1] at hb;cases hb;exact Nat.le_refl _))
   (by
    rcases Nat.eq_zero_or_pos es'.length with h0|h0
    ·rw[r9 h0];exact .refl _
    exact .inr (.inr ⟨A0,es.length,cap0,A',_,cap',by rw[hA0],by rw[r8],by omega⟩))
   (fun c' e1 e2 hle=>.arr v' te k (es++es') (xs++news) (by rw[e1,List.length_append];exact r2) (fun e he=>by
     rcases List.mem_append.1 he with he|he
     ·exact hek e he
     exact hek2 e he)
    (fun i u x hi hx=>by
     have hfl:=QcA hek
     rw[List.flatten_append] at hx
     rcases Nat.lt_or_ge i xs.length with h|h
     ·rw[List.getElem?_append_left h] at hi
      rw[List.getElem?_append_left (by rw[hfl,←hown.1];exact h)] at hx;exact(hxs i u x hi hx).mono hle
     rw[List.getElem?_append_right h] at hi;rw[List.getElem?_append_right (by rw[hfl,←hown.1];exact h),hfl,←hown.1] at hx
     exact(hxs2 _ u x hi hx).mono hle)
    (fun b hb off hs=>by
     rw[e2] at hs
     rcases r7 with ⟨f1,_⟩|⟨f1,_⟩
     ·exact hS b (f1▸hb) off hs
     rw[f1] at hb;cases hb
     exact Nat.lt_irrefl _ (hr.Ssz _ _ hs)))
  refine⟨v',c',by rw[e1];exact r1,hr',.own _ _ _ e4 (fun A2 n2 cap2 hh=>?_)⟩;rw[e5] at hh
  have hh:v'=.slice A2 n2 cap2:=Option.some.inj hh
  rw[r8] at hh
  have hn2:es.length+es'.length=n2:=(Value.slice.inj hh).2.1
  exact⟨by omega,fun _=>by rw[r8,hh]⟩
end
section
variable {P:Program}{E:X7}{Q:Exit→St→Prop}{ops:Array Oper}{o:Oper}{rest:List Oper}{t:List (Nat×AV)}{H:List (Nat×Qj)}{nx N d:Nat}{w:Bool}
theorem QeN (hN:E.N=N){sx x:Operand}{tt:TypeId}(ho:o.op=.call { callee:=.builtin .append,args := #[sx,x],argTypes := #[tt,tt] }){te te2:TypeId}{k bytes:Nat}[hT:QaZ P tt te k bytes]
  {es es':List (List AV)} {q n r m:Nat} (hs:X4 ⟨t,H,nx⟩ sx=some (.own q n)) (hq:Qb H q=some (.arr te k es)) (hn:n=es.length) (hx:X4 ⟨t,H,nx⟩ x=some (.own r m)) (hq2:Qb H r=some (.arr te2 k es')) (hm:m=es'.length)
  (h1:es'.flatten.all (St.cell1 ⟨t,H,nx⟩)=true) (hb:(es.length+es'.length)*bytes≤140737488355328∧es.length+es'.length≤9223372036854775807) (hg:Qo ops ⟨t,H,nx⟩ o=some w) (hw:w=true) (hd:o.dst=some d) (hdN:Nat.blt d N=true)
  (h:Q3 P E ops rest Q ⟨(d,.own q (n+es'.length))::t,(q,.arr te k (es++es'))::H,nx⟩):Q3 P E ops (o::rest) Q ⟨t,H,nx⟩:=by
 subst hw hn hm
 refine Qbr (.own q (es.length+es'.length)) (St.set ⟨t,H,nx⟩ q (.arr te k (es++es'))) hg (dlt hN hd hdN) (fun c a hr=>?_) (by rw[hd];exact h)
 have hvs:=hr.ev sx
 rw[QZ hs] at hvs
 have hvx:=hr.ev x
 rw[QZ hx] at hvx;obtain⟨v',c',h1,h2,h3⟩:=hr.append_ownO (P:=P) (t:=tt) o.type hq hq2 hvs hvx h1 hb.1 hb.2;exact⟨v',c',by simp[execOp,ho,resolve,invoke,builtin,h1],h2,h3⟩
theorem Qtp (hN:E.N=N){f:FuncId}{bs avs:List AV}{Hin Hout:List (Nat×Qj)}{res res':AV}{m:Nat}(ρ:List (Nat×Nat))(hc:GX P f bs Hin res Hout m)[hf:Xl P f](ho:WN ⟨t,H,nx⟩ o f avs){ρ':List (Nat×Nat)}(hρ:ρ++Yr nx m=ρ')(hab:bs.map (KU ρ')=avs)(hbig:bs.all QbK=true)
  (k1:∀p∈ρ,Qf≤p.1) (k2:nx+m≤Qf) (hin:∀o ob,Qb Hin o=some ob→Qb H (rn ρ' o)=some (YM ρ' ob)∧Qf≤o∧ob.cells.all Qcn=true)
  (inj:∀o o',(Qb Hin o).isSome=true→(Qb Hin o').isSome=true→rn ρ' o=rn ρ' o'→o=o') (dom:∀o,(Qb Hout o).isSome=true→(Qb Hin o).isSome=true∨o<m)
  (hout:∀o ob,Qb Hout o=some ob→ob.cells.all (KH Hout)=true) (hrs:Qb0 Hout res=true) (hre:KU ρ' res=res')
  (hg:Qo ops ⟨t,H,nx⟩ o=some w) (hw:w=true) (hd:o.dst=some d) (hdN:Nat.blt d N=true)
  (h:∀H',(∀o,(Qb Hin o).isSome=true∨o<m→Qb H' (rn ρ' o)=(Qb Hout o).map (YM ρ'))→(∀q,(∀o,(Qb Hin o).isSome=true∨o<m→rn ρ' o≠q)→Qb H' q=Qb H q)→Q3 P E ops rest Q ⟨(d,res')::t,H',nx+m⟩):Q3 P E ops (o::rest) Q ⟨t,H,nx⟩:=fun c a hr=>by
 subst hw hre
 have hnew:∀o,o<m→rn ρ' o=nx+o:=fun o ho=>by
  have h0:Qb ρ o=none:=W0 fun p hp e=>by
   have:=k1 p hp
   omega
  rw[←hρ,rn,Kv,h0,QaA,if_pos ho]
  rfl
 have fresh:∀o,o<m→Qb H (nx+o)=none:=fun o ho=>by
  cases hx:Qb H (nx+o) with
  |none=>rfl
  |some ob=>
   rcases hr.ids _ (hr.live _ ob hx).1 with h|h
   ·have h:nx+o<nx:=h
    omega
   have:=E.kb _ h;omega
 have kin:∀o,(Qb Hin o).isSome=true→rn ρ' o<nx∨Qf≤rn ρ' o:=fun o g=>by
  cases hx:Qb Hin o with
  |none=>rw[hx] at g;cases g
  |some ob=>
   rcases hr.ids _ (hr.live _ _ (hin o ob hx).1).1 with h|h
   ·exact .inl h
   exact .inr (E.kb _ h)
 have injD:∀o o',((Qb Hin o).isSome=true∨o<m)→((Qb Hin o').isSome=true∨o'<m)→rn ρ' o=rn ρ' o'→o=o':=fun o o' g1 g2 e=>by
  rcases g1 with g1|g1<;>rcases g2 with g2|g2
  ·exact inj o o' g1 g2 e
  ·have:=kin o g1;rw[e,hnew o' g2] at this;omega
  ·have:=kin o' g2;rw[←e,hnew o g1] at this;omega
  rw[hnew o g1,hnew o' g2] at e;omega
 obtain⟨H',q1,q2⟩:=Qe7 hnew fresh injD dom
 refine wpList_step fun K hK=>?_
 rw[Xx hg hr,if_pos rfl];obtain⟨vs,hrun,hvl,hv⟩:=ho.run (P:=P) hr
 unfold Oper.wp
 rw[hrun,Oper.upon_enter]
 subst hab
 refine(hr.xcall hc ρ' H' k2 hin hnew inj dom hout q1 q2 hrs (by simpa using hvl) hbig (fun i v x hi hj=>hv i v _ hi (by rw[List.getElem?_map,hj];rfl))).mono ?_;rintro e w' ⟨v,c',rfl,rfl,hr',hvr⟩
 have hput:=hr'.put (d:=o.dst) (dlt hN hd hdN) hvr
 rw[hd] at hput;refine hK _ _ (h H' q1 q2 c' _ ?_);rw[hd];exact hput
end
section
variable {E:X7}{t:List (Nat×AV)}{H:List (Nat×Qj)}{nx:Nat}
theorem Qqa (hB:Nat.blt nx Qf=true)(q j:Nat)(te:TypeId)(k:Nat){tt:TypeId}{es:List (List AV)}(hq:Qb H q=some (.arr tt 1 es))(hn:q≠nx)(h1:∀e∈es,e.length=1)(h:es[j]?=some [.p (.slice none 0 0)]):Kj E ⟨t,H,nx⟩ ⟨t,(q,.arr tt 1 (es.set j [.own nx 0]))::(nx,.arr te k [])::H,nx+1⟩:=fun c a hr=>by
 obtain⟨c',e1,e2,hle,e4,e5,hr'⟩:=hr.new (Nat.le_of_ble_eq_true hB) (Bel.refl c.w) (.slice none 0 0) (.arr te k []) (fun c' e1 e2 hle=>.arr _ te k [] [] (World.ownsRow_nil _ 0 te k) (by simp) (by simp) (fun b hb=>by simp[Xd] at hb)) (fun b hb=>by simp[Xd] at hb)
 have hv:VR c' (.slice none 0 0) (.own nx 0):=.own _ _ _ e4 (fun A n' cap hh=>by
  rw[show c'.V nx=some (.slice none 0 0) from e5] at hh
  cases hh
  exact⟨Nat.le_refl _,fun _=>rfl⟩)
 have hlk:∀o,Qb ((q,Qj.arr tt 1 (es.set j [.own nx 0]))::(nx,.arr te k [])::H) o=if o=q then some (Qj.arr tt 1 (es.set j [.own nx 0])) else Qb ((nx,.arr te k [])::H) o:=fun o=>Qn _ _ _ _
 have hqq:Qb ((nx,Qj.arr te k [])::H) q=some (.arr tt 1 es):=by rw[Qe _ _ hn];exact hq
 refine⟨c',e1,{ hr' with live:=fun o ob ho=>?_,dead:=fun o ho=>?_ }⟩
 ·replace ho:Qb ((q,Qj.arr tt 1 (es.set j [.own nx 0]))::(nx,.arr te k [])::H) o=some ob:=ho
  rw[hlk] at ho
  split at ho
  ·rename_i e
   subst e
   cases ho
   obtain⟨g1,v,g2,g3,g4⟩:=hr'.live _ _ hqq;refine⟨g1,v,g2,?_,g4⟩
   cases g3 with
   |arr _ _ _ _ xs ho2 hk2 hp hS=>
    refine .arr v tt 1 _ xs (by rw[List.length_set];exact ho2) (fun e he=>?_) (fun i u x hi hx=>?_) hS
    ·rcases List.mem_or_eq_of_mem_set he with he|rfl
     ·exact hk2 e he
     rfl
    rw[QjL h1] at hx
    split at hx
    ·rename_i e
     obtain⟨rfl,-⟩:=e
     cases hx
     have:=(hp i u _ hi (QmH h1 h)).p_inv
     rw[this];exact hv
    exact hp i u x hi hx
  exact hr'.live o ob ho
 replace ho:Qb ((q,Qj.arr tt 1 (es.set j [.own nx 0]))::(nx,.arr te k [])::H) o=none:=ho
 rw[hlk] at ho
 split at ho
 ·cases ho
 exact hr'.dead o ho
end
def okW (L:Nat):AV→Bool
 | .tup xs=>xs.all (okId L)
 |x=>okId L x
theorem VR.okW {c c':Cx}{L:Nat}(hw:c'.w=c.w)(hS:c'.S=c.S)(hK:∀o,c.K o→o<L∨Qf≤o→c'.K o)(hV:∀o v,c'.V o=some v→c.V o=some v){v:Value}{xs:List AV}(h:VR c v (.tup xs))(hx:xs.all (Go.Proofs.YtnkkokmmeplbgaaGreat.okId L)=true):VR c' v (.tup xs):=by
 cases h with
 |fr _ _ h=>cases h with|tup vs _ hl h=>exact .tup vs _ hl fun i v x hi hj=>(VR.fr _ _ (h i v x hi hj)).okId hw hS hK hV (List.all_eq_true.1 hx _ (List.mem_of_getElem? hj))
 |tup vs _ hl h=>exact .tup vs _ hl fun i v x hi hj=>(h i v x hi hj).okId hw hS hK hV (List.all_eq_true.1 hx _ (List.mem_of_getElem? hj))
theorem QuJ {g:AV→AV}{cs:List AV}{i:Nat}{x:AV}(h:(cs.map g)[i]?=some x):∃y,cs[i]?=some y∧g y=x:=by
 rw[List.getElem?_map] at h
 cases hx:cs[i]? with
 |none=>rw[hx] at h;cases h
 |some y=>rw[hx] at h;cases h;exact⟨y,rfl,rfl⟩
theorem VR.backW {ρ:List (Nat×Nat)}{c' c0':Cx}{Hin:List (Nat×Qj)}(hw:c'.w=c0'.w)(hS:c'.S=c0'.S)(hK:∀o,c0'.K o→c'.K (rn ρ o))(hV:∀o v,(Qb Hin o).isSome=true→c'.V (rn ρ o)=some v→c0'.V o=some v){v:Value}{xs:List AV}(h:VR c0' v (.tup xs))(hx:xs.all (Qb0 Hin)=true):VR c' v (.tup (xs.map (KU ρ))):=by
 have many:∀ {vs:List Value},(∀(i:Nat) (v:Value) (x:AV),vs[i]?=some v→xs[i]?=some x→VR c0' v x)→∀(i:Nat) (v:Value) (x:AV),vs[i]?=some v→(xs.map (KU ρ))[i]?=some x→VR c' v x:=fun {vs} h i v x hi hj=>by
  obtain⟨y,hy,rfl⟩:=QuJ hj;exact(h i v y hi hy).backV hw hS hK hV (List.all_eq_true.1 hx _ (List.mem_of_getElem? hy))
 cases h with
 |fr _ _ h=>cases h with|tup vs _ hl h=>exact .tup vs _ (by simpa using hl) (many fun i v x h1 h2=>.fr _ _ (h i v x h1 h2))
 |tup vs _ hl h=>exact .tup vs _ (by simpa using hl) (many h)
def QxZ (rs:List RS)(xs:List AV)(Hout:List (Nat×Qj))(m:Nat):Exit→St→Prop
 | .normal,st | .ret,st=>resY st rs=some (.tup xs)∧xs.all (okId m)=true∧Nat.ble st.nx m=true∧Nat.ble m Qf=true∧∀o ob,Qb Hout o=some ob→Qb st.H o=some ob∧(Nat.blt o m||Nat.ble Qf o)=true∧JB m ob=true
 |_,_=>False
theorem Qnm {P:Program}{f:FuncId}{fn:Func}{code:Code}{args:List AV}{xs:List AV}{Hin Hout:List (Nat×Qj)}{m:Nat}(rs:List RS)(hokR:RS.okL P rs)(hf:P.funcs[f]?=some fn)(hb:fn.body=some code)(hres:fn.results=(rs.map RS.var).toArray)(N:Nat)(hN:fn.ntmps=N)(hle:args.length≤N)
  (h:∀E:X7,E.N=N→Y1 P E code (QxZ rs xs Hout m) ⟨Qao 0 args,Hin,0⟩):GX P f args Hin (.tup xs) Hout m:=by
 intro c0 vs hg hvl hv;refine calls_of_wp hf hb ?_
 let E:X7:=⟨N,c0.w,c0.S,fun b=>c0.w.heap.size≤b∨∃o v,c0.V o=some v∧Xd v=some b,fun _ h=>.inl h,c0.K,hg.big,c0.V⟩
 have hr:Jk E c0 { tmps:=vs.toArray++Array.replicate (fn.ntmps-vs.toArray.size) undef,defers:=[] } ⟨Qao 0 args,Hin,0⟩:={
  defers:=rfl
  size:=by show(vs.toArray++Array.replicate (fn.ntmps-vs.toArray.size) undef).size=N;simp;omega
  tmps:=fun i=>by
   show VR _ ((vs.toArray++Array.replicate (fn.ntmps-vs.toArray.size) undef).getD i undef) ((Qb (Qao 0 args) i).getD .bot)
   rw[Wp]
   simp only[Nat.zero_le,if_true,Nat.sub_zero]
   rcases Nat.lt_or_ge i args.length with hlt|hge
   ·have hlt':i<vs.length:=by omega
    have e:(vs.toArray++Array.replicate (fn.ntmps-vs.toArray.size) undef).getD i undef=vs[i]:=by
     simp[Array.getElem?_append,hlt']
    rw[e,List.getElem?_eq_getElem hlt];exact hv i _ _ (List.getElem?_eq_getElem hlt') (List.getElem?_eq_getElem hlt)
   rw[List.getElem?_eq_none hge];exact .fr _ _ (.bot _)
  live:=fun o ob h=>by
   obtain⟨h1,v,h2,h3⟩:=hg.live o ob h;exact⟨h1,v,h2,h3,fun b hb=>.inr ⟨o,v,h2,hb⟩⟩
  dead:=hg.dead
  apart:=hg.apart
  ids:=fun _ h=>.inr h
  nxB:=Nat.zero_le _
  kbs:=fun _ h=>h
  V0:=fun _ _=>.refl _
  Ssz:=hg.Ssz
  os:=rfl,tape:=rfl,output:=rfl,drawn:=Nat.le_refl _,grown:=Nat.le_refl _
  frame:=fun _ _ _=>rfl
  S0:=fun _ _ h=>⟨h,rfl⟩
  Snew:=fun _ _ h=>.inl h }
 refine wp_mono (h E rfl _ _ hr) ?_;rintro e a' w' ⟨c,st,rfl,hr',hq⟩
 have fin:(resY st rs=some (.tup xs)∧xs.all (okId m)=true∧Nat.ble st.nx m=true∧Nat.ble m Qf=true∧∀o ob,Qb Hout o=some ob→Qb st.H o=some ob∧(Nat.blt o m||Nat.ble Qf o)=true∧JB m ob=true) →
   a'.defers=[]∧∃v,(results fn a'.tmps).run P c.w=.ok v c.w∧∃v' c',Ending.returned v=.returned v'∧c'.w=c.w∧Qto Hout m c0 c'∧VR c' v' (.tup xs):=by
  rintro⟨hr2,hok,hnx,hmB,hout⟩;obtain⟨vR,hgv,hvR⟩:=hr'.resY hokR hres hr2
  have hnx:=Nat.le_of_ble_eq_true hnx
  have hmB:=Nat.le_of_ble_eq_true hmB
  obtain⟨V',hV'⟩:∃V':Nat→Option Value,V'=fun o=>if (Qb Hout o).isSome then c.V o else none:=⟨_,rfl⟩
  have hVs:∀o v,V' o=some v→c.V o=some v∧(Qb Hout o).isSome=true:=fun o v h=>by
   rw[hV'] at h;dsimp only at h
   split at h
   ·exact⟨h,by assumption⟩
   cases h
  have hK:∀o,c.K o→o<m∨Qf≤o→c0.K o∨o<m:=fun o hk ho=>by
   rcases hr'.ids o hk with h1|h1
   ·exact .inr (by omega)
   exact .inl h1
  have hle:c0.le ⟨c.w,c.S,V',fun o=>c0.K o∨o<m⟩:=⟨fun b off hs=>hr'.S0 b off hs,fun _ h=>.inl h,fun o hk=>by
   refine(hr'.V0 o hk).trans ?_
   show Qa9 (c.V o) (V' o)
   rw[hV'];dsimp only
   split
   ·exact .refl _
   exact .inr (.inl rfl)⟩
  have or2:∀ {o},(Nat.blt o m||Nat.ble Qf o)=true→o<m∨Qf≤o:=fun h=>by
   rcases Bool.or_eq_true _ _▸h with h|h
   ·exact .inl (Nat.le_of_ble_eq_true h)
   exact .inr (Nat.le_of_ble_eq_true h)
  refine⟨hr'.defers,_,hgv,_,⟨c.w,c.S,V',fun o=>c0.K o∨o<m⟩,rfl,rfl,?_,?_⟩
  ·exact {
    os:=hr'.os,tape:=hr'.tape,output:=hr'.output,drawn:=hr'.drawn,size:=hr'.grown
    frame:=fun b hb hn=>hr'.frame b hb (fun hw=>by
     rcases hw with hw|⟨o,v,h1,h2⟩
     ·have hw:c0.w.heap.size≤b:=hw
      have hb:b<c0.w.heap.size:=hb
      omega
     exact hn o v h1 h2)
    le:=hle
    K:=fun _=>Iff.rfl
    Snew:=fun b off hs=>by
     rcases hr'.Snew b off hs with h1|h1|h1
     ·exact .inl h1
     ·exact .inr (.inr h1)
     exact .inr (.inl h1)
    Ssz:=hr'.Ssz
    live:=fun o ob ho=>by
     obtain⟨h1,h2,h3⟩:=hout o ob ho;obtain⟨hk,v,hv,hor,hwr⟩:=hr'.live o ob h1;refine⟨hK o hk (or2 h2),v,by rw[hV'];simp[ho,hv],?_,fun b hb=>?_⟩
     ·exact OR.okId (c:=c) (c':=⟨c.w,c.S,V',fun o=>c0.K o∨o<m⟩) rfl rfl hK (fun o v h=>(hVs o v h).1) hor h3
     rcases hwr b hb with h4|h4
     ·exact .inr h4
     exact .inl h4
    dead:=fun o ho=>by show V' o=none;rw[hV'];simp[ho]
    apart:=fun o o' v v' b h1 h2 h3 h4=>hr'.apart o o' v v' b (hVs o v h1).1 (hVs o' v' h2).1 h3 h4 }
  exact VR.okW (c:=c) (c':=⟨c.w,c.S,V',fun o=>c0.K o∨o<m⟩) rfl rfl hK (fun o v h=>(hVs o v h).1) hvR hok
 cases e with
 |normal=>exact fin hq
 |ret=>exact fin hq
 |_=>exact hq.elim
section
variable {P:Program}{E:X7}{c:Cx}{a:Act}{st:St}
theorem Jk.xcallW (hr:Jk E c a st){f:FuncId}{bs:List AV}{Hin Hout:List (Nat×Qj)}{xs:List AV}{m:Nat}(hc:GX P f bs Hin (.tup xs) Hout m)(ρ:List (Nat×Nat))(H':List (Nat×Qj))(hmB:st.nx+m≤Qf)
  (hin:∀o ob,Qb Hin o=some ob→Qb st.H (rn ρ o)=some (YM ρ ob)∧Qf≤o∧ob.cells.all Qcn=true)
  (hnew:∀o,o<m→rn ρ o=st.nx+o)
  (inj:∀o o',(Qb Hin o).isSome=true→(Qb Hin o').isSome=true→rn ρ o=rn ρ o'→o=o')
  (dom:∀o,(Qb Hout o).isSome=true→(Qb Hin o).isSome=true∨o<m) (hout:∀o ob,Qb Hout o=some ob→ob.cells.all (KH Hout)=true)
  (h1:∀o,(Qb Hin o).isSome=true∨o<m→Qb H' (rn ρ o)=(Qb Hout o).map (YM ρ)) (h2:∀q,(∀o,(Qb Hin o).isSome=true∨o<m→rn ρ o≠q)→Qb H' q=Qb st.H q)
  (hrs:xs.all (Qb0 Hout)=true)
  {vs:List Value} (hvl:vs.length=bs.length) (hbig:bs.all QbK=true) (hv:∀(i:Nat) (v:Value) (x:AV),vs[i]?=some v→bs[i]?=some x→VR c v (KU ρ x)) :
  Calls P f vs.toArray c.w fun e w'=>∃v c',e=.returned v∧c'.w=w'∧Jk E c' a ⟨st.t,H',st.nx+m⟩∧VR c' v (.tup (xs.map (KU ρ))):=by
 classical
 obtain⟨V0,hV0⟩:∃V0:Nat→Option Value,V0=fun o=>if (Qb Hin o).isSome then c.V (rn ρ o) else none:=⟨_,rfl⟩
 have hV0s:∀o v,V0 o=some v→c.V (rn ρ o)=some v∧(Qb Hin o).isSome=true:=fun o v h=>by
  rw[hV0] at h;dsimp only at h
  split at h
  ·exact⟨h,by assumption⟩
  cases h
 have hV0i:∀o,(Qb Hin o).isSome=true→V0 o=c.V (rn ρ o):=fun o h=>by rw[hV0];simp[h]
 have hK0:∀o,Qf≤o→c.K (rn ρ o)→(⟨c.w,c.S,V0,fun o=>Qf≤o∧c.K (rn ρ o)⟩:Cx).K o:=fun o h1 h2=>⟨h1,h2⟩
 have gin:GIn Hin ⟨c.w,c.S,V0,fun o=>Qf≤o∧c.K (rn ρ o)⟩:={
  big:=fun o h=>h.1
  live:=fun o ob ho=>by
   obtain⟨g1,g2,g3⟩:=hin o ob ho;obtain⟨hk,v,hvv,hor,_⟩:=hr.live _ _ g1;refine⟨⟨g2,hk⟩,v,(hV0i o (by rw[ho];rfl)).trans hvv,?_⟩
   have into:∀ {u:Value} {x:AV},VR c u (Kq ρ x)→Qcn x=true→VR ⟨c.w,c.S,V0,fun o=>Qf≤o∧c.K (rn ρ o)⟩ u x:=fun h hx=>VR.into1 (c:=c) (c0:=⟨c.w,c.S,V0,fun o=>Qf≤o∧c.K (rn ρ o)⟩) (ρ:=ρ) rfl rfl hK0 (fun o v h=>(hV0s o v h).1) h hx
   cases ob with
   |var t cs=>cases hor with
    |var b ccs _ _ hh hl hp hS=>
     exact .var b ccs t cs hh (by simpa using hl) (fun i u x hi hj=>into (hp i u _ hi (by rw[List.getElem?_map,hj];rfl)) (List.all_eq_true.1 g3 _ (List.mem_of_getElem? hj))) hS
   |tok t k n=>cases hor with|tok _ _ _ _ xs ho hS=>exact .tok v t k n xs ho hS
   |arr t k es=>cases hor with
    |arr _ _ _ _ xs ho hks hp hS=>
     rw[List.length_map] at ho;exact .arr v t k es xs ho (fun e he=>by simpa using hks _ (List.mem_map_of_mem he)) (fun i u x hi hj=>into (hp i u _ hi (by rw[Qbt,List.getElem?_map,hj];rfl)) (List.all_eq_true.1 g3 _ (List.mem_of_getElem? hj))) hS
  dead:=fun o ho=>by show V0 o=none;rw[hV0];simp[ho]
  apart:=fun o o' v v' b g1 g2 g3 g4=>by
   obtain⟨k1,k2⟩:=hV0s o v g1;obtain⟨k3,k4⟩:=hV0s o' v' g2;exact inj o o' k2 k4 (hr.apart _ _ v v' b k1 k3 g3 g4)
  Ssz:=hr.Ssz }
 refine(hc _ vs gin hvl (fun i v x hi hj=>VR.intoV (c:=c) (c0:=⟨c.w,c.S,V0,fun o=>Qf≤o∧c.K (rn ρ o)⟩) (ρ:=ρ) rfl rfl hK0 (fun o v h=>(hV0s o v h).1) (hv i v x hi hj) (List.all_eq_true.1 hbig _ (List.mem_of_getElem? hj)))).mono ?_;rintro e w' ⟨v,c0',rfl,rfl,go,hfr⟩
 have fresh:∀o,o<m→¬c.K (st.nx+o):=fun o ho hk=>by
  rcases hr.ids _ hk with h|h
  ·omega
  have:=E.kb _ h;omega
 have kin:∀o,(Qb Hin o).isSome=true→c.K (rn ρ o):=fun o ho=>by
  cases h:Qb Hin o with
  |none=>rw[h] at ho;cases ho
  |some ob=>exact(gin.live o ob h).1.2
 have injD:∀o o',((Qb Hin o).isSome=true∨o<m)→((Qb Hin o').isSome=true∨o'<m)→rn ρ o=rn ρ o'→o=o':=fun o o' g1 g2 e=>by
  rcases g1 with g1|g1<;>rcases g2 with g2|g2
  ·exact inj o o' g1 g2 e
  ·rw[hnew o' g2] at e
   exact absurd (e▸kin o g1) (fresh o' g2)
  ·rw[hnew o g1] at e
   exact absurd (e▸kin o' g2) (fresh o g1)
  rw[hnew o g1,hnew o' g2] at e;omega
 obtain⟨V',hV'⟩:∃V':Nat→Option Value,V'=fun q=>if h:∃o,((Qb Hin o).isSome=true∨o<m)∧rn ρ o=q then c0'.V h.choose else c.V q:=⟨_,rfl⟩
 have hVq:∀o,((Qb Hin o).isSome=true∨o<m)→V' (rn ρ o)=c0'.V o:=fun o ho=>by
  have hex:∃o',((Qb Hin o').isSome=true∨o'<m)∧rn ρ o'=rn ρ o:=⟨o,ho,rfl⟩
  rw[hV'];dsimp only;rw[dif_pos hex];exact congrArg c0'.V (injD _ _ hex.choose_spec.1 ho hex.choose_spec.2)
 have hVn:∀q,(∀o,((Qb Hin o).isSome=true∨o<m)→rn ρ o≠q)→V' q=c.V q:=fun q hq=>by
  have hex:¬ ∃o',((Qb Hin o').isSome=true∨o'<m)∧rn ρ o'=q:=fun⟨o,g1,g2⟩=>hq o g1 g2
  rw[hV'];dsimp only;rw[dif_neg hex]
 have part:∀q,(∃o,((Qb Hin o).isSome=true∨o<m)∧rn ρ o=q)∨(∀o,((Qb Hin o).isSome=true∨o<m)→rn ρ o≠q):=fun q=>by
  by_cases h:∃o,((Qb Hin o).isSome=true∨o<m)∧rn ρ o=q
  ·exact .inl h
  exact .inr (fun o g1 g2=>h ⟨o,g1,g2⟩)
 let K':Nat→Prop:=fun q=>c.K q∨(st.nx≤q∧q<st.nx+m)
 have hKb:∀o,c0'.K o→K' (rn ρ o):=fun o hk=>by
  rcases(go.K o).1 hk with h|h
  ·exact .inl h.2
  exact .inr (by rw[hnew o h];omega)
 have hlec:c.le ⟨c0'.w,c0'.S,V',K'⟩:=⟨fun b off hs=>go.le.S b off hs,fun _ h=>.inl h,fun q hk=>by
  rcases part q with ⟨o,g1,rfl⟩|hq
  ·rcases g1 with g1|g1
   ·show Qa9 (c.V (rn ρ o)) (V' (rn ρ o))
    rw[hVq o (.inl g1),←hV0i o g1]
    cases ho:Qb Hin o with
    |none=>rw[ho] at g1;cases g1
    |some ob=>exact go.le.V o (gin.live o ob ho).1
   rw[hnew o g1] at hk;exact absurd hk (fresh o g1)
  exact .inl (hVn q hq)⟩
 have hsz:=go.size
 have hDout:∀o ob,Qb Hout o=some ob→(Qb Hin o).isSome=true∨o<m:=fun o ob h=>dom o (by rw[h];rfl)
 have oth:∀q u,(∀o,((Qb Hin o).isSome=true∨o<m)→rn ρ o≠q)→c.V q=some u→∀b,Xd u=some b→∀o v,V0 o=some v→Xd v≠some b:=fun q u hq hu b hb o v hov e=>by
  obtain⟨k1,k2⟩:=hV0s o v hov;exact hq o (.inl k2) (hr.apart _ _ v u b k1 hu e hb)
 have lv:∀q u,c.V q=some u→∃ob,Qb st.H q=some ob∧OR c u ob∧∀b,Xd u=some b→E.Wr b:=fun q u hu=>by
  cases hl:Qb st.H q with
  |none=>rw[hr.dead q hl] at hu;cases hu
  |some ob=>
   obtain⟨_,u',hu',hor,hwr⟩:=hr.live q ob hl
   rw[hu] at hu';cases hu'
   exact⟨ob,rfl,hor,hwr⟩
 have wrIn:∀o v b,V0 o=some v→Xd v=some b→E.Wr b∧b<c.w.heap.size:=fun o v b hov hb=>by
  obtain⟨ob,_,hor,hwr⟩:=lv _ _ (hV0s o v hov).1;exact⟨hwr b hb,hor.lt hb⟩
 have bk:∀ {u:Value} {x:AV},VR c0' u x→KH Hout x=true→VR ⟨c0'.w,c0'.S,V',K'⟩ u (Kq ρ x):=fun h hx=>
  VR.back1 (c0':=c0') (c':=⟨c0'.w,c0'.S,V',K'⟩) (Hin:=Hout) rfl rfl hKb (fun o v hs e=>by rw[←hVq o (dom o hs)];exact e) h hx
 refine⟨v,⟨c0'.w,c0'.S,V',K'⟩,rfl,rfl,?_,VR.backW (c0':=c0') (c':=⟨c0'.w,c0'.S,V',K'⟩) (Hin:=Hout) rfl rfl hKb (fun o v hs e=>by rw[←hVq o (dom o hs)];exact e) hfr hrs⟩
 exact {
  defers:=hr.defers,size:=hr.size
  tmps:=fun i=>(hr.tmps i).mono hlec
  live:=fun q ob hq=>by
   rcases part q with ⟨o,g1,rfl⟩|hnq
   ·have hq':=h1 o g1
    rw[show Qb H' (rn ρ o)=some ob from hq] at hq'
    cases ho:Qb Hout o with
    |none=>rw[ho] at hq';cases hq'
    |some ob0=>
     rw[ho] at hq'
     have:ob=YM ρ ob0:=Option.some.inj hq'
     subst this
     obtain⟨hk0,u,hu,hor,hbl⟩:=go.live o ob0 ho;refine⟨hKb o hk0,u,(hVq o g1).trans hu,?_,fun b hb=>?_⟩
     ·have hio:=hout o ob0 ho
      cases ob0 with
      |var t cs=>cases hor with
       |var b ccs _ _ hh hl hp hS=>
        exact .var b ccs t _ hh (by simpa using hl) (fun i u x hi hj=>by
         obtain⟨x0,hx,rfl⟩:=Qiy hj
         exact bk (hp i u x0 hi hx) (List.all_eq_true.1 hio _ (List.mem_of_getElem? hx))) hS
      |tok t k n=>cases hor with|tok _ _ _ _ xs ho hS=>exact .tok u t k n xs ho hS
      |arr t k es=>cases hor with
       |arr _ _ _ _ xs ho hks hp hS=>
        exact .arr u t k _ xs (by rw[List.length_map];exact ho) (fun e he=>by
         obtain⟨e0,h0,rfl⟩:=List.mem_map.1 he
         simpa using hks e0 h0) (fun i u x hi hj=>by
         rw[Qbt] at hj;obtain⟨x0,hx,rfl⟩:=Qiy hj
         exact bk (hp i u x0 hi hx) (List.all_eq_true.1 hio _ (List.mem_of_getElem? hx))) hS
     rcases hbl b hb with ⟨o',v',g2,g3⟩|g2
     ·exact(wrIn o' v' b g2 g3).1
     exact E.new b (Nat.le_trans hr.grown g2)
   have hq':Qb st.H q=some ob:=by rw[←h2 q hnq];exact hq
   obtain⟨hk,u,hu,hor,hwr⟩:=hr.live q ob hq';refine⟨.inl hk,u,(hVn q hnq).trans hu,?_,hwr⟩
   have hst:∀b,Xd u=some b→c0'.w.heap[b]?=c.w.heap[b]?:=fun b hb=>go.frame b (hor.lt hb) (fun o v hov=>oth q u hnq hu b hb o v hov)
   have hSs:∀b,Xd u=some b→∀off,c0'.S b off→c.S b off:=fun b hb off hs=>by
    rcases go.Snew b off hs with g1|⟨o,v,g1,g2⟩|g1
    ·exact g1
    ·exact absurd g2 (oth q u hnq hu b hb o v g1)
    have:=hor.lt hb
    have g1:c.w.heap.size≤b:=g1
    omega
   cases hor with
   |var b ccs t cs hh hl hp hn=>exact .var b ccs t cs ((hst b rfl).trans hh) hl (fun i u x h1 h2=>(hp i u x h1 h2).mono hlec) (fun off hs=>hn off (hSs b rfl off hs))
   |tok _ t k n xs ho2 hn=>
    refine .tok u t k n xs ?_ (fun b hb off hle hs=>hn b hb off hle (hSs b hb off hs));refine⟨ho2.1,?_⟩
    rcases ho2.2 with h1|⟨g,cap,cur,rfl,h1,h2,h3⟩
    ·exact .inl h1
    exact .inr ⟨g,cap,cur,rfl,h1,(hst g rfl).trans h2,h3⟩
   |arr _ t k es xs ho2 hk2 hp hn=>
    refine .arr u t k es xs ?_ hk2 (fun i u x h1 h2=>(hp i u x h1 h2).mono hlec) (fun b hb off hs=>hn b hb off (hSs b hb off hs));refine⟨ho2.1,?_⟩
    rcases ho2.2 with h1|⟨g,cap,cur,rfl,h1,h2,h3⟩
    ·exact .inl h1
    exact .inr ⟨g,cap,cur,rfl,h1,(hst g rfl).trans h2,h3⟩
  dead:=fun q hq=>by
   rcases part q with ⟨o,g1,rfl⟩|hnq
   ·have h3:=h1 o g1
    rw[show Qb H' (rn ρ o)=none from hq] at h3
    cases ho:Qb Hout o with
    |some ob0=>rw[ho] at h3;cases h3
    |none=>exact(hVq o g1).trans (go.dead o ho)
   exact(hVn q hnq).trans (hr.dead q (by rw[←h2 q hnq];exact hq))
  apart:=fun q q' u u' b hu hu' hb1 hb2=>by
   have ofIn:∀o v,c0'.V o=some v→∀b,Xd v=some b→(∃o' v',V0 o'=some v'∧Xd v'=some b)∨c.w.heap.size≤b:=fun o v g2 b hb=>by
    cases ho:Qb Hout o with
    |none=>rw[go.dead o ho] at g2;cases g2
    |some ob0=>
     obtain⟨_,v2,g3,_,g4⟩:=go.live o ob0 ho
     rw[g2] at g3;cases g3
     exact g4 b hb
   have mix:∀o v q u b,c0'.V o=some v→(∀o,((Qb Hin o).isSome=true∨o<m)→rn ρ o≠q)→c.V q=some u→Xd v=some b→Xd u=some b→False:=fun o v q u b g2 g3 g4 g5 g6=>by
    rcases ofIn o v g2 b g5 with ⟨o',v',k1,k2⟩|k1
    ·exact oth q u g3 g4 b g6 o' v' k1 k2
    obtain⟨ob,_,hor,_⟩:=lv q u g4
    have:=hor.lt g6
    omega
   have hu:V' q=some u:=hu
   have hu':V' q'=some u':=hu'
   rcases part q with ⟨o,g1,rfl⟩|hnq<;>rcases part q' with ⟨o',g2,rfl⟩|hnq'
   ·rw[hVq o g1] at hu
    rw[hVq o' g2] at hu';rw[go.apart o o' u u' b hu hu' hb1 hb2]
   ·rw[hVq o g1] at hu
    rw[hVn q' hnq'] at hu';exact(mix o u q' u' b hu hnq' hu' hb1 hb2).elim
   ·rw[hVn q hnq] at hu
    rw[hVq o' g2] at hu';exact(mix o' u' q u b hu' hnq hu hb2 hb1).elim
   rw[hVn q hnq] at hu;rw[hVn q' hnq'] at hu';exact hr.apart q q' u u' b hu hu' hb1 hb2
  ids:=fun q hk=>by
   rcases hk with hk|hk
   ·rcases hr.ids q hk with h|h
    ·exact .inl (by show q<st.nx+m;omega)
    exact .inr h
   exact .inl hk.2
  nxB:=hmB,kbs:=fun q h=>.inl (hr.kbs q h)
  V0:=fun q hk=>(hr.V0 q hk).trans (hlec.V q (hr.kbs q hk))
  Ssz:=go.Ssz
  os:=go.os.trans hr.os,tape:=go.tape.trans hr.tape,output:=go.output.trans hr.output,drawn:=Nat.le_trans hr.drawn go.drawn
  grown:=Nat.le_trans hr.grown hsz
  frame:=fun b hb hn=>by
   refine(go.frame b (Nat.lt_of_lt_of_le hb hr.grown) (fun o v hov e=>hn (wrIn o v b hov e).1)).trans (hr.frame b hb hn)
  S0:=fun b off hs=>⟨(go.le.S _ _ (hr.S0 b off hs).1).1,((go.le.S _ _ (hr.S0 b off hs).1).2).trans (hr.S0 b off hs).2⟩
  Snew:=fun b off hs=>by
   rcases go.Snew b off hs with g1|⟨o,v,g1,g2⟩|g1
   ·exact hr.Snew b off g1
   ·exact .inr (wrIn o v b g1 g2).1
   exact .inr (E.new b (Nat.le_trans hr.grown g1)) }
end
section
variable {P:Program}{E:X7}{Q:Exit→St→Prop}{ops:Array Oper}{o:Oper}{rest:List Oper}{t:List (Nat×AV)}{H:List (Nat×Qj)}{nx N d:Nat}{w:Bool}
theorem QrJ (hN:E.N=N){f:FuncId}{bs avs:List AV}{Hin Hout:List (Nat×Qj)}{xs xs':List AV}{m:Nat}(ρ:List (Nat×Nat))(hc:GX P f bs Hin (.tup xs) Hout m)[hf:Xl P f](ho:WN ⟨t,H,nx⟩ o f avs){ρ':List (Nat×Nat)}(hρ:ρ++Yr nx m=ρ')(hab:bs.map (KU ρ')=avs)(hbig:bs.all QbK=true)
  (k1:∀p∈ρ,Qf≤p.1) (k2:nx+m≤Qf) (hin:∀o ob,Qb Hin o=some ob→Qb H (rn ρ' o)=some (YM ρ' ob)∧Qf≤o∧ob.cells.all Qcn=true)
  (inj:∀o o',(Qb Hin o).isSome=true→(Qb Hin o').isSome=true→rn ρ' o=rn ρ' o'→o=o') (dom:∀o,(Qb Hout o).isSome=true→(Qb Hin o).isSome=true∨o<m)
  (hout:∀o ob,Qb Hout o=some ob→ob.cells.all (KH Hout)=true) (hrs:xs.all (Qb0 Hout)=true) (hre:xs.map (KU ρ')=xs')
  (hg:Qo ops ⟨t,H,nx⟩ o=some w) (hw:w=true) (hd:o.dst=some d) (hdN:Nat.blt d N=true)
  (h:∀H',(∀o,(Qb Hin o).isSome=true∨o<m→Qb H' (rn ρ' o)=(Qb Hout o).map (YM ρ'))→(∀q,(∀o,(Qb Hin o).isSome=true∨o<m→rn ρ' o≠q)→Qb H' q=Qb H q)→Q3 P E ops rest Q ⟨(d,.tup xs')::t,H',nx+m⟩):Q3 P E ops (o::rest) Q ⟨t,H,nx⟩:=fun c a hr=>by
 subst hw hre
 have hnew:∀o,o<m→rn ρ' o=nx+o:=fun o ho=>by
  have h0:Qb ρ o=none:=W0 fun p hp e=>by
   have:=k1 p hp
   omega
  rw[←hρ,rn,Kv,h0,QaA,if_pos ho]
  rfl
 have fresh:∀o,o<m→Qb H (nx+o)=none:=fun o ho=>by
  cases hx:Qb H (nx+o) with
  |none=>rfl
  |some ob=>
   rcases hr.ids _ (hr.live _ ob hx).1 with h|h
   ·have h:nx+o<nx:=h
    omega
   have:=E.kb _ h;omega
 have kin:∀o,(Qb Hin o).isSome=true→rn ρ' o<nx∨Qf≤rn ρ' o:=fun o g=>by
  cases hx:Qb Hin o with
  |none=>rw[hx] at g;cases g
  |some ob=>
   rcases hr.ids _ (hr.live _ _ (hin o ob hx).1).1 with h|h
   ·exact .inl h
   exact .inr (E.kb _ h)
 have injD:∀o o',((Qb Hin o).isSome=true∨o<m)→((Qb Hin o').isSome=true∨o'<m)→rn ρ' o=rn ρ' o'→o=o':=fun o o' g1 g2 e=>by
  rcases g1 with g1|g1<;>rcases g2 with g2|g2
  ·exact inj o o' g1 g2 e
  ·have:=kin o g1;rw[e,hnew o' g2] at this;omega
  ·have:=kin o' g2;rw[←e,hnew o g1] at this;omega
  rw[hnew o g1,hnew o' g2] at e;omega
 obtain⟨H',q1,q2⟩:=Qe7 hnew fresh injD dom
 refine wpList_step fun K hK=>?_
 rw[Xx hg hr,if_pos rfl];obtain⟨vs,hrun,hvl,hv⟩:=ho.run (P:=P) hr
 unfold Oper.wp
 rw[hrun,Oper.upon_enter]
 subst hab
 refine(hr.xcallW hc ρ' H' k2 hin hnew inj dom hout q1 q2 hrs (by simpa using hvl) hbig (fun i v x hi hj=>hv i v _ hi (by rw[List.getElem?_map,hj];rfl))).mono ?_;rintro e w' ⟨v,c',rfl,rfl,hr',hvr⟩
 have hput:=hr'.put (d:=o.dst) (dlt hN hd hdN) hvr
 rw[hd] at hput;refine hK _ _ (h H' q1 q2 c' _ ?_);rw[hd];exact hput
end
end Go.Proofs.YtnkkokmmeplbgaaGreat
