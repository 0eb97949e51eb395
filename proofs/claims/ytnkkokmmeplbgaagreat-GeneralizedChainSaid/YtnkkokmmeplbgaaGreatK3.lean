/-
  A run's memory: the variable cluster, its rows, its nodes wi
-/
import Derived.Test.YtnkkokmmeplbgaaGreatK2
namespace Go.Proofs.YtnkkokmmeplbgaaGreat
open Go.RowKit
structure Cl where
 F:List (Nd×Option Pp)
 dn:List Bool
 net:List Kb
 ins:List (List Qz)
 lrn:List Qz
def Cl.ok (c:Cl):Prop:=c.F.length≤5∧c.ins.length≤5
abbrev clC (l:Qv)(c:Cl)(ν:Nat→Nat):List AV:=[i64 l.k,i64 l.lo,i64 l.hi,Jz l.nm,QiL l.ps,rus l.rs,.own (ν 1) c.F.length,.own (ν 2) c.dn.length,.own (ν 3) c.net.length,.own (ν 4) c.ins.length,.own (ν 5) c.lrn.length]
def Qli (z:Nat):Option Pp→AV
 |none=>Jw
 |some _=>.ptr z 0
abbrev Qau (l:Qv)(z:Nat)(x:Nd×Option Pp):Qj:=.var 131 (XP l x.1 (Qli z x.2))
abbrev Qfc (ν:Nat→Nat)(n:Nat):List (List AV):=(List.range n).map fun i=>[AV.ptr (ν (10+i)) 0]
abbrev QeJ (ν:Nat→Nat)(ins:List (List Qz)):List (List AV):=ins.mapIdx fun i vs=>[AV.own (ν (30+i)) vs.length]
def Kz (l:Qv)(c:Cl)(ν:Nat→Nat):Nat→Option Qj
 |0=>some (.var 95 (clC l c ν))
 |1=>some (.arr 76 1 (Qfc ν c.F.length))
 |2=>some (.arr 4 1 (c.dn.map bv1))
 |3=>some (.arr 54 8 (c.net.map fun b=>Ja b))
 |4=>some (.arr 27 1 (QeJ ν c.ins))
 |5=>some (.arr 30 4 (c.lrn.map Ym))
 |6=>none|7=>none|8=>none|9=>none
 |j+10=>if j<10 then(c.F[j]?).map fun x=>Qau l (ν (20+j)) x else if j<20 then(c.F[j-10]?).bind fun x=>x.2.map fun p=>.var 137 (Jy p) else(c.ins[j-20]?).map fun vs=>.arr 30 4 (vs.map Ym)
theorem Y8 {l:Qv}{c:Cl}{ν:Nat→Nat}{i:Nat}(h:i<10):Kz l c ν (10+i)=(c.F[i]?).map fun x=>Qau l (ν (20+i)) x:=by
 rw[Nat.add_comm];simp only[Kz,h,if_true]
theorem Wf {l:Qv}{c:Cl}{ν:Nat→Nat}{i:Nat}(h:i<10):Kz l c ν (20+i)=(c.F[i]?).bind fun x=>x.2.map fun p=>.var 137 (Jy p):=by
 rw[show 20+i=(i+10)+10 by omega]
 simp only[Kz]
 rw[if_neg (by omega),if_pos (by omega),Nat.add_sub_cancel]
theorem Wo {l:Qv}{c:Cl}{ν:Nat→Nat}{i:Nat}:Kz l c ν (30+i)=(c.ins[i]?).map fun vs=>.arr 30 4 (vs.map Ym):=by
 rw[show 30+i=(i+20)+10 by omega]
 simp only[Kz]
 rw[if_neg (by omega),if_neg (by omega),Nat.add_sub_cancel]
theorem Qby {l:Qv}{c:Cl}{ν:Nat→Nat}{j:Nat}{ob:Qj}(h:Kz l c ν j=some ob):j<6∨(∃i x,j=10+i∧i<10∧c.F[i]?=some x∧ob=Qau l (ν (20+i)) x)∨(∃i x p,j=20+i∧i<10∧c.F[i]?=some x∧x.2=some p∧ob=.var 137 (Jy p))∨∃i vs,j=30+i∧c.ins[i]?=some vs∧ob=.arr 30 4 (vs.map Ym):=by
 by_cases h6:j<6
 ·exact .inl h6
 by_cases h10:j<10
 ·have:j=6∨j=7∨j=8∨j=9:=by omega
  rcases this with rfl|rfl|rfl|rfl<;>cases h
 by_cases h20:j<20
 ·obtain⟨i,rfl⟩:∃i,j=10+i:=⟨j-10,by omega⟩
  rw[Y8 (by omega)] at h;obtain⟨x,h1,h2⟩:=Option.map_eq_some_iff.1 h;exact .inr (.inl ⟨i,x,rfl,by omega,h1,h2.symm⟩)
 by_cases h30:j<30
 ·obtain⟨i,rfl⟩:∃i,j=20+i:=⟨j-20,by omega⟩
  rw[Wf (by omega)] at h;obtain⟨x,h1,h2⟩:=Option.bind_eq_some_iff.1 h;obtain⟨p,h3,h4⟩:=Option.map_eq_some_iff.1 h2;exact .inr (.inr (.inl ⟨i,x,p,rfl,by omega,h1,h3,h4.symm⟩))
 obtain⟨i,rfl⟩:∃i,j=30+i:=⟨j-30,by omega⟩
 rw[Wo] at h;obtain⟨vs,h1,h2⟩:=Option.map_eq_some_iff.1 h;exact .inr (.inr (.inr ⟨i,vs,rfl,h1,h2.symm⟩))
theorem QsR {l:Qv}{c:Cl}(hc:c.ok){ν:Nat→Nat}{j:Nat}{ob:Qj}(h:Kz l c ν j=some ob):j<40:=by
 have h1:=hc.1
 have h2:=hc.2
 rcases Qby h with h|⟨i,x,rfl,h3,-⟩|⟨i,x,p,rfl,h3,-⟩|⟨i,vs,rfl,h3,-⟩
 ·omega
 ·omega
 ·omega
 have:=(List.getElem?_eq_some_iff.1 h3).1;omega
def KL (l:Qv)(c:Cl)(ν:Nat→Nat):List (Nat×Qj):=(List.range 40).filterMap fun j=>(Kz l c ν j).map fun ob=>(ν j,ob)
def Qap (ν:Nat→Nat):Prop:=∀i j,i<40→j<40→ν i=ν j→i=j
def Xn (H:List (Nat×Qj))(l:Qv)(c:Cl)(ν:Nat→Nat):Prop:=∀j ob,j<40→Kz l c ν j=some ob→Qb H (ν j)=some ob
theorem QmE {ν:Nat→Nat}{f:Nat→Option Qj}{j:Nat}:∀(L:List Nat),(∀i∈L,ν i=ν j→i=j)→Qb (L.filterMap fun j=>(f j).map fun ob=>(ν j,ob)) (ν j)=if j∈L then f j else none
 |[],_=>by simp[Qb]
 |i::L,h=>by
  have ih:=QmE (ν:=ν) (f:=f) (j:=j) L fun k hk=>h k (List.mem_cons_of_mem _ hk)
  rw[List.filterMap_cons]
  by_cases e:j=i
  ·subst e
   cases hf:f j with
   |none=>
    simp only[Option.map_none]
    rw[ih,hf];simp
   |some ob=>
    simp only[Option.map_some]
    rw[Qp];simp
  have hn:ν j≠ν i:=fun e2=>e (h i List.mem_cons_self e2.symm).symm
  cases hf:f i with
  |none=>
   simp only[Option.map_none]
   rw[ih];simp[e]
  |some ob=>
   simp only[Option.map_some]
   rw[Qe _ _ hn,ih];simp[e]
theorem Jc {l:Qv}{c:Cl}{ν:Nat→Nat}(hi:Qap ν){j:Nat}(hj:j<40):Qb (KL l c ν) (ν j)=Kz l c ν j:=by
 unfold KL
 rw[QmE (f:=Kz l c ν) (List.range 40) fun i h e=>hi i j (List.mem_range.1 h) hj e,if_pos (List.mem_range.2 hj)]
theorem YK {l:Qv}{c:Cl}{ν:Nat→Nat}{q:Nat}{ob:Qj}(h:Qb (KL l c ν) q=some ob):∃j,j<40∧q=ν j:=by
 obtain⟨p,hp,e⟩:=QcM (o:=q) (l:=KL l c ν) (by rw[h];rfl);obtain⟨j,h1,h2⟩:=List.mem_filterMap.1 hp;obtain⟨ob2,h3,h4⟩:=Option.map_eq_some_iff.1 h2;exact⟨j,List.mem_range.1 h1,by rw[←e,←h4]⟩
theorem Xn.self {l:Qv}{c:Cl}{ν:Nat→Nat}(hi:Qap ν):Xn (KL l c ν) l c ν:=fun _ _ hj h=>(Jc hi hj).trans h
theorem Xn.cons {H:List (Nat×Qj)}{l:Qv}{c:Cl}{ν:Nat→Nat}{q:Nat}{x:Qj}(hq:∀j,j<40→ν j≠q)(h:Xn H l c ν):Xn ((q,x)::H) l c ν:=fun j ob hj ho=>by rw[Qe _ _ (hq j hj)];exact h j ob hj ho
theorem QvD (ρ:List (Nat×Nat))(x:AV):Kq ρ x=mp1 (rn ρ) x:=by
 cases x with
 |sl es tk=>cases tk<;>rfl
 |_=>rfl
theorem QmB (ρ:List (Nat×Nat)):Kq ρ=mp1 (rn ρ):=funext (QvD ρ)
theorem Qps (ρ:List (Nat×Nat))(ob:Qj):YM ρ ob=mpO (rn ρ) ob:=by
 cases ob with
 |var t cs=>simp only[YM,mpO,QmB]
 |tok=>rfl
 |arr t k es=>simp only[YM,mpO,QmB]
def QbF:AV→Bool
 | .p _ | .sl _ none | .emp | .bot | .el _=>true
 |_=>false
theorem Qrd {σ:Nat→Nat}{x:AV}(h:QbF x=true):mp1 σ x=x:=by
 cases x with
 |sl es tk=>cases tk with
  |none=>rfl
  |some o=>cases h
 |own=>cases h
 |ptr=>cases h
 |eptr=>cases h
 |_=>rfl
theorem Qga {σ:Nat→Nat}{xs:List AV}(h:xs.all QbF=true):xs.map (mp1 σ)=xs:=by
 have:∀x∈xs,mp1 σ x=id x:=fun x hx=>Qrd (List.all_eq_true.1 h x hx)
 rw[List.map_congr_left this,List.map_id]
theorem Qbx (v:Qz):(Ym v).all QbF=true:=by rw[KK];rfl
theorem Qhq {H:List (Nat×Qj)}{x:AV}(h:QbF x=true):KH H x=true:=by
 cases x with
 |sl es tk=>cases tk with
  |none=>rfl
  |some o=>cases h
 |own=>cases h
 |ptr=>cases h
 |eptr=>cases h
 |agg=>cases h
 |tup=>cases h
 |fn=>cases h
 |_=>rfl
theorem Qj9 {l:Qv}{c:Cl}(hc:c.ok){μ ν σ:Nat→Nat}(h:∀j,j<40→σ (μ j)=ν j)(j:Nat):(Kz l c μ j).map (mpO σ)=Kz l c ν j:=by
 have h1:=hc.1
 have h2:=hc.2
 cases ho:Kz l c μ j with
 |none=>
  have key:(Kz l c ν j).isSome=(Kz l c μ j).isSome:=by
   by_cases h6:j<6
   ·have:j=0∨j=1∨j=2∨j=3∨j=4∨j=5:=by omega
    rcases this with rfl|rfl|rfl|rfl|rfl|rfl<;>rfl
   by_cases h10:j<10
   ·have:j=6∨j=7∨j=8∨j=9:=by omega
    rcases this with rfl|rfl|rfl|rfl<;>rfl
   by_cases h20:j<20
   ·obtain⟨i,rfl⟩:∃i,j=10+i:=⟨j-10,by omega⟩
    rw[Y8 (by omega),Y8 (by omega)];simp
   by_cases h30:j<30
   ·obtain⟨i,rfl⟩:∃i,j=20+i:=⟨j-20,by omega⟩
    rw[Wf (by omega),Wf (by omega)]
   obtain⟨i,rfl⟩:∃i,j=30+i:=⟨j-30,by omega⟩
   rw[Wo,Wo]
  rw[ho] at key
  cases hv:Kz l c ν j with
  |none=>rfl
  |some x=>rw[hv] at key;cases key
 |some ob=>
  rcases Qby ho with h6|⟨i,x,rfl,h3,h4,h5⟩|⟨i,x,p,rfl,h3,h4,h5,h6⟩|⟨i,vs,rfl,h3,h4⟩
  ·have:j=0∨j=1∨j=2∨j=3∨j=4∨j=5:=by omega
   rcases this with rfl|rfl|rfl|rfl|rfl|rfl
   ·have e:=Option.some.inj ho
    subst e
    show some (Qj.var _ (clC l c fun j=>σ (μ j)))=_
    simp only[clC,Kz,h 1 (by omega),h 2 (by omega),h 3 (by omega),h 4 (by omega),h 5 (by omega)]
   ·have e:=Option.some.inj ho
    subst e
    show some (Qj.arr _ 1 ((Qfc μ c.F.length).map fun e=>e.map (mp1 σ)))=some (Qj.arr _ 1 (Qfc ν c.F.length))
    congr 2
    rw[List.map_map]
    refine List.map_congr_left fun i hi=>?_
    have:=List.mem_range.1 hi
    show[AV.ptr (σ (μ (10+i))) 0]=[AV.ptr (ν (10+i)) 0]
    rw[h (10+i) (by omega)]
   ·have e:=Option.some.inj ho
    subst e
    show some (Qj.arr _ 1 ((c.dn.map bv1).map fun e=>e.map (mp1 σ)))=_
    rw[List.map_map];rfl
   ·have e:=Option.some.inj ho
    subst e
    show some (Qj.arr _ 8 ((c.net.map fun b=>Ja b).map fun e=>e.map (mp1 σ)))=_
    rw[List.map_map];rfl
   ·have e:=Option.some.inj ho
    subst e
    show some (Qj.arr _ 1 ((QeJ μ c.ins).map fun e=>e.map (mp1 σ)))=some (Qj.arr _ 1 (QeJ ν c.ins))
    congr 2
    refine List.ext_getElem (by simp) fun i g1 g2=>?_
    have:i<c.ins.length:=by simpa using g1
    simp only[List.getElem_map,List.getElem_mapIdx,List.map_cons,List.map_nil,mp1,h (30+i) (by omega)]
   have e:=Option.some.inj ho
   subst e
   show some (Qj.arr _ 4 ((c.lrn.map Ym).map fun e=>e.map (mp1 σ)))=some (Qj.arr _ 4 (c.lrn.map Ym))
   rw[List.map_map]
   congr 2
   exact List.map_congr_left fun v _=>Qga (Qbx v)
  ·have hi:=(List.getElem?_eq_some_iff.1 h4).1
   rw[Y8 h3,h4,h5]
   show some (mpO σ (Qau l (μ (20+i)) x))=some (Qau l (ν (20+i)) x)
   have:mp1 σ (Qli (μ (20+i)) x.2)=Qli (ν (20+i)) x.2:=by
    rw[←h (20+i) (by omega)]
    cases x.2<;>rfl
   simp only[Qau,mpO,XP,List.map_cons,List.map_nil,this]
   rfl
  ·rw[Wf h3,h4,h6]
   simp only[Option.bind_some,h5,Option.map_some]
   rfl
  rw[Wo,h3,h4]
  show some (Qj.arr _ 4 ((vs.map Ym).map fun e=>e.map (mp1 σ)))=some (Qj.arr _ 4 (vs.map Ym))
  rw[List.map_map]
  congr 2
  exact List.map_congr_left fun v _=>Qga (Qbx v)
theorem QhP {l:Qv}{c:Cl}{ν:Nat→Nat}{H:List (Nat×Qj)}(hc:c.ok)(hH:∀j ob,j<40→Kz l c ν j=some ob→(Qb H (ν j)).isSome=true){j:Nat}{ob:Qj}(ho:Kz l c ν j=some ob):ob.cells.all (KH H)=true:=by
 have h1:=hc.1
 have h2:=hc.2
 rcases Qby ho with h6|⟨i,x,rfl,h3,h4,h5⟩|⟨i,x,p,rfl,h3,h4,h5,h6⟩|⟨i,vs,rfl,h3,h4⟩
 ·have:j=0∨j=1∨j=2∨j=3∨j=4∨j=5:=by omega
  rcases this with rfl|rfl|rfl|rfl|rfl|rfl
  ·have e:=Option.some.inj ho
   subst e
   simp only[Qj.cells,clC,List.all_cons,List.all_nil,KH,hH 1 _ (by omega) rfl,hH 2 _ (by omega) rfl,hH 3 _ (by omega) rfl,hH 4 _ (by omega) rfl,hH 5 _ (by omega) rfl,Bool.and_self]
  ·have e:=Option.some.inj ho
   subst e
   refine List.all_eq_true.2 fun x hx=>?_
   obtain⟨e,he,hxe⟩:=List.mem_flatten.1 hx;obtain⟨i,hi,rfl⟩:=List.mem_map.1 he;obtain rfl:=List.mem_singleton.1 hxe
   have hi:=List.mem_range.1 hi
   exact hH (10+i) (Qau l (ν (20+i)) c.F[i]) (by omega) (by rw[Y8 (by omega),List.getElem?_eq_getElem hi];rfl)
  ·have e:=Option.some.inj ho
   subst e
   refine List.all_eq_true.2 fun x hx=>?_
   obtain⟨e,he,hxe⟩:=List.mem_flatten.1 hx;obtain⟨i,hi,rfl⟩:=List.mem_map.1 he
   obtain rfl:=List.mem_singleton.1 hxe;rfl
  ·have e:=Option.some.inj ho
   subst e
   refine List.all_eq_true.2 fun x hx=>?_
   obtain⟨e,he,hxe⟩:=List.mem_flatten.1 hx;obtain⟨b,-,rfl⟩:=List.mem_map.1 he;exact Qhq (List.all_eq_true.1 (show(Ja b).all QbF=true from rfl) x hxe)
  ·have e:=Option.some.inj ho
   subst e
   refine List.all_eq_true.2 fun x hx=>?_
   obtain⟨e,he,hxe⟩:=List.mem_flatten.1 hx;obtain⟨i,hi,rfl⟩:=List.mem_mapIdx.1 he;obtain rfl:=List.mem_singleton.1 hxe;exact hH (30+i) (.arr 30 4 (c.ins[i].map Ym)) (by omega) (by rw[Wo,List.getElem?_eq_getElem hi];rfl)
  have e:=Option.some.inj ho
  subst e
  refine List.all_eq_true.2 fun x hx=>?_
  obtain⟨e,he,hxe⟩:=List.mem_flatten.1 hx;obtain⟨v,-,rfl⟩:=List.mem_map.1 he;exact Qhq (List.all_eq_true.1 (Qbx v) x hxe)
 ·subst h5
  have hi:=(List.getElem?_eq_some_iff.1 h4).1
  have:KH H (Qli (ν (20+i)) x.2)=true:=by
   cases hx:x.2 with
   |none=>rfl
   |some p=>exact hH (20+i) (.var 137 (Jy p)) (by omega) (by rw[Wf (by omega),h4];simp[hx])
  simp only[Qj.cells,XP,List.all_cons,List.all_nil,this,Bool.and_true]
  rfl
 ·subst h6;rfl
 subst h4
 refine List.all_eq_true.2 fun x hx=>?_
 obtain⟨e,he,hxe⟩:=List.mem_flatten.1 hx;obtain⟨v,-,rfl⟩:=List.mem_map.1 he;exact Qhq (List.all_eq_true.1 (Qbx v) x hxe)
def bg (j:Nat):Nat:=Qf+j
theorem Xb:Qap bg:=fun i j _ _ h=>by unfold bg at h;omega
theorem Qwf {l:Qv}{c:Cl}{j:Nat}{ob:Qj}(ho:Kz l c bg j=some ob):ob.cells.all Qcn=true:=by
 have hb:∀k,Nat.ble Qf (bg k)=true:=fun k=>Nat.ble_eq_true_of_le (by unfold bg;omega)
 rcases Qby ho with h6|⟨i,x,rfl,h3,h4,h5⟩|⟨i,x,p,rfl,h3,h4,h5,h6⟩|⟨i,vs,rfl,h3,h4⟩
 ·have:j=0∨j=1∨j=2∨j=3∨j=4∨j=5:=by omega
  rcases this with rfl|rfl|rfl|rfl|rfl|rfl
  ·have e:=Option.some.inj ho
   subst e;rfl
  ·have e:=Option.some.inj ho
   subst e
   refine List.all_eq_true.2 fun x hx=>?_
   obtain⟨e,he,hxe⟩:=List.mem_flatten.1 hx;obtain⟨i,hi,rfl⟩:=List.mem_map.1 he;obtain rfl:=List.mem_singleton.1 hxe;exact hb _
  ·have e:=Option.some.inj ho
   subst e
   refine List.all_eq_true.2 fun x hx=>?_
   obtain⟨e,he,hxe⟩:=List.mem_flatten.1 hx;obtain⟨i,hi,rfl⟩:=List.mem_map.1 he
   obtain rfl:=List.mem_singleton.1 hxe;rfl
  ·have e:=Option.some.inj ho
   subst e
   refine List.all_eq_true.2 fun x hx=>?_
   obtain⟨e,he,hxe⟩:=List.mem_flatten.1 hx;obtain⟨b,-,rfl⟩:=List.mem_map.1 he;exact QfL (show _=true from List.all_eq_true.1 (show(Ja b).all QbF=true from rfl) x hxe)
  ·have e:=Option.some.inj ho
   subst e
   refine List.all_eq_true.2 fun x hx=>?_
   obtain⟨e,he,hxe⟩:=List.mem_flatten.1 hx;obtain⟨i,hi,rfl⟩:=List.mem_mapIdx.1 he;obtain rfl:=List.mem_singleton.1 hxe;exact hb _
  have e:=Option.some.inj ho
  subst e
  refine List.all_eq_true.2 fun x hx=>?_
  obtain⟨e,he,hxe⟩:=List.mem_flatten.1 hx;obtain⟨v,-,rfl⟩:=List.mem_map.1 he
  have:=List.all_eq_true.1 (Qbx v) x hxe
  exact QfL this
 ·subst h5
  have:Qcn (Qli (bg (20+i)) x.2)=true:=by
   cases x.2 with
   |none=>rfl
   |some p=>exact hb _
  simp only[Qj.cells,XP,List.all_cons,List.all_nil,this,Bool.and_true]
  rfl
 ·subst h6;rfl
 subst h4
 refine List.all_eq_true.2 fun x hx=>?_
 obtain⟨e,he,hxe⟩:=List.mem_flatten.1 hx;obtain⟨v,-,rfl⟩:=List.mem_map.1 he;exact QfL (show _=true from List.all_eq_true.1 (Qbx v) x hxe)
def sg (μ ν:Nat→Nat)(q:Nat):Nat:=match (List.range 40).find? (fun j=>μ j==q) with
 |some j=>ν j
 |none=>q
theorem QiC {μ ν:Nat→Nat}(hμ:Qap μ){j:Nat}(hj:j<40):sg μ ν (μ j)=ν j:=by
 unfold sg
 cases h:(List.range 40).find? (fun i=>μ i==μ j) with
 |none=>
  have:=List.find?_eq_none.1 h j (List.mem_range.2 hj)
  simp at this
 |some i=>
  have h1:=List.find?_some h
  have h2:=List.mem_range.1 (List.mem_of_find?_eq_some h)
  have:i=j:=hμ i j h2 hj (by simpa using h1)
  rw[this]
theorem QcH {μ ν:Nat→Nat}{q:Nat}(h:∀j,j<40→μ j≠q):sg μ ν q=q:=by
 unfold sg
 cases hf:(List.range 40).find? (fun i=>μ i==q) with
 |none=>rfl
 |some i=>exact absurd (by simpa using List.find?_some hf) (h i (List.mem_range.1 (List.mem_of_find?_eq_some hf)))
def Qu9 (σ:Nat→Nat)(st:St)(H':List (Nat×Qj)):List (Nat×AV)→Prop
 |[]=>True
 |(i,x)::r=>Qb st.t i=some (mpV σ x)∧Qb0 H' x=true∧Qu9 σ st H' r
theorem QjR {σ:Nat→Nat}{st:St}{H':List (Nat×Qj)}:∀ {l:List (Nat×AV)},Qu9 σ st H' l→∀i x,Qb l i=some x→Qb st.t i=some (mpV σ x)∧Qb0 H' x=true
 |[],_,_,_,h=>by cases h
 |(j,y)::r,⟨h1,h2,h3⟩,i,x,h=>by
  rw[Qn] at h
  split at h
  ·rename_i e;cases h;subst e;exact⟨h1,h2⟩
  exact QjR h3 i x h
def QuE (st:St)(μ ν:Nat→Nat)(nx':Nat):List (Nat×Qj)→Prop
 |[]=>True
 |(o,ob)::r=>Qb st.H o=some ob∧ob.cells.all QbF=true∧(∀j,j<40→μ j≠o∧ν j≠o)∧(o<nx'∨Qf≤o)∧QuE st μ ν nx' r
theorem Qi7 {st:St}{μ ν:Nat→Nat}{nx':Nat}:∀ {l:List (Nat×Qj)},QuE st μ ν nx' l→∀o ob,Qb l o=some ob→Qb st.H o=some ob∧ob.cells.all QbF=true∧(∀j,j<40→μ j≠o∧ν j≠o)∧(o<nx'∨Qf≤o)
 |[],_,_,_,h=>by cases h
 |(j,y)::r,⟨h1,h2,h3,h4,h5⟩,i,x,h=>by
  rw[Qn] at h
  split at h
  ·rename_i e;cases h;subst e;exact⟨h1,h2,h3,h4⟩
  exact Qi7 h5 i x h
theorem Qsc {σ:Nat→Nat}{ob:Qj}(h:ob.cells.all QbF=true):mpO σ ob=ob:=by
 cases ob with
 |var t cs=>exact congrArg (Qj.var t) (Qga h)
 |tok=>rfl
 |arr t k es=>
  simp only[mpO]
  congr 1
  have:∀e∈es,e.map (mp1 σ)=id e:=fun e he=>Qga (List.all_eq_true.2 fun x hx=>List.all_eq_true.1 h x (List.mem_flatten.2 ⟨e,he,hx⟩))
  rw[List.map_congr_left this,List.map_id]
theorem Qcw {α:Type}{l r:List (Nat×α)}{o:Nat}(h:Qb l o=none):Qb (l++r) o=Qb r o:=by rw[Kv,h];rfl
theorem Qcq {α:Type}{l r:List (Nat×α)}{o:Nat}{x:α}(h:Qb l o=some x):Qb (l++r) o=some x:=by rw[Kv,h];rfl
theorem QkL {E:X7}{st:St}{l:Qv}{c:Cl}{ν:Nat→Nat}(μ:Nat→Nat)(hμ:Qap μ)(hν:Qap ν)(hc:c.ok)(hcl:Xn st.H l c ν)(pre:List (Nat×Qj)){t':List (Nat×AV)}{nx':Nat}(hB:nx'≤Qf)
  (hb:∀j,j<40→μ j<nx'∨Qf≤μ j∧ν j=μ j) (hp:QuE st μ ν nx' pre) (ht:Qu9 (sg μ ν) st (pre++KL l c μ) t'):Kj E st ⟨t',pre++KL l c μ,nx'⟩:=by
 have hps:=Qi7 hp
 have cases2:∀q ob,Qb (pre++KL l c μ) q=some ob→Qb pre q=some ob∨Qb pre q=none∧∃j,j<40∧q=μ j∧Kz l c μ j=some ob:=fun q ob h=>by
  cases hx:Qb pre q with
  |some x=>rw[Qcq hx] at h;exact .inl h
  |none=>
   rw[Qcw hx] at h;obtain⟨j,h1,rfl⟩:=YK h;exact .inr ⟨rfl,j,h1,rfl,by rw[←Jc hμ h1];exact h⟩
 have has:∀j ob,j<40→Kz l c μ j=some ob→(Qb (pre++KL l c μ) (μ j)).isSome=true:=fun j ob hj ho=>by
  cases hx:Qb pre (μ j) with
  |some x=>rw[Qcq hx];rfl
  |none=>rw[Qcw hx,Jc hμ hj,ho];rfl
 refine Qtv (sg μ ν) hB (QjR ht) (fun q ob hq=>?_) (fun q q' h1 h2 e=>?_)
 ·rcases cases2 q ob hq with h|⟨-,j,hj,rfl,ho⟩
  ·obtain⟨g1,g2,g3,g4⟩:=hps q ob h
   have hs:sg μ ν q=q:=QcH fun j hj=>(g3 j hj).1
   refine⟨by rw[hs,Qsc g2];exact g1,List.all_eq_true.2 fun x hx=>Qhq (List.all_eq_true.1 g2 x hx),?_⟩
   rcases g4 with g4|g4
   ·exact .inl g4
   exact .inr ⟨g4,hs⟩
  rw[QiC hμ hj]
  have hm:=Qj9 (l:=l) hc (μ:=μ) (ν:=ν) (σ:=sg μ ν) (fun j hj=>QiC hμ hj) j
  rw[ho] at hm;refine⟨hcl j _ hj hm.symm,QhP hc has ho,?_⟩
  rcases hb j hj with h|h
  ·exact .inl h
  exact .inr h
 ·obtain⟨o1,g1⟩:=Option.isSome_iff_exists.1 h1
  obtain⟨o2,g2⟩:=Option.isSome_iff_exists.1 h2
  rcases cases2 q o1 g1 with a|⟨-,j,hj,rfl,-⟩<;>rcases cases2 q' o2 g2 with b|⟨-,i,hi,rfl,-⟩
  ·rwa [QcH fun j hj=>((hps q _ a).2.2.1 j hj).1,QcH fun j hj=>((hps q' _ b).2.2.1 j hj).1] at e
  ·rw[QcH fun j hj=>((hps q _ a).2.2.1 j hj).1,QiC hμ hi] at e
   exact absurd e.symm ((hps q _ a).2.2.1 i hi).2
  ·rw[QiC hμ hj,QcH fun j hj=>((hps q' _ b).2.2.1 j hj).1] at e
   exact absurd e ((hps q' _ b).2.2.1 j hj).2
  ·rw[QiC hμ hj,QiC hμ hi] at e
   rw[hν j i hj hi e]
section
variable {E:X7}{o:Oper}{st:St}{l:Qv}{cl:Cl}{ν:Nat→Nat}
theorem QsB (hi:Qap ν)(hcl:Xn st.H l cl ν){k:Nat}{s:Nd}{c:Option Pp}(hk:cl.F[k]?=some (s,c))(hok:cl.ok){g:FuncId}{res:AV}(hc:GC Tryz.prog g [.ptr Qf 0] (ndO l s c (Qf+1)) res (ndO l s c (Qf+1)))
  {xs:Array Operand} {ts:Array TypeId} (ho:o.op=.call { callee:=.value (.func g),args:=xs,argTypes:=ts }) [hf:Xl Tryz.prog g] (ha:evl st xs.toList=some [.ptr (ν (10+k)) 0]):PY Tryz.prog E o st res:=by
 have h5:=hok.1
 have hlt:=(List.getElem?_eq_some_iff.1 hk).1
 have h1:Qb st.H (ν (10+k))=some (Qau l (ν (20+k)) (s,c)):=hcl (10+k) _ (by omega) (by rw[Y8 (by omega),hk];rfl)
 cases c with
 |none=>exact YO [(Qf,ν (10+k))] hc ho ha rfl rfl ⟨h1,rfl,rfl,rfl,trivial⟩ (by simp[Qkv])
 |some p=>
  have h2:Qb st.H (ν (20+k))=some (.var 137 (Jy p)):=hcl (20+k) _ (by omega) (by rw[Wf (by omega),hk];rfl)
  have hne:ν (10+k)≠ν (20+k):=fun e=>by have:=hi _ _ (by omega) (by omega) e;omega
  have e1:rn [(Qf,ν (10+k)),(Qf+1,ν (20+k))] Qf=ν (10+k):=rfl
  have e2:rn [(Qf,ν (10+k)),(Qf+1,ν (20+k))] (Qf+1)=ν (20+k):=rfl
  refine YO [(Qf,ν (10+k)),(Qf+1,ν (20+k))] hc ho ha rfl rfl ⟨h1,rfl,rfl,rfl,h2,rfl,rfl,rfl,trivial⟩ ?_
  have b1:Nat.beq (ν (10+k)) (ν (20+k))=false:=by
   rw[Bool.eq_false_iff];intro h;exact hne (Nat.eq_of_beq_eq_true h)
  have b2:Nat.beq (ν (20+k)) (ν (10+k))=false:=by
   rw[Bool.eq_false_iff];intro h;exact hne (Nat.eq_of_beq_eq_true h).symm
  simp only[Qkv,List.all_cons,List.all_nil,e1,e2,b1,b2,Nat.beq_refl,Bool.not_true,Bool.not_false,Bool.false_or,Bool.true_or,Bool.and_self]
end
theorem QlC {ν:Nat→Nat}{j:Nat}:∀L:List Nat,j∈L→Qb (L.map fun i=>(Qf+i,ν i)) (Qf+j)=some (ν j)
 |[],h=>by cases h
 |i::L,h=>by
  rw[List.map_cons,Qn]
  by_cases e:j=i
  ·subst e;rw[if_pos rfl]
  rw[if_neg (by omega)];exact QlC L (by rcases List.mem_cons.1 h with h|h;exact absurd h e;exact h)
def bgρ (ν:Nat→Nat):List (Nat×Nat):=(List.range 40).map fun i=>(Qf+i,ν i)
theorem QoL {ν:Nat→Nat}:∀p∈bgρ ν,Qf≤p.1:=fun p hp=>by
 obtain⟨i,-,rfl⟩:=List.mem_map.1 hp;exact Nat.le_add_right _ _
theorem Qxv {ν:Nat→Nat}{r:List (Nat×Nat)}{j:Nat}(hj:j<40):rn (bgρ ν++r) (Qf+j)=ν j:=by
 unfold rn
 rw[Kv,show Qb (bgρ ν) (Qf+j)=some (ν j) from QlC _ (List.mem_range.2 hj)];rfl
theorem QiH {ρ:List (Nat×Nat)}(h:∀p∈ρ,Qf≤p.1){nx m o:Nat}(ho:o<m)(hm:m≤Qf):rn (ρ++Yr nx m) o=nx+o:=by
 unfold rn
 rw[Kv,W0 (fun p hp e=>by have:=h p hp;omega),QaA,if_pos ho];rfl
def clN (νo ν:Nat→Nat)(nx m j:Nat):Nat:=if νo j<m then nx+νo j else ν j
section
variable {E:X7}{Q:Exit→St→Prop}{ops:Array Oper}{o:Oper}{rest:List Oper}{t:List (Nat×AV)}{H:List (Nat×Qj)}{nx N d:Nat}{w:Bool}
theorem QdL (hN:E.N=N){f:FuncId}{l:Qv}{c c':Cl}(hc:c.ok)(hc':c'.ok){ν νo:Nat→Nat}{m:Nat}{az:List AV}{res:AV}(hcon:GX Tryz.prog f (.ptr Qf 0::az) (KL l c bg) res (KL l c' νo) m)(hνo:Qap νo)(hz:∀ρ,az.map (KU ρ)=az)(hzb:az.all QbK=true)
  (hr1:∀ρ,KU ρ res=res) (hr2:∀H,Qb0 H res=true) [hf:Xl Tryz.prog f] (ho:WN ⟨t,H,nx⟩ o f (.ptr (ν 0) 0::az)) (hν:Qap ν) (hcl:Xn H l c ν) (k2:nx+m≤Qf)
  (hk:∀j,j<40→νo j<m∨νo j=Qf+j) (hk2:∀j,j<40→¬νo j<m→(Kz l c' νo j).isSome=true→(Kz l c bg j).isSome=true)
  (hg:Qo ops ⟨t,H,nx⟩ o=some w) (hw:w=true) (hd:o.dst=some d) (hdN:Nat.blt d N=true)
  (h:∀H',Xn H' l c' (clN νo ν nx m)→(∀q,(∀j,j<40→ν j≠q)→q<nx→Qb H' q=Qb H q)→Q3 Tryz.prog E ops rest Q ⟨(d,res)::t,H',nx+m⟩):Q3 Tryz.prog E ops (o::rest) Q ⟨t,H,nx⟩:=by
 have hm:m≤Qf:=by omega
 have r1:∀j,j<40→rn (bgρ ν++Yr nx m) (bg j)=ν j:=fun j hj=>Qxv hj
 have r2:∀o,o<m→rn (bgρ ν++Yr nx m) o=nx+o:=fun o ho=>QiH QoL ho hm
 have r3:∀j,j<40→rn (bgρ ν++Yr nx m) (νo j)=clN νo ν nx m j:=fun j hj=>by
  unfold clN
  split
  ·rename_i e;exact r2 _ e
  rename_i e
  rcases hk j hj with h1|h1
  ·exact absurd h1 e
  rw[h1];exact r1 j hj
 have hin:∀o ob,Qb (KL l c bg) o=some ob→∃j,j<40∧o=bg j∧Kz l c bg j=some ob:=fun o ob h=>by
  obtain⟨j,hj,rfl⟩:=YK h;exact⟨j,hj,rfl,by rw[←Jc Xb hj];exact h⟩
 have hout:∀o ob,Qb (KL l c' νo) o=some ob→∃j,j<40∧o=νo j∧Kz l c' νo j=some ob:=fun o ob h=>by
  obtain⟨j,hj,rfl⟩:=YK h;exact⟨j,hj,rfl,by rw[←Jc hνo hj];exact h⟩
 have e2:∀ob,YM (bgρ ν++Yr nx m) ob=mpO (rn (bgρ ν++Yr nx m)) ob:=Qps _
 have e2F:YM (bgρ ν++Yr nx m)=mpO (rn (bgρ ν++Yr nx m)):=funext e2
 refine Qtp hN (bgρ ν) hcon ho rfl ?_ (by rw[List.all_cons,hzb];rfl) QoL k2 (fun o ob h=>?_) (fun o o' h1 h2 e=>?_) (fun o h=>?_) (fun o ob h=>?_) (hr2 _) (hr1 _) hg hw hd hdN (fun H' q1 q2=>?_)
 ·rw[List.map_cons,hz]
  show AV.ptr (rn (bgρ ν++Yr nx m) (bg 0)) 0::az=_
  rw[r1 0 (by omega)]
 ·obtain⟨j,hj,rfl,hob⟩:=hin o ob h
  have hm:=Qj9 (l:=l) hc (μ:=bg) (ν:=ν) (σ:=rn (bgρ ν++Yr nx m)) r1 j
  rw[hob] at hm;exact⟨by rw[r1 j hj,e2];exact hcl j _ hj hm.symm,Nat.le_add_right _ _,Qwf hob⟩
 ·obtain⟨x,hx⟩:=Option.isSome_iff_exists.1 h1
  obtain⟨y,hy⟩:=Option.isSome_iff_exists.1 h2;obtain⟨j,hj,rfl,-⟩:=hin o x hx;obtain⟨i,hi,rfl,-⟩:=hin o' y hy;rw[r1 j hj,r1 i hi] at e;rw[hν j i hj hi e]
 ·obtain⟨x,hx⟩:=Option.isSome_iff_exists.1 h
  obtain⟨j,hj,rfl,hob⟩:=hout o x hx
  by_cases hlt:νo j<m
  ·exact .inr hlt
  refine .inl ?_
  rcases hk j hj with h1|h1
  ·exact absurd h1 hlt
  rw[h1,show Qf+j=bg j from rfl,Jc Xb hj];exact hk2 j hj hlt (by rw[hob];rfl)
 ·obtain⟨j,hj,rfl,hob⟩:=hout o ob h
  exact QhP hc' (fun i x hi hx=>by rw[Jc hνo hi,hx];rfl) hob
 refine h H' (fun j ob hj hob=>?_) (fun q h1 h2=>q2 q fun o ho e=>?_)
 ·have hm:=Qj9 (l:=l) hc' (μ:=νo) (ν:=clN νo ν nx m) (σ:=rn (bgρ ν++Yr nx m)) r3 j
  rw[hob] at hm;obtain⟨x,hx,hx2⟩:=Option.map_eq_some_iff.1 hm
  have hl:Qb (KL l c' νo) (νo j)=some x:=by rw[Jc hνo hj,hx]
  have hD:(Qb (KL l c bg) (νo j)).isSome=true∨νo j<m:=by
   by_cases hlt:νo j<m
   ·exact .inr hlt
   refine .inl ?_
   rcases hk j hj with h1|h1
   ·exact absurd h1 hlt
   rw[h1,show Qf+j=bg j from rfl,Jc Xb hj];exact hk2 j hj hlt (by rw[hx];rfl)
  have:=q1 (νo j) hD
  rw[r3 j hj,hl] at this;rw[this,e2F];exact congrArg some hx2
 rcases ho with ho|ho
 ·obtain⟨x,hx⟩:=Option.isSome_iff_exists.1 ho
  obtain⟨j,hj,rfl,-⟩:=hin o x hx;rw[r1 j hj] at e;exact h1 j hj e
 rw[r2 o ho] at e;omega
def Cl.setF (c:Cl)(k:Nat)(r:Nd×Option Pp):Cl:={ c with F:=c.F.set k r }
theorem Qfq {c:Cl}{k:Nat}{r:Nd×Option Pp}(h:c.ok):(c.setF k r).ok:=⟨by show(c.F.set k r).length≤5;rw[List.length_set];exact h.1,h.2⟩
def Qcm (ν:Nat→Nat)(j z:Nat)(i:Nat):Nat:=if i=j then z else ν i
theorem Ql2 {l:Qv}{c:Cl}{ν:Nat→Nat}{k z:Nat}{r:Nd×Option Pp}(hc:c.ok){j:Nat}(h1:j≠10+k)(h2:j≠20+k)(hk:k<5):Kz l (c.setF k r) (Qcm ν (20+k) z) j=Kz l c ν j:=by
 have hu:∀i,i≠20+k→Qcm ν (20+k) z i=ν i:=fun i hi=>if_neg hi
 have hl:(c.setF k r).F.length=c.F.length:=List.length_set ..
 have hg:∀i,i≠k→(c.setF k r).F[i]?=c.F[i]?:=fun i hi=>List.getElem?_set_ne (fun e=>hi e.symm)
 have h5:=hc.1
 have h6:=hc.2
 by_cases h6:j<6
 ·have:j=0∨j=1∨j=2∨j=3∨j=4∨j=5:=by omega
  rcases this with rfl|rfl|rfl|rfl|rfl|rfl
  ·simp only[Kz,clC,hl,hu 1 (by omega),hu 2 (by omega),hu 3 (by omega),hu 4 (by omega),hu 5 (by omega)]
   rfl
  ·simp only[Kz,hl]
   congr 2
   refine List.map_congr_left fun i hi=>?_
   have:=List.mem_range.1 hi
   rw[hu (10+i) (by omega)]
  ·rfl
  ·rfl
  ·simp only[Kz]
   congr 2
   refine List.ext_getElem (by simp[Cl.setF]) fun i g1 g2=>?_
   simp only[List.getElem_mapIdx,hu (30+i) (by omega)]
   rfl
  rfl
 by_cases h10:j<10
 ·have:j=6∨j=7∨j=8∨j=9:=by omega
  rcases this with rfl|rfl|rfl|rfl<;>rfl
 by_cases h20:j<20
 ·obtain⟨i,rfl⟩:∃i,j=10+i:=⟨j-10,by omega⟩
  rw[Y8 (by omega),Y8 (by omega),hg i (by omega),hu (20+i) (by omega)]
 by_cases h30:j<30
 ·obtain⟨i,rfl⟩:∃i,j=20+i:=⟨j-20,by omega⟩
  rw[Wf (by omega),Wf (by omega),hg i (by omega)]
 obtain⟨i,rfl⟩:∃i,j=30+i:=⟨j-30,by omega⟩
 rw[Wo,Wo];rfl
def ndρ (ν:Nat→Nat)(k:Nat):List (Nat×Nat):=[(Qf,ν (10+k)),(Qf+1,ν (20+k))]
structure QvM (f:FuncId) (bs avs:List AV) (Hin Hout:List (Nat×Qj)) (res res':AV) (m:Nat) (ρ:List (Nat×Nat)) (H:List (Nat×Qj)) (nx:Nat):Prop where
 gx:GX Tryz.prog f bs Hin res Hout m
 hab:bs.map (KU (ρ++Yr nx m))=avs
 hbig:bs.all QbK=true
 k1:∀p∈ρ,Qf≤p.1
 k2:nx+m≤Qf
 hin:∀o ob,Qb Hin o=some ob→Qb H (rn (ρ++Yr nx m) o)=some (YM (ρ++Yr nx m) ob)∧Qf≤o∧ob.cells.all Qcn=true
 inj:∀o o',(Qb Hin o).isSome=true→(Qb Hin o').isSome=true→rn (ρ++Yr nx m) o=rn (ρ++Yr nx m) o'→o=o'
 dom:∀o,(Qb Hout o).isSome=true→(Qb Hin o).isSome=true∨o<m
 hout:∀o ob,Qb Hout o=some ob→ob.cells.all (KH Hout)=true
 hrs:Qb0 Hout res=true
 hre:KU (ρ++Yr nx m) res=res'
def Qsg (Hin Hout:List (Nat×Qj))(m:Nat)(ρ:List (Nat×Nat))(H:List (Nat×Qj))(nx:Nat)(H':List (Nat×Qj)):Prop:=
 (∀o,(Qb Hin o).isSome=true∨o<m→Qb H' (rn (ρ++Yr nx m) o)=(Qb Hout o).map (YM (ρ++Yr nx m)))∧∀q,(∀o,(Qb Hin o).isSome=true∨o<m→rn (ρ++Yr nx m) o≠q)→Qb H' q=Qb H q
theorem Qtw (hN:E.N=N){i:Nat}{T:St→Prop}(hi0:ops[i]?=some o){f:FuncId}{bs avs:List AV}{Hin Hout:List (Nat×Qj)}{res res':AV}{m:Nat}{ρ:List (Nat×Nat)}(hc:QvM f bs avs Hin Hout res res' m ρ H nx)[hf:Xl Tryz.prog f](ho:WN ⟨t,H,nx⟩ o f avs)
  (fresh:∀o,o<m→Qb H (nx+o)=none) (kin:∀o,(Qb Hin o).isSome=true→rn (ρ++Yr nx m) o<nx∨Qf≤rn (ρ++Yr nx m) o) (hg:Qo ops ⟨t,H,nx⟩ o=some w) (hw:w=true) (hd:o.dst=some d) (hdN:Nat.blt d N=true)
  (h:∀H',Qsg Hin Hout m ρ H nx H'→T ⟨(d,res')::t,H',nx+m⟩):aNw Tryz.prog E ops i T ⟨t,H,nx⟩:=by
 subst hw
 have hk2:=hc.k2
 have hnew:∀o,o<m→rn (ρ++Yr nx m) o=nx+o:=fun o ho=>QiH hc.k1 ho (by omega)
 have injD:∀o o',((Qb Hin o).isSome=true∨o<m)→((Qb Hin o').isSome=true∨o'<m)→rn (ρ++Yr nx m) o=rn (ρ++Yr nx m) o'→o=o':=fun o o' g1 g2 e=>by
  rcases g1 with g1|g1<;>rcases g2 with g2|g2
  ·exact hc.inj o o' g1 g2 e
  ·have:=kin o g1;rw[e,hnew o' g2] at this;omega
  ·have:=kin o' g2;rw[←e,hnew o g1] at this;omega
  rw[hnew o g1,hnew o' g2] at e;omega
 obtain⟨H',q1,q2⟩:=Qe7 hnew fresh injD hc.dom;refine⟨o,⟨t,H',nx+m⟩,res',hi0,hg,dlt hN hd hdN,fun c a hr K Q hK=>?_,by rw[hd];exact h H' ⟨q1,q2⟩⟩;obtain⟨vs,hrun,hvl,hv⟩:=ho.run (P:=Tryz.prog) hr
 unfold Oper.wp
 rw[hrun,Oper.upon_enter]
 have hab:=hc.hab
 have hre:=hc.hre
 subst hab hre
 refine(hr.xcall hc.gx (ρ++Yr nx m) H' hk2 hc.hin hnew hc.inj hc.dom hc.hout q1 q2 hc.hrs (by simpa using hvl) hc.hbig (fun i v x hi hj=>hv i v _ hi (by rw[List.getElem?_map,hj];rfl))).mono ?_;rintro e w' ⟨v,c',rfl,rfl,hr',hvr⟩;exact hK c' v hr' hvr
def Qd2 (l:Qv)(cl:Cl)(k:Nat)(r:Nd×Option Pp)(ν:Nat→Nat)(H:List (Nat×Qj))(nx:Nat)(H':List (Nat×Qj)):Prop:=
 ∃z',(z'=nx∨z'=ν (20+k))∧Xn H' l (cl.setF k r) (Qcm ν (20+k) z')∧Qap (Qcm ν (20+k) z')∧∀q,(∀j,j<40→ν j≠q)→q<nx→Qb H' q=Qb H q
theorem Qr1 {f:FuncId}{l:Qv}{cl:Cl}(hok:cl.ok){k:Nat}{s:Nd}{c:Option Pp}(hkF:cl.F[k]?=some (s,c)){r:Nd×Option Pp}{ν:Nat→Nat}{az:List AV}{res:AV}(hcon:NX f az l s c res r)(hz:∀ρ,az.map (KU ρ)=az)(hzb:az.all QbK=true)
  (hr1:∀ρ,KU ρ res=res) (hr2:∀H,Qb0 H res=true) (hν:Qap ν) (hfr:∀j,j<40→ν j≠nx) (hcl:Xn H l cl ν) (k2:nx+1≤Qf) :
  ∃q,QvM f (.ptr Qf 0::az) (.ptr (ν (10+k)) 0::az) (ndO l s c (Qf+1)) (ndO l r.1 r.2 q) res res 1 (ndρ ν k) H nx∧∀H',Qsg (ndO l s c (Qf+1)) (ndO l r.1 r.2 q) 1 (ndρ ν k) H nx H'→Qd2 l cl k r ν H nx H':=by
 obtain⟨q,hq,hgx⟩:=hcon
 have h5:=hok.1
 have hlt:=(List.getElem?_eq_some_iff.1 hkF).1
 have hbb:∀p∈ndρ ν k,Qf≤p.1:=fun p hp=>by
  rcases List.mem_cons.1 hp with rfl|hp
  ·exact Nat.le_refl _
  obtain rfl:=List.mem_singleton.1 hp;exact Nat.le_succ _
 have hne:ν (10+k)≠ν (20+k):=fun e=>by have:=hν _ _ (by omega) (by omega) e;omega
 have a1:rn (ndρ ν k++Yr nx 1) Qf=ν (10+k):=rfl
 have a2:rn (ndρ ν k++Yr nx 1) (Qf+1)=ν (20+k):=rfl
 have a3:∀o,o<1→rn (ndρ ν k++Yr nx 1) o=nx+o:=fun o ho=>QiH hbb ho (by decide)
 have h1:Qb H (ν (10+k))=some (Qau l (ν (20+k)) (s,c)):=hcl (10+k) _ (by omega) (by rw[Y8 (by omega),hkF];rfl)
 have h2:∀p,c=some p→Qb H (ν (20+k))=some (.var 137 (Jy p)):=fun p hp=>hcl (20+k) _ (by omega) (by rw[Wf (by omega),hkF];simp[hp])
 have hin:∀o ob,Qb (ndO l s c (Qf+1)) o=some ob→o=Qf∧ob=Qau l (Qf+1) (s,c)∨o=Qf+1∧∃p,c=some p∧ob=.var 137 (Jy p):=fun o ob h=>by
  cases c with
  |none=>
   rw[Qn] at h
   split at h
   ·exact .inl ⟨by assumption,(Option.some.inj h).symm⟩
   cases h
  |some p=>
   rw[Qn] at h
   split at h
   ·exact .inl ⟨by assumption,(Option.some.inj h).symm⟩
   rw[Qn] at h
   split at h
   ·exact .inr ⟨by assumption,p,rfl,(Option.some.inj h).symm⟩
   cases h
 have hqB:q≠Qf:=by rcases hq with rfl|⟨rfl,-⟩<;>decide
 have hout:∀o ob,Qb (ndO l r.1 r.2 q) o=some ob→o=Qf∧ob=Qau l q r∨o=q∧∃p,r.2=some p∧ob=.var 137 (Jy p):=fun o ob h=>by
  obtain⟨r1,r2⟩:=r
  cases r2 with
  |none=>
   rw[Qn] at h
   split at h
   ·exact .inl ⟨by assumption,(Option.some.inj h).symm⟩
   cases h
  |some p=>
   rw[Qn] at h
   split at h
   ·exact .inl ⟨by assumption,(Option.some.inj h).symm⟩
   rw[Qn] at h
   split at h
   ·exact .inr ⟨by assumption,p,rfl,(Option.some.inj h).symm⟩
   cases h
 have hin0:(Qb (ndO l s c (Qf+1)) Qf).isSome=true:=by cases c<;>rfl
 have hqD:(Qb (ndO l s c (Qf+1)) q).isSome=true∨q<1:=by
  rcases hq with rfl|⟨rfl,hs⟩
  ·exact .inr (by decide)
  refine .inl ?_
  cases c with
  |none=>cases hs
  |some p=>rfl
 obtain⟨z,hz'⟩:∃z,z=rn (ndρ ν k++Yr nx 1) q:=⟨_,rfl⟩
 have hzz:z=nx∨z=ν (20+k):=by
  rcases hq with rfl|⟨rfl,-⟩
  ·exact .inl (by rw[hz',a3 0 (by decide)];rfl)
  exact .inr (by rw[hz',a2])
 have inj':Qap (Qcm ν (20+k) z):=fun i j hi hj e=>by
  unfold Qcm at e
  by_cases e1:i=20+k<;>by_cases e2:j=20+k
  ·omega
  ·rw[if_pos e1,if_neg e2] at e
   rcases hzz with h|h
   ·exact absurd (e.symm.trans h) (hfr j hj)
   exact absurd (hν _ _ hj (by omega) (e.symm.trans h)) e2
  ·rw[if_neg e1,if_pos e2] at e
   rcases hzz with h|h
   ·exact absurd (e.trans h) (hfr i hi)
   exact absurd (hν _ _ hi (by omega) (e.trans h)) e1
  rw[if_neg e1,if_neg e2] at e;exact hν i j hi hj e
 have ndm:∀(ρ:List (Nat×Nat)) (z:Nat) (x:Nd×Option Pp),YM ρ (Qau l z x)=Qau l (rn ρ z) x:=fun ρ z x=>by
  have:Kq ρ (Qli z x.2)=Qli (rn ρ z) x.2:=by cases x.2<;>rfl
  simp only[Qau,YM,XP,List.map_cons,List.map_nil,this]
  rfl
 refine⟨q,⟨hgx,?_,by rw[List.all_cons,hzb];rfl,hbb,k2,fun o ob h=>?_,fun o o' g1 g2 e=>?_,fun o h=>?_,fun o ob h=>?_,hr2 _,hr1 _⟩,fun H' ⟨q1,q2⟩=>?_⟩
 ·rw[List.map_cons,hz];rfl
 ·rcases hin o ob h with ⟨rfl,rfl⟩|⟨rfl,p,hp,rfl⟩
  ·refine⟨by rw[a1,ndm,a2];exact h1,Nat.le_refl _,?_⟩
   cases c<;>rfl
  exact⟨by rw[a2];exact h2 p hp,Nat.le_succ _,rfl⟩
 ·obtain⟨x,hx⟩:=Option.isSome_iff_exists.1 g1
  obtain⟨y,hy⟩:=Option.isSome_iff_exists.1 g2
  rcases hin o x hx with ⟨rfl,-⟩|⟨rfl,-⟩<;>rcases hin o' y hy with ⟨rfl,-⟩|⟨rfl,-⟩
  ·rfl
  ·rw[a1,a2] at e;exact absurd e hne
  ·rw[a1,a2] at e;exact absurd e.symm hne
  rfl
 ·obtain⟨x,hx⟩:=Option.isSome_iff_exists.1 h
  rcases hout o x hx with ⟨rfl,-⟩|⟨rfl,-⟩
  ·exact .inl hin0
  exact hqD
 ·rcases hout o ob h with ⟨rfl,rfl⟩|⟨rfl,p,hp,rfl⟩
  ·have:KH (ndO l r.1 r.2 q) (Qli q r.2)=true:=by
    obtain⟨r1,r2⟩:=r
    cases r2 with
    |none=>rfl
    |some p=>
     show(Qb [(Qf,_),(q,_)] q).isSome=true
     rw[Qn,if_neg hqB,Qn,if_pos rfl];rfl
   simp only[Qj.cells,XP,List.all_cons,List.all_nil,this,Bool.and_true]
   rfl
  rfl
 refine⟨z,hzz,fun j ob hj hob=>?_,inj',fun q' g1 g2=>q2 q' fun o ho e=>?_⟩
 ·by_cases j1:j=10+k
  ·subst j1
   have e0:Qcm ν (20+k) z (10+k)=ν (10+k):=if_neg (by omega)
   have e9:Qcm ν (20+k) z (20+k)=z:=if_pos rfl
   rw[Y8 (by omega),show(cl.setF k r).F[k]?=some r from List.getElem?_set_self hlt,e9] at hob;rw[e0,←hob]
   have:=q1 Qf (.inl hin0)
   rw[a1] at this;rw[this]
   have hl:Qb (ndO l r.1 r.2 q) Qf=some (Qau l q r):=by
    obtain⟨r1,r2⟩:=r
    cases r2<;>rfl
   rw[hl,hz']
   show some (YM _ (Qau l q r))=_
   rw[ndm];rfl
  by_cases j2:j=20+k
  ·subst j2
   have e9:Qcm ν (20+k) z (20+k)=z:=if_pos rfl
   rw[Wf (by omega),show(cl.setF k r).F[k]?=some r from List.getElem?_set_self hlt] at hob;obtain⟨p,hp,rfl⟩:=Option.map_eq_some_iff.1 hob;rw[e9,hz',q1 q hqD]
   have hl:Qb (ndO l r.1 r.2 q) q=some (.var 137 (Jy p)):=by
    obtain⟨r1,r2⟩:=r
    cases hp
    show Qb [(Qf,_),(q,_)] q=_
    rw[Qn,if_neg hqB,Qn,if_pos rfl]
   rw[hl];rfl
  rw[Ql2 hok j1 j2 (by omega)] at hob;rw[show Qcm ν (20+k) z j=ν j from if_neg j2,q2 (ν j) (fun o ho e=>?_)]
  ·exact hcl j ob hj hob
  rcases ho with ho|ho
  ·obtain⟨x,hx⟩:=Option.isSome_iff_exists.1 ho
   rcases hin o x hx with ⟨rfl,-⟩|⟨rfl,-⟩
   ·rw[a1] at e;exact j1 (hν _ _ hj (by omega) e.symm)
   rw[a2] at e;exact j2 (hν _ _ hj (by omega) e.symm)
  rw[a3 o ho] at e;exact hfr j hj (by omega)
 rcases ho with ho|ho
 ·obtain⟨x,hx⟩:=Option.isSome_iff_exists.1 ho
  rcases hin o x hx with ⟨rfl,-⟩|⟨rfl,-⟩
  ·rw[a1] at e;exact g1 _ (by omega) e
  rw[a2] at e;exact g1 _ (by omega) e
 rw[a3 o ho] at e;omega
theorem QaE (hN:E.N=N){i:Nat}{T:St→Prop}(hi0:ops[i]?=some o){f:FuncId}{l:Qv}{cl:Cl}(hok:cl.ok){k:Nat}{s:Nd}{c:Option Pp}(hkF:cl.F[k]?=some (s,c)){r:Nd×Option Pp}{ν:Nat→Nat}{az:List AV}{res:AV}(hcon:NX f az l s c res r)(hz:∀ρ,az.map (KU ρ)=az)(hzb:az.all QbK=true)
  (hr1:∀ρ,KU ρ res=res) (hr2:∀H,Qb0 H res=true) [hf:Xl Tryz.prog f] (ho:WN ⟨t,H,nx⟩ o f (.ptr (ν (10+k)) 0::az)) (hν:Qap ν) (hfr:∀j,j<40→ν j<nx∨Qf≤ν j) (hcl:Xn H l cl ν) (k2:nx+1≤Qf) (fresh:Qb H nx=none)
  (hg:Qo ops ⟨t,H,nx⟩ o=some w) (hw:w=true) (hd:o.dst=some d) (hdN:Nat.blt d N=true)
  (h:∀H',Qd2 l cl k r ν H nx H'→T ⟨(d,res)::t,H',nx+1⟩):aNw Tryz.prog E ops i T ⟨t,H,nx⟩:=by
 obtain⟨q,h1,h2⟩:=Qr1 (nx:=nx) hok hkF hcon hz hzb hr1 hr2 hν (fun j hj=>by rcases hfr j hj with h|h<;>omega) hcl k2
 have h5:=hok.1
 have hlt:=(List.getElem?_eq_some_iff.1 hkF).1
 refine Qtw hN hi0 h1 ho (fun o ho=>by obtain rfl:o=0:=(by omega);exact fresh) (fun o hs=>?_) hg hw hd hdN fun H' hp=>h H' (h2 H' hp)
 have hk0:Qb (ndO l s c (Qf+1)) o≠none:=by intro e;rw[e] at hs;cases hs
 have:o=Qf∨o=Qf+1:=by
  cases c with
  |none=>
   rw[Qn] at hk0
   split at hk0
   ·exact .inl (by assumption)
   exact absurd rfl hk0
  |some p=>
   rw[Qn] at hk0
   split at hk0
   ·exact .inl (by assumption)
   rw[Qn] at hk0
   split at hk0
   ·exact .inr (by assumption)
   exact absurd rfl hk0
 rcases this with rfl|rfl
 ·exact hfr _ (by omega)
 exact hfr _ (by omega)
end
theorem QpC {H:List (Nat×Qj)}{L:Nat}(hH:∀o,(Qb H o).isSome=true→(Nat.blt o L||Nat.ble Qf o)=true){x:AV}(h:KH H x=true):okId L x=true:=by
 cases x with
 |sl es tk=>cases tk with
  |none=>rfl
  |some o=>exact hH o h
 |own o n=>exact hH o h
 |ptr o off=>exact hH o h
 |eptr o n off=>exact hH o h
 |agg=>cases h
 |tup=>cases h
 |fn=>cases h
 |_=>rfl
theorem Qra {l:Qv}{c:Cl}{μ:Nat→Nat}{m:Nat}(hμ:Qap μ)(hc:c.ok)(hb:∀j,j<40→μ j<m∨Qf≤μ j){j:Nat}{ob:Qj}(ho:Kz l c μ j=some ob):JB m ob=true:=by
 have h1:=QhP (H:=KL l c μ) hc (fun i x hi hx=>by rw[Jc hμ hi,hx];rfl) ho
 have h2:∀o,(Qb (KL l c μ) o).isSome=true→(Nat.blt o m||Nat.ble Qf o)=true:=fun o h=>by
  obtain⟨x,hx⟩:=Option.isSome_iff_exists.1 h;obtain⟨i,hi,rfl⟩:=YK hx;rw[Bool.or_eq_true]
  rcases hb i hi with h|h
  ·exact .inl (Nat.ble_eq_true_of_le h)
  exact .inr (Nat.ble_eq_true_of_le h)
 cases ob with
 |var t cs=>exact List.all_eq_true.2 fun x hx=>QpC h2 (List.all_eq_true.1 h1 x hx)
 |tok=>rfl
 |arr t k es=>exact List.all_eq_true.2 fun x hx=>QpC h2 (List.all_eq_true.1 h1 x hx)
theorem Ya {ts:List Nat}{st:St}{r res:AV}{l:Qv}{c:Cl}{μ:Nat→Nat}{m:Nat}(h:(Xz st ts).ntt=r)(hr:r=res)(hok:okId m res=true)(hn:Nat.ble st.nx m=true)(hm:Nat.ble m Qf=true)(hμ:Qap μ)(hc:c.ok)(hb:∀j,j<40→μ j<m∨Qf≤μ j)(hcl:Xn st.H l c μ):
  (Xz st ts).ntt=res∧okId m res=true∧Nat.ble st.nx m=true∧Nat.ble m Qf=true∧∀o ob,Qb (KL l c μ) o=some ob→Qb st.H o=some ob∧(Nat.blt o m||Nat.ble Qf o)=true∧JB m ob=true:=by
 refine⟨by rw[h,hr],hok,hn,hm,fun o ob ho=>?_⟩;obtain⟨j,hj,rfl⟩:=YK ho;rw[Jc hμ hj] at ho;refine⟨hcl j ob hj ho,?_,Qra hμ hc hb ho⟩;rw[Bool.or_eq_true]
 rcases hb j hj with h|h
 ·exact .inl (Nat.ble_eq_true_of_le h)
 exact .inr (Nat.ble_eq_true_of_le h)
theorem QeT {m:Nat}:∀j,j<40→bg j<m∨Qf≤bg j:=fun _ _=>.inr (Nat.le_add_right _ _)
theorem Xn.chg {H0 H:List (Nat×Qj)}{l:Qv}{c c':Cl}{ν:Nat→Nat}(h0:Xn H0 l c ν)(ks:List Nat)(hk:∀j,j∈ks→∀ob,Kz l c' ν j=some ob→Qb H (ν j)=some ob)(ho:∀j,j<40→j∉ks→Kz l c' ν j=Kz l c ν j)(hH:∀j,j<40→j∉ks→Qb H (ν j)=Qb H0 (ν j)):Xn H l c' ν:=fun j ob hj hob=>by
 by_cases h:j∈ks
 ·exact hk j h ob hob
 rw[hH j hj h];exact h0 j ob hj (by rw[←ho j hj h];exact hob)
theorem QP {st:St}{q n:Nat}{te:TypeId}{k:Nat}{es:List (List AV)}(hq:Qb st.H q=some (.arr te k es))(h:es.length=n):st.cells1 (.own q n)=some [.own q n]:=by
 show(bif st.cell1 (.own q n) then some [AV.own q n] else none)=_
 have:st.cell1 (.own q n)=true:=by
  simp only[St.cell1,hq,h,Nat.beq_refl]
 rw[this];rfl
theorem QbL {ν:Nat→Nat}{n k:Nat}(h:k<n):(Qfc ν n)[k]?=some [AV.ptr (ν (10+k)) 0]:=by simp[Qfc,h]
theorem JR {ν:Nat→Nat}{n:Nat}:n=(Qfc ν n).length:=by simp[Qfc]
theorem QbA {ν:Nat→Nat}{n:Nat}:∀e∈Qfc ν n,e.length=1:=fun e he=>by
 obtain⟨i,-,rfl⟩:=List.mem_map.1 he;rfl
theorem Ql {ν:Nat→Nat}{ins:List (List Qz)}:ins.length=(QeJ ν ins).length:=by simp[QeJ]
theorem QV {ν:Nat→Nat}{ins:List (List Qz)}:∀e∈QeJ ν ins,e.length=1:=fun e he=>by
 obtain⟨i,hi,rfl⟩:=List.mem_mapIdx.1 he;rfl
theorem JG {ν:Nat→Nat}{ins:List (List Qz)}{k:Nat}{vs:List Qz}(h:ins[k]?=some vs):(QeJ ν ins)[k]?=some [AV.own (ν (30+k)) vs.length]:=by simp[QeJ,h]
theorem Quf (v:Qz):(Ym v).length=4:=by rw[KK];rfl
theorem Qal {vs:List Qz}{z:List AV}{v:Qz}:((vs.map Ym)++[z]).set vs.length (QO v)=(vs++[v]).map Ym:=by
 rw[List.map_append,List.set_append]
 simp[KK]
theorem Wc {vs:List Qz}{z:List AV}(hz:z.length=4):∀e∈(vs.map Ym)++[z],e.length=4:=fun e he=>by
 rcases List.mem_append.1 he with he|he
 ·obtain⟨v,-,rfl⟩:=List.mem_map.1 he;exact Quf v
 obtain rfl:=List.mem_singleton.1 he;exact hz
theorem QaR {l:Qv}{c:Cl}{x:List Qz}{ν:Nat→Nat}{j:Nat}(h:j∉[0,5]):Kz l { c with lrn:=x } ν j=Kz l c ν j:=by
 match j with
 |0=>simp at h
 |1=>rfl
 |2=>rfl
 |3=>rfl
 |4=>rfl
 |5=>simp at h
 |6=>rfl
 |7=>rfl
 |8=>rfl
 |9=>rfl
 |_+10=>rfl
theorem Qhs {l:Qv}{c:Cl}{x:List Kb}{ν:Nat→Nat}{j:Nat}(h:j∉[0,3]):Kz l { c with net:=x } ν j=Kz l c ν j:=by
 match j with
 |0=>simp at h
 |1=>rfl
 |2=>rfl
 |3=>simp at h
 |4=>rfl
 |5=>rfl
 |6=>rfl
 |7=>rfl
 |8=>rfl
 |9=>rfl
 |_+10=>rfl
theorem QwF {l:Qv}{c:Cl}{x:List Bool}{ν:Nat→Nat}{j:Nat}(hl:x.length=c.dn.length)(h:j∉[2]):Kz l { c with dn:=x } ν j=Kz l c ν j:=by
 match j with
 |0=>simp only[Kz,clC,hl]
 |1=>rfl
 |2=>simp at h
 |3=>rfl
 |4=>rfl
 |5=>rfl
 |6=>rfl
 |7=>rfl
 |8=>rfl
 |9=>rfl
 |_+10=>rfl
end Go.Proofs.YtnkkokmmeplbgaaGreat
