/-
  Contracts: what a node does, whatever its state: the new pro
-/
import Derived.Test.YtnkkokmmeplbgaaGreatK1
import Derived.Test.YtnkkokmmeplbgaaGreatN5
import Derived.Test.YtnkkokmmeplbgaaGreatA14
namespace Go.Proofs.YtnkkokmmeplbgaaGreat
open Go.RowKit
theorem QdN {P:Program}{f:FuncId}{args:List AV}{H:List (Nat×Qj)}{res:AV}(hc:GC P f args H res H):GX P f args H res H 0:=fun c vs hg hl hv=>(hc c vs hg hl hv).mono (by
 rintro e w' ⟨v,c',h1,h2,h3,h4⟩
 refine⟨v,c',h1,h2,⟨h3.os,h3.tape,h3.output,h3.drawn,h3.size,h3.frame,h3.le,fun o=>(h3.K o).trans ⟨.inl,fun h=>h.elim id (fun h=>absurd h (Nat.not_lt_zero _))⟩,h3.Snew,h3.Ssz,fun o ob ho=>⟨(h3.K o).2 (hg.live o ob ho).1,h3.live o ob ho⟩,h3.dead,h3.apart⟩,.fr _ _ h4⟩)
abbrev ndO (l:Qv)(s:Nd)(c:Option Pp)(q:Nat):List (Nat×Qj):=match c with
 |none=>[(Qf,.var 131 (XP l s Jw))]
 |some p=>[(Qf,.var 131 (XP l s (.ptr q 0))),(q,.var 137 (Jy p))]
def NX (f:FuncId)(az:List AV)(l:Qv)(s:Nd)(c:Option Pp)(res:AV)(r:Nd×Option Pp):Prop:=∃q,(q=0∨q=Qf+1∧c.isSome=true)∧GX Tryz.prog f (.ptr Qf 0::az) (ndO l s c (Qf+1)) res (ndO l r.1 r.2 q) 1
section
variable {f:FuncId}{az:List AV}{l:Qv}{s s':Nd}{c:Option Pp}{res:AV}{Hout:List (Nat×Qj)}{m:Nat}{p':Pp}
theorem Qb8 (hc:GX Tryz.prog f (.ptr Qf 0::az) (ndO l s c (Qf+1)) res Hout m)(h:Qb Hout Qf=some (.var 131 (XP l s' Jw)))(hm:m≤Qf)(hr:∀H,Qb0 H res=true)(hr2:∀ρ,KU ρ res=res):NX f az l s c res (s',none):=
 ⟨0,.inl rfl,GX.ren hc [(Qf,.var 131 (XP l s' Jw))] [] 1 rfl (fun o ob ho=>by rw[Qn] at ho;split at ho<;>simp_all [Qb]) (fun p hp=>by obtain rfl:=List.mem_singleton.1 hp;rfl)
  (fun p hp q hq _=>by rw[List.mem_singleton.1 hp,List.mem_singleton.1 hq]) (fun p hp=>by obtain rfl:=List.mem_singleton.1 hp;exact .inl ⟨Nat.le_refl _,rfl⟩) hm (by decide) (hr _) (hr2 _)⟩
theorem Qcd (hc:GX Tryz.prog f (.ptr Qf 0::az) (ndO l s c (Qf+1)) res Hout m)(h:Qb Hout Qf=some (.var 131 (XP l s' (.ptr (Qf+1) 0))))(h2:Qb Hout (Qf+1)=some (.var 137 (Jy p')))(hs:c.isSome=true)(hm:m≤Qf)(hr:∀H,Qb0 H res=true)(hr2:∀ρ,KU ρ res=res):NX f az l s c res (s',some p'):=
 ⟨Qf+1,.inr ⟨rfl,hs⟩,GX.ren hc [(Qf,.var 131 (XP l s' (.ptr (Qf+1) 0))),(Qf+1,.var 137 (Jy p'))] [] 1 rfl (fun o ob ho=>by
   rw[Qn] at ho
   split at ho
   ·simp_all
   ·rw[Qn] at ho
    split at ho<;>simp_all [Qb]) (fun p hp=>by
   rcases List.mem_cons.1 hp with rfl|hp
   ·rfl
   obtain rfl:=List.mem_singleton.1 hp;rfl)
  (fun p hp q hq e=>e) (fun p hp=>by
   rcases List.mem_cons.1 hp with rfl|hp
   ·exact .inl ⟨Nat.le_refl _,rfl⟩
   obtain rfl:=List.mem_singleton.1 hp;exact .inl ⟨Nat.le_succ _,rfl⟩) hm (by decide) (hr _) (hr2 _)⟩
theorem QnP (q:Nat)(hc:GX Tryz.prog f (.ptr Qf 0::az) (ndO l s c (Qf+1)) res Hout m)(h:Qb Hout Qf=some (.var 131 (XP l s' (.ptr q 0))))(h2:Qb Hout q=some (.var 137 (Jy p')))(hq:q<m)(hm:m≤Qf)(hr:∀H,Qb0 H res=true)(hr2:∀ρ,KU ρ res=res):NX f az l s c res (s',some p'):=
 have hqi:q≠Qf:=by omega
 have e1:rn [(q,0)] Qf=Qf:=by unfold rn;rw[Qn,if_neg (fun e=>hqi e.symm)];rfl
 have e2:rn [(q,0)] q=0:=by unfold rn;rw[Qn,if_pos rfl];rfl
 ⟨0,.inl rfl,GX.ren hc [(Qf,.var 131 (XP l s' (.ptr q 0))),(q,.var 137 (Jy p'))] [(q,0)] 1 (by
   show[(rn [(q,0)] Qf,YM [(q,0)] (.var 131 (XP l s' (.ptr q 0)))),(rn [(q,0)] q,YM [(q,0)] (.var 137 (Jy p')))]=_
   rw[e1,e2]
   show[(Qf,Qj.var 131 (XP l s' (.ptr (rn [(q,0)] q) 0))),(0,Qj.var 137 (Jy p'))]=_
   rw[e2]) (fun o ob ho=>by
   rw[Qn] at ho
   split at ho
   ·simp_all
   ·rw[Qn] at ho
    split at ho<;>simp_all [Qb]) (fun p hp=>by
   rcases List.mem_cons.1 hp with rfl|hp
   ·show((XP l s' (.ptr q 0)).all _)=true
    have:(Qb [(Qf,Qj.var 131 (XP l s' (.ptr q 0))),(q,.var 137 (Jy p'))] q).isSome=true:=by rw[Qn,if_neg hqi,Qn,if_pos rfl];rfl
    simp only[XP,List.all_cons,List.all_nil,KH,this]
    rfl
   obtain rfl:=List.mem_singleton.1 hp;rfl)
  (fun p hp q hq e=>by
   rcases List.mem_cons.1 hp with rfl|hp<;>rcases List.mem_cons.1 hq with rfl|hq
   ·rfl
   ·obtain rfl:=List.mem_singleton.1 hq
    rw[e1,e2] at e;exact absurd e (by decide)
   ·obtain rfl:=List.mem_singleton.1 hp
    rw[e1,e2] at e;exact absurd e (by decide)
   ·rw[List.mem_singleton.1 hp,List.mem_singleton.1 hq]) (fun p hp=>by
   rcases List.mem_cons.1 hp with rfl|hp
   ·exact .inl ⟨Nat.le_refl _,e1⟩
   obtain rfl:=List.mem_singleton.1 hp;exact .inr ⟨hq,by rw[e2];decide⟩) hm (by decide) (hr _) (hr2 _)⟩
end
theorem Qu3 (l:Qv){X:List Qz}(hX:Giv l X)(hl:X.length≤90){s:Nd}{c:Option Pp}{k:Nat}(hv:WO l X s c k)(hk:k≤1000)(hc:QJ l=0)(m:Kb)(hok:Wy l s m=0)(em:m.k≠2→El l 4000 m.v):(Jd l s c m).2=0∧NX 42 [.agg (Ja m)] l s c (.tup [Qba (Jd l s c m).1.2,i64 0]) (Jd l s c m).1.1:=by
 have hO:=Q9 hc
 have n1:=hv.n1
 have n2:=hv.n2
 have s0:=hv.s0
 have s1:=hv.s1
 have nu0:=hv.num0
 have nu1:=hv.num1
 have nm1:s.num≤1000000:=by omega
 have ea:=hv.acc.el hO hX hl
 have el:=hv.lrn.el hO hX hl
 have ew:=hv.wt.el hO hX hl
 rcases c with _|p
 ·by_cases m1:m.k=1
  ·have em:=em (by omega)
   have e:Jd l s none m=((({ s with acc:=Qs l s.acc m.v },none),[Qg9 l s m]),0):=by
    unfold Jd
    rw[if_neg (fun h=>h hok),if_pos m1]
   rw[e];exact⟨rfl,Qb8 (Qja l s m hc m1 hok (ea.up (by decide)) (em.up (by decide))) rfl (by decide) (fun _=>rfl) (fun _=>rfl)⟩
  by_cases m4:m.k=4
  ·have em:=em (by omega)
   have e:Jd l s none m=(((Jh l s m,none),[]),0):=by
    unfold Jd
    rw[if_neg (fun h=>h hok),if_neg m1];exact congrArg (fun z:Nd=>(((z,(none:Option Pp)),([]:List Kb)),(0:Int))) (if_pos m4)
   rw[e];exact⟨rfl,Qb8 (Qqr l s m hc m4 hok (el.up (by decide)) (em.up (by decide))) rfl (by decide) (fun _=>rfl) (fun _=>rfl)⟩
  have hr:=Qay hok
  have k23:m.k=2∨m.k=3:=by omega
  have e:Jd l s none m=(((s,none),[]),0):=by
   unfold Jd
   rw[if_neg (fun h=>h hok),if_neg m1];exact congrArg (fun z:Nd=>(((z,(none:Option Pp)),([]:List Kb)),(0:Int))) (if_neg m4)
  rw[e];exact⟨rfl,Qb8 (QdN (Qp3 l s [] (JK.of rfl) m k23 hok)) rfl (by decide) (fun _=>rfl) (fun _=>rfl)⟩
 obtain⟨pv,pg,pa,p2,r0,r1⟩:=hv.p p rfl
 have ep:=pv.el hO hX hl
 have eg:=pg.el hO hX hl
 by_cases m1:m.k=1
 ·have em:=em (by omega)
  have e:Jd l s (some p) m=((({ s with acc:=Qs l s.acc m.v },some p),[Qg9 l s m]),0):=by
   unfold Jd
   rw[if_neg (fun h=>h hok),if_pos m1]
  rw[e];exact⟨rfl,Qcd (QqB l s p m hc m1 hok (ea.up (by decide)) (em.up (by decide))) rfl rfl rfl (by decide) (fun _=>rfl) (fun _=>rfl)⟩
 by_cases m4:m.k=4
 ·have em:=em (by omega)
  cases hle2:QE l p.v (Jh l s m).lrn
  ·have e:Jd l s (some p) m=((((Jh l s m),some p),[]),0):=by
    unfold Jd
    rw[if_neg (fun h=>h hok),if_neg m1]
    show((if m.k=4 then(Qa6 l (Jh l s m) p,(0:Int)) else _):Nst×Int)=_
    rw[if_pos m4]
    unfold Qa6
    rw[if_neg (by rw[hle2];decide)]
   rw[e];exact⟨rfl,Qcd (QqR l s p m hc m4 hok (el.up (by decide)) (em.up (by decide)) ep.1 hle2) rfl rfl rfl (by decide) (fun _=>rfl) (fun _=>rfl)⟩
  cases hw:eqV (Jh l s m).wt (Qy l)
  ·have e:Jd l s (some p) m=((((Jv l (Jh l s m)),some (Ju l (Jh l s m))),J4 (Jv l (Jh l s m)) (Ju l (Jh l s m)) Jn),0):=by
    unfold Jd
    rw[if_neg (fun h=>h hok),if_neg m1]
    show((if m.k=4 then(Qa6 l (Jh l s m) p,(0:Int)) else _):Nst×Int)=_
    rw[if_pos m4]
    unfold Qa6
    rw[if_pos hle2,Qmo hw,Qib (s:=(Jh l s m)) p2 s0 (show s.self<12 by omega)]
   rw[e];exact⟨rfl,QnP 1 (QqN l s p m hc m4 hok (el.up (by decide)) (em.up (by decide)) ep.1 hle2 hw p2 n2 s0 (show s.self<12 by omega) nu0 nm1 (ea.up (by decide)) (ew.up (by decide))) rfl rfl (by decide) (by decide) (fun _=>rfl) (fun _=>rfl)⟩
  have e:Jd l s (some p) m=((((Jh l s m),none),[]),0):=by
   unfold Jd
   rw[if_neg (fun h=>h hok),if_neg m1]
   show((if m.k=4 then(Qa6 l (Jh l s m) p,(0:Int)) else _):Nst×Int)=_
   rw[if_pos m4]
   unfold Qa6
   rw[if_pos hle2,Qma hw]
  rw[e];exact⟨rfl,Qb8 (Qqj l s p m hc m4 hok (el.up (by decide)) (em.up (by decide)) ep.1 hle2 hw) rfl (by decide) (fun _=>rfl) (fun _=>rfl)⟩
 have hr:=Qay hok
 by_cases mn:m.n=s.num
 ·by_cases m2:m.k=2
  ·cases hq:Qav s ({ p with ack:=upN p.ack m.f.toNat true }:Pp)
   ·have e:Jd l s (some p) m=(((s,some ({ p with ack:=upN p.ack m.f.toNat true }:Pp)),[]),0):=by
     unfold Jd
     rw[if_neg (fun h=>h hok),if_neg m1]
     show((if m.k=4 then(Qa6 l (Jh l s m) p,(0:Int)) else(if ¬m.n=s.num then(((s,some p),[]),(0:Int)) else if m.k=2 then(Qb2 l s ({ p with ack:=upN p.ack m.f.toNat true }:Pp),(0:Int)) else(((s,some { p with g:=Qs l p.g m.v }),[]),(0:Int)))):Nst×Int)=_
     rw[if_neg m4];rw[if_neg (fun h=>h mn),if_pos m2]
     unfold Qb2
     rw[if_neg (by rw[hq];decide)]
    rw[e];exact⟨rfl,Qcd (QsT l s p m m2 hok n1 n2 mn hq) rfl rfl rfl (by decide) (fun _=>rfl) (fun _=>rfl)⟩
   cases hw:eqV s.wt (Qy l)
   ·have e:Jd l s (some p) m=((((Jv l (Xv l s p)),some (Ju l (Xv l s p))),Qa2 (Xv l s p)++J4 (Jv l (Xv l s p)) (Ju l (Xv l s p)) Jn),0):=by
     unfold Jd
     rw[if_neg (fun h=>h hok),if_neg m1]
     show((if m.k=4 then(Qa6 l (Jh l s m) p,(0:Int)) else(if ¬m.n=s.num then(((s,some p),[]),(0:Int)) else if m.k=2 then(Qb2 l s ({ p with ack:=upN p.ack m.f.toNat true }:Pp),(0:Int)) else(((s,some { p with g:=Qs l p.g m.v }),[]),(0:Int)))):Nst×Int)=_
     rw[if_neg m4];rw[if_neg (fun h=>h mn),if_pos m2]
     unfold Qb2
     rw[if_pos hq,Qmo (s:=Xv l s ({ p with ack:=upN p.ack m.f.toNat true }:Pp)) hw,Qib (s:=Xv l s ({ p with ack:=upN p.ack m.f.toNat true }:Pp)) p2 s0 (show s.self<12 by omega)]
     rfl
    rw[e];exact⟨rfl,QnP 3 (Qtb l s p m hc m2 hok p2 n2 s0 (show s.self<12 by omega) nu0 nm1 (ea.up (by decide)) (ew.up (by decide)) mn (el.up (by decide)) (ep.up (by decide)) hq hw) rfl rfl (by decide) (by decide) (fun _=>rfl) (fun _=>rfl)⟩
   have e:Jd l s (some p) m=((((Xv l s p),none),Qa2 (Xv l s p)),0):=by
    unfold Jd
    rw[if_neg (fun h=>h hok),if_neg m1]
    show((if m.k=4 then(Qa6 l (Jh l s m) p,(0:Int)) else(if ¬m.n=s.num then(((s,some p),[]),(0:Int)) else if m.k=2 then(Qb2 l s ({ p with ack:=upN p.ack m.f.toNat true }:Pp),(0:Int)) else(((s,some { p with g:=Qs l p.g m.v }),[]),(0:Int)))):Nst×Int)=_
    rw[if_neg m4];rw[if_neg (fun h=>h mn),if_pos m2]
    unfold Qb2
    rw[if_pos hq,Qma (s:=Xv l s ({ p with ack:=upN p.ack m.f.toNat true }:Pp)) hw];exact congrArg (fun z:List Kb=>(((Xv l s p,(none:Option Pp)),z),(0:Int))) (List.append_nil _)
   rw[e];exact⟨rfl,Qb8 (Qmm l s p m hc m2 hok n1 n2 mn (el.up (by decide)) (ep.up (by decide)) hq hw) rfl (by decide) (fun _=>rfl) (fun _=>rfl)⟩
  have m3:m.k=3:=by omega
  have em:=em (by omega)
  have e:Jd l s (some p) m=(((s,some { p with g:=Qs l p.g m.v }),[]),0):=by
   unfold Jd
   rw[if_neg (fun h=>h hok),if_neg m1]
   show((if m.k=4 then(Qa6 l (Jh l s m) p,(0:Int)) else(if ¬m.n=s.num then(((s,some p),[]),(0:Int)) else if m.k=2 then(Qb2 l s ({ p with ack:=upN p.ack m.f.toNat true }:Pp),(0:Int)) else(((s,some { p with g:=Qs l p.g m.v }),[]),(0:Int)))):Nst×Int)=_
   rw[if_neg m4];rw[if_neg (fun h=>h mn),if_neg m2]
  rw[e];exact⟨rfl,Qcd (Qsy l s p m hc m3 hok mn (eg.up (by decide)) (em.up (by decide))) rfl rfl rfl (by decide) (fun _=>rfl) (fun _=>rfl)⟩
 have k23:m.k=2∨m.k=3:=by omega
 have e:Jd l s (some p) m=(((s,some p),[]),0):=by
  unfold Jd
  rw[if_neg (fun h=>h hok),if_neg m1]
  show((if m.k=4 then(Qa6 l (Jh l s m) p,(0:Int)) else(if ¬m.n=s.num then(((s,some p),[]),(0:Int)) else if m.k=2 then(Qb2 l s ({ p with ack:=upN p.ack m.f.toNat true }:Pp),(0:Int)) else(((s,some { p with g:=Qs l p.g m.v }),[]),(0:Int)))):Nst×Int)=_
  rw[if_neg m4];rw[if_pos mn]
 rw[e];exact⟨rfl,Qcd (QdN (Qqx l s p m k23 hok mn)) rfl rfl rfl (by decide) (fun _=>rfl) (fun _=>rfl)⟩
theorem Qrx (l:Qv){X:List Qz}(hX:Giv l X)(hl:X.length≤90){s:Nd}{c:Option Pp}{k:Nat}(hv:WO l X s c k)(hk:k≤1000)(hc:QJ l=0)(v:Qz)(hv0:Xr l v=true)(ev:El l 40 v):(QB l s c v).2=0∧NX 40 [.agg (QO v)] l s c (.tup [Qba (QB l s c v).1.2,i64 0]) (QB l s c v).1.1:=by
 have hO:=Q9 hc
 have n1:=hv.n1
 have n2:=hv.n2
 have s0:=hv.s0
 have s1:=hv.s1
 have nu0:=hv.num0
 have nu1:=hv.num1
 have nm1:s.num≤1000000:=by omega
 have ea:=hv.acc.el hO hX hl
 have el:=hv.lrn.el hO hX hl
 have ew:=hv.wt.el hO hX hl
 rcases c with _|p
 ·by_cases h2:2≤s.n
  ·have e:QB l s none v=((((Jv l ({ s with wt:=Qs l s.wt v }:Nd)),some (Ju l ({ s with wt:=Qs l s.wt v }:Nd))),J4 (Jv l ({ s with wt:=Qs l s.wt v }:Nd)) (Ju l ({ s with wt:=Qs l s.wt v }:Nd)) Jn),0):=by
    unfold QB
    rw[if_neg (by rw[hv0];decide)];exact congrArg (fun z=>(z,(0:Int))) (Qib (s:=({ s with wt:=Qs l s.wt v }:Nd)) h2 s0 (show s.self<12 by omega))
   rw[e];exact⟨rfl,QnP 1 (Qjt l s v hc h2 n2 s0 (show s.self<12 by omega) nu0 nm1 (ea.up (by decide)) (ew.up (by decide)) hv0 (ev.up (by decide))) rfl rfl (by decide) (by decide) (fun _=>rfl) (fun _=>rfl)⟩
  have hq:Qav (Jv l ({ s with wt:=Qs l s.wt v }:Nd)) (Ju l ({ s with wt:=Qs l s.wt v }:Nd))=true:=Qvh (s:=({ s with wt:=Qs l s.wt v }:Nd)) (show s.n=1 by omega) s0 (show s.self<12 by omega)
  have e:QB l s none v=((((Xv l (Jv l ({ s with wt:=Qs l s.wt v }:Nd)) (Ju l ({ s with wt:=Qs l s.wt v }:Nd))),none),J4 (Jv l ({ s with wt:=Qs l s.wt v }:Nd)) (Ju l ({ s with wt:=Qs l s.wt v }:Nd)) Jn++Qa2 (Xv l (Jv l ({ s with wt:=Qs l s.wt v }:Nd)) (Ju l ({ s with wt:=Qs l s.wt v }:Nd)))),0):=by
   unfold QB
   rw[if_neg (by rw[hv0];decide)];exact congrArg (fun z=>(z,(0:Int))) (Qtf hq)
  rw[e];exact⟨rfl,Qb8 (Qqc l s v hc n1 n2 s0 (show s.self<12 by omega) nu0 nm1 (ea.up (by decide)) (ew.up (by decide)) (el.up (by decide)) hv0 (ev.up (by decide)) hq) rfl (by decide) (fun _=>rfl) (fun _=>rfl)⟩
 have e:QB l s (some p) v=(((({ s with wt:=Qs l s.wt v }:Nd),some p),[]),0):=by
  unfold QB
  rw[if_neg (by rw[hv0];decide)]
 rw[e];exact⟨rfl,Qcd (Qp0 l s p v hc (ew.up (by decide)) hv0 (ev.up (by decide))) rfl rfl rfl (by decide) (fun _=>rfl) (fun _=>rfl)⟩
theorem QvE (l:Qv){X:List Qz}(hX:Giv l X)(hl:X.length≤90){s:Nd}{c:Option Pp}{k:Nat}(hv:WO l X s c k)(hk:k≤1000)(hc:QJ l=0):NX 44 [] l s c (Qba (Yo l s c).2) (Yo l s c).1:=by
 have hO:=Q9 hc
 have n1:=hv.n1
 have n2:=hv.n2
 have s0:=hv.s0
 have s1:=hv.s1
 have nu0:=hv.num0
 have nu1:=hv.num1
 have nm1:s.num≤1000000:=by omega
 have ea:=hv.acc.el hO hX hl
 have el:=hv.lrn.el hO hX hl
 have ew:=hv.wt.el hO hX hl
 rcases c with _|p
 ·cases hw:eqV s.lrn (Qy l)
  ·have e:Yo l s none=((s,none),Qa2 s):=by
    exact congrArg (fun z:List Kb=>((s,(none:Option Pp)),z)) (if_neg (by rw[hw];decide))
   rw[e];exact Qb8 (QdN (QrH l s hc n1 n2 (el.up (by decide)) hw)) rfl (by decide) (fun _=>rfl) (fun _=>rfl)
  have e:Yo l s none=((s,none),[]):=by
   exact congrArg (fun z:List Kb=>((s,(none:Option Pp)),z)) (if_pos hw)
  rw[e];exact Qb8 (QdN (Qsw l s [] (JK.of rfl) hc hw)) rfl (by decide) (fun _=>rfl) (fun _=>rfl)
 obtain⟨pv,pg,pa,p2,r0,r1⟩:=hv.p p rfl
 have ep:=pv.el hO hX hl
 have eg:=pg.el hO hX hl
 cases hle:QE l p.g p.v
 ·have e:Yo l s (some p)=((QbO s (Qaa l s p),some (QdJ l s (Qaa l s p))),J4 (QbO s (Qaa l s p)) (QdJ l s (Qaa l s p)) Jn):=by
   unfold Yo
   dsimp only;rw[if_neg (by rw[hle];decide)]
  rw[e];exact Qcd (QrC l s p hc n1 n2 s0 (show s.self<12 by omega) nu0 nm1 r0 (by omega) (ep.up (by decide)) (eg.up (by decide)) (ea.up (by decide)) hle) rfl rfl rfl (by decide) (fun _=>rfl) (fun _=>rfl)
 have e:Yo l s (some p)=((s,some p),J4 s p (fun i => !p.ack i)):=by
  unfold Yo
  dsimp only;rw[if_pos hle]
 rw[e];exact Qcd (QdN (QlR l s p hc n1 n2 (ep.up (by decide)) eg.1 hle)) rfl rfl rfl (by decide) (fun _=>rfl) (fun _=>rfl)
theorem Qvz (l:Qv)(hc:QJ l=0)(s:Nd)(c:Option Pp)(h:El l 100000 s.lrn):GC Tryz.prog 50 [.ptr Qf 0] (ndO l s c (Qf+1)) (.agg (QO s.lrn)) (ndO l s c (Qf+1)):=by
 rcases c with _|p
 ·exact QdO l s Jw [] (JK.of rfl) hc h
 exact QdO l s (.ptr (Qf+1) 0) [((Qf+1),.var 137 (Jy p))] (JK.of rfl) hc h
end Go.Proofs.YtnkkokmmeplbgaaGreat
