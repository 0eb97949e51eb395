/-
  Plain: a node of generalized lattice agreement.
-/
import Derived.Test.YtnkkokmmeplbgaaGreatS1
import Derived.Test.YtnkkokmmeplbgaaGreatB23
import Derived.Test.YtnkkokmmeplbgaaGreatA12
import Derived.Test.YtnkkokmmeplbgaaGreatB14
import Derived.Test.YtnkkokmmeplbgaaGreatA3
import Derived.Test.YtnkkokmmeplbgaaGreatA11
namespace Go.Proofs.YtnkkokmmeplbgaaGreat
set_option maxRecDepth 100000
set_option maxHeartbeats 1000000
open Go.RowKit
def El (l:Qv)(N:Nat)(v:Qz):Prop:=QA v l=true∧SmV N v
theorem El.up {l:Qv}{N M:Nat}{v:Qz}(h:El l N v)(hm:N≤M):El l M v:=⟨h.1,h.2.up hm⟩
theorem El.bot {l:Qv}(hO:Yv l):El l 64 (Qy l):=⟨Qak l hO,Qrr l hO⟩
theorem El.join {l:Qv}(hO:Yv l){N M:Nat}(h64:64≤N+M){a b:Qz}(ha:El l N a)(hb:El l M b):El l (N+M) (Qs l a b):=⟨(Ys l hO a b ha.1 hb.1).el,Qo9 h64 l hO a b ha.1 hb.1 ha.2 hb.2⟩
theorem Qhw {l:Qv}(hO:Yv l){N:Nat}:∀(vs:List Qz) (s:Qz) (M:Nat),64≤M→El l M s→(∀v∈vs,El l N v)→El l (M+N*vs.length) (vs.foldl (Qs l) s)
 |[],s,M,_,hs,_=>hs
 |x::vs,s,M,hM,hs,h=>by
  have h1:=hs.join hO (M:=N) (by omega) (h x (List.mem_cons_self ..))
  have h2:=Qhw hO vs (Qs l s x) (M+N) (by omega) h1 (fun v hv=>h v (List.mem_cons_of_mem _ hv))
  refine h2.up ?_;rw[List.length_cons,Nat.mul_add]
  omega
theorem Qrn {l:Qv}(hO:Yv l){vs:List Qz}(h:∀v∈vs,El l 100000 v)(hl:vs.length≤4):Qrv l vs:=by
 refine⟨JoL.of l hO,fun v hv=>(h v hv).2.up (by omega),fun k hk=>?_⟩
 have h1:=Qhw hO (vs.take k) (Qy l) 64 (Nat.le_refl _) (El.bot hO) (fun v hv=>h v (List.mem_of_mem_take hv))
 have h2:(vs.take k).length≤4:=by rw[List.length_take];omega
 exact h1.up (by omega)
theorem Qmd {l:Qv}(hO:Yv l){a:Qz}(ha:QA a l=true):YZ l [a]=a:=by
 show Qs l (Qy l) a=a
 exact Qf7 hO ha
theorem Qoi {l:Qv}(hO:Yv l){a b c:Qz}(ha:QA a l=true):YZ l [a,b,c]=Qs l (Qs l a b) c:=by
 show Qs l (Qs l (Qs l (Qy l) a) b) c=_
 rw[Qf7 hO ha]
structure Nd where
 n:Int
 self:Int
 acc:Qz
 lrn:Qz
 wt:Qz
 num:Int
structure Pp where
 v:Qz
 g:Qz
 ack:Nat→Bool
 ref:Int
def QdU (n:Int):Int:=n-(n-1) / 2
def QnU (ack:Nat→Bool):Nat:=(List.range 12).countP ack
def Ww (self:Int)(m:Kb)(to:Nat→Bool)(i:Nat):List Kb:=((List.range i).filter fun i:Nat => !((i:Int)==self)&&to i).map fun i:Nat=>(⟨m.k,self,(i:Int),m.n,m.v⟩:Kb)
theorem Qaz {self:Int}{m:Kb}{to:Nat→Bool}{i:Nat}(h1:¬(i:Int)=self)(h2:to i=true):Ww self m to (i+1)=Ww self m to i++[⟨m.k,self,(i:Int),m.n,m.v⟩]:=by
 unfold Ww
 rw[List.range_succ,List.filter_append,List.map_append]
 simp[h1,h2]
theorem YE {self:Int}{m:Kb}{to:Nat→Bool}{i:Nat}(h:(i:Int)=self∨to i=false):Ww self m to (i+1)=Ww self m to i:=by
 unfold Ww
 rw[List.range_succ,List.filter_append,List.map_append]
 rcases h with h|h<;>simp[h]
theorem Qfl (self:Int)(m:Kb)(to:Nat→Bool)(i:Nat):(Ww self m to i).length≤i:=by
 unfold Ww
 rw[List.length_map]
 have:=List.length_filter_le (fun i:Nat => !((i:Int)==self)&&to i) (List.range i)
 rwa [List.length_range] at this
def upN (r:Nat→Bool)(j:Nat)(b:Bool):Nat→Bool:=fun i=>if i=j then b else r i
def Jn:Nat→Bool:=fun _=>true
def J4 (s:Nd)(p:Pp)(to:Nat→Bool):List Kb:=Ww s.self ⟨1,0,0,s.num,p.v⟩ to s.n.toNat
def Qa2 (s:Nd):List Kb:=Ww s.self ⟨4,0,0,0,s.lrn⟩ Jn s.n.toNat
theorem Qbs (s:Nd)(p:Pp)(to:Nat→Bool):(J4 s p to).length≤s.n.toNat:=Qfl ..
theorem Qcy (s:Nd):(Qa2 s).length≤s.n.toNat:=Qfl ..
def QbO (s:Nd)(p:Pp):Nd:={ s with acc:=p.v,num:=s.num+1 }
def QdJ (l:Qv)(s:Nd)(p:Pp):Pp:={ p with g:=Qy l,ack:=upN (fun _=>false) s.self.toNat true }
def QiP (l:Qv)(s:Nd):Pp:=⟨Qs l s.acc s.wt,Qz.zero,fun _=>false,0⟩
def Jv (l:Qv)(s:Nd):Nd:=QbO { s with wt:=Qy l } (QiP l s)
def Ju (l:Qv)(s:Nd):Pp:=QdJ l s (QiP l s)
def Xv (l:Qv)(s:Nd)(p:Pp):Nd:={ s with lrn:=if QE l s.lrn p.v then p.v else s.lrn }
def Qav (s:Nd)(p:Pp):Bool:=decide (QdU s.n≤(QnU p.ack:Int))
def Qd5 (l:Qv)(s:Nd):(Nd×Option Pp)×List Kb:=
 if Qav (Jv l s) (Ju l s) then((Xv l (Jv l s) (Ju l s),none),J4 (Jv l s) (Ju l s) Jn++Qa2 (Xv l (Jv l s) (Ju l s)))
 else((Jv l s,some (Ju l s)),J4 (Jv l s) (Ju l s) Jn)
def Qf1 (l:Qv)(s:Nd):(Nd×Option Pp)×List Kb:=if eqV s.wt (Qy l) then((s,none),[]) else Qd5 l s
theorem Qoz {j:Nat}(h:j<12):j=0∨j=1∨j=2∨j=3∨j=4∨j=5∨j=6∨j=7∨j=8∨j=9∨j=10∨j=11:=by omega
theorem Qt5 {α:Type}{g:α→List AV}(hg:∀i,fzs (g i)=some (g i))(l:List α):∀e∈l.map g,fzs e=some e:=fun e he=>by
 obtain⟨i,-,rfl⟩:=List.mem_map.1 he;exact hg i
theorem Qr7 {α:Type}{k:Nat}{g:α→List AV}(hg:∀i,okE k (g i)=true)(l:List α):(l.map g).all (okE k)=true:=by
 rw[List.all_map,List.all_eq_true]
 exact fun i _=>hg i
abbrev XP (l:Qv)(s:Nd)(x:AV):List AV:=[i64 l.k,i64 l.lo,i64 l.hi,Jz l.nm,QiL l.ps,rus l.rs,i64 s.n,i64 s.self,i64 s.acc.N,Jz s.acc.nm,Ki s.acc.ps,ens s.acc.es,i64 s.lrn.N,Jz s.lrn.nm,Ki s.lrn.ps,ens s.lrn.es,i64 s.wt.N,Jz s.wt.nm,Ki s.wt.ps,ens s.wt.es,i64 s.num,x]
abbrev Jy (p:Pp):List AV:=[i64 p.v.N,Jz p.v.nm,Ki p.v.ps,ens p.v.es,i64 p.g.N,Jz p.g.nm,Ki p.g.ps,ens p.g.es,bl (p.ack 0),bl (p.ack 1),bl (p.ack 2),bl (p.ack 3),bl (p.ack 4),bl (p.ack 5),bl (p.ack 6),bl (p.ack 7),bl (p.ack 8),bl (p.ack 9),bl (p.ack 10),bl (p.ack 11),i64 p.ref]
abbrev Jw:AV:=.p (.pointer none)
theorem Quq {p:Pp}{j:Nat}(h:j<12):(Jy p).drop (8+j*1)=bl (p.ack j)::(Jy p).drop (9+j*1):=by
 rcases Qoz h with rfl|rfl|rfl|rfl|rfl|rfl|rfl|rfl|rfl|rfl|rfl|rfl<;>rfl
theorem QkM {p:Pp}{j:Nat}(h:j<12):Yq (Jy p) (8+j*1) [bl true]=Jy { p with ack:=upN p.ack j true }:=by
 rcases Qoz h with rfl|rfl|rfl|rfl|rfl|rfl|rfl|rfl|rfl|rfl|rfl|rfl<;>rfl
theorem QxD {T:TypeId}{p:Pp}{j:Nat}(h:j<12){st:St}{q:Nat}(hq:Qb st.H q=some (.var T (Jy p))):st.at_ (.ptr q (8+j*1))=some (bl (p.ack j)::(Jy p).drop (9+j*1)):=by
 simp only[St.at_,hq]
 rw[←Quq h]
theorem Qo4 {p:Pp}{j:Nat}(h:j<12){y:AV}:8+j*1+[y].length≤(Jy p).length:=by show 8+j*1+1≤21;omega
theorem Kk (a:Qz):QT 4 1 [i64 a.N,Jz a.nm,Ki a.ps,ens a.es]=[a].map Ym:=by
 show[QO a]=_
 simp[KK]
theorem QvC (a b c:Qz):QT 4 3 [i64 a.N,Jz a.nm,Ki a.ps,ens a.es,i64 b.N,Jz b.nm,Ki b.ps,ens b.es,i64 c.N,Jz c.nm,Ki c.ps,ens c.es]=[a,b,c].map Ym:=by
 show[QO a,QO b,QO c]=_
 simp[KK]
theorem Qvx (l:Qv)(hc:QJ l=0):FC Tryz.prog 107 [.agg (Q7 l)] (.tup [.agg (QO (Qy l)),i64 0]):=by
 have h:=Qj1 l
 rw[Qcf,if_pos hc] at h;exact h
theorem Qvb (l:Qv)(hc:QJ l=0){vs:List Qz}(hv:∀v∈vs,El l 100000 v)(hl:vs.length≤4):FC Tryz.prog 127 [.agg (Q7 l),Ki vs] (.tup [.agg (QO (YZ l vs)),i64 0]):=by
 have h:=Qoe l vs (fun _=>Qrn (Q9 hc) hv hl)
 rwa [Ql4 (Qgj hc (List.all_eq_true.2 fun v hv'=>(hv v hv').1)) rfl] at h
theorem Wl (l:Qv){a b:Qz}(hc:QJ l=0)(ha:QA a l=true)(hb:QA b l=true):FC Tryz.prog 84 [.agg (Q7 l),.agg (QO a),.agg (QO b)] (bl (QE l a b)):=by
 have h:=Quj l a b
 rwa [Qc6 hc ha hb] at h
theorem Qc2 {L:Nat}{te:TypeId}(l:List Kb):JB L (.arr te 8 (l.map fun b=>Ja b))=true:=XM (fun _=>rfl) l
theorem Js (l:List Kb):∀e∈l.map (fun b=>Ja b),fzs e=some e:=Qt5 (fun _=>rfl) l
theorem QS (l:List Kb):(l.map fun b=>Ja b).all (okE 8)=true:=Qr7 (fun _=>rfl) l
theorem QeB (l:Qv)(v:Qz)(hc:QJ l=0):FC Tryz.prog 93 [.agg (Q7 l),.agg (QO v)] (bl (eqV v (Qy l))):=by
 refine Qg [4] Tryz.func93 rfl rfl 14 Tryz.ntmps93 (Nat.le_of_ble_eq_true rfl) ?_
 intro E hN;refine Xy ?_;refine zD 9 ?_;refine zl ?_;refine zp (Qd (by have h:=QcB l;rw[hc] at h;exact h) rfl rfl rfl) ?_;refine QK ?_;refine zp (Qd (Qey l (Q9 hc)) rfl rfl rfl) ?_;refine zp (Qd (Qgo _ _) rfl rfl rfl) ?_;refine QR ?_;refine zQ ?_
 rfl
theorem QaJ (l:Qv)(s:Nd)(x:AV)(R:List (Nat×Qj))(hH:JK ((Qf,.var 131 (XP l s x))::R))(hc:QJ l=0):GC Tryz.prog 78 [.ptr Qf 0] ((Qf,.var 131 (XP l s x))::R) (.agg (QO (Qy l))) ((Qf,.var 131 (XP l s x))::R):=by
 refine WP [.c 2 30 4 true] ⟨⟨inferInstance,rfl⟩,trivial⟩ Tryz.func78 rfl rfl 14 Tryz.ntmps78 (Nat.le_of_ble_eq_true rfl) ?_
 intro E hN;refine XR ?_;refine zP (Qd (Qvx l hc) rfl rfl rfl) ?_;refine JF ?_;refine Qu ?_;change (resY _ _).bind AV.fzt=some _∧_;refine Qfm hH hH.pp rfl ?_
 rfl
theorem Qii (l:Qv)(s:Nd)(x:AV)(R:List (Nat×Qj))(hH:JK ((Qf,.var 131 (XP l s x))::R))(hc:QJ l=0){vs:List Qz}(hv:∀v∈vs,El l 100000 v)(hl:vs.length≤4):GC Tryz.prog 79 [.ptr Qf 0,Ki vs] ((Qf,.var 131 (XP l s x))::R) (.agg (QO (YZ l vs))) ((Qf,.var 131 (XP l s x))::R):=by
 refine WP [.c 4 30 4 true] ⟨⟨inferInstance,rfl⟩,trivial⟩ Tryz.func79 rfl rfl 17 Tryz.ntmps79 (Nat.le_of_ble_eq_true rfl) ?_
 intro E hN;refine X5 ?_;refine zP (Qd (Qvb l hc hv hl) rfl rfl rfl) ?_;refine JF ?_;refine Qu ?_;change (resY _ _).bind AV.fzt=some _∧_;refine Qfm hH hH.pp rfl ?_
 rfl
theorem WZ (l:Qv)(s:Nd)(x:AV)(R:List (Nat×Qj))(hH:JK ((Qf,.var 131 (XP l s x))::R))(hc:QJ l=0){a b:Qz}(ha:El l 100000 a)(hb:El l 100000 b):GC Tryz.prog 79 [.ptr Qf 0,Ki [a,b]] ((Qf,.var 131 (XP l s x))::R) (.agg (QO (Qs l a b))) ((Qf,.var 131 (XP l s x))::R):=by
 have h:=Qii l s x R hH hc (vs:=[a,b]) (by intro v hv;simp at hv;rcases hv with rfl|rfl<;>assumption) (by simp)
 rwa [Qrm (Q9 hc) ha.1] at h
theorem QpR (l:Qv)(s:Nd)(x:AV)(R:List (Nat×Qj))(hH:JK ((Qf,.var 131 (XP l s x))::R))(hc:QJ l=0){a b c:Qz}(ha:El l 100000 a)(hb:El l 100000 b)(hd:El l 100000 c):GC Tryz.prog 79 [.ptr Qf 0,Ki [a,b,c]] ((Qf,.var 131 (XP l s x))::R) (.agg (QO (Qs l (Qs l a b) c))) ((Qf,.var 131 (XP l s x))::R):=by
 have h:=Qii l s x R hH hc (vs:=[a,b,c]) (by intro v hv;simp at hv;rcases hv with rfl|rfl|rfl<;>assumption) (by simp)
 rwa [Qoi (Q9 hc) ha.1] at h
theorem YT (l:Qv)(s:Nd)(x:AV)(R:List (Nat×Qj))(hH:JK ((Qf,.var 131 (XP l s x))::R))(hc:QJ l=0){v:Qz}(hv:El l 100000 v):GC Tryz.prog 85 [.ptr Qf 0,.agg (QO v)] ((Qf,.var 131 (XP l s x))::R) (.agg (QO v)) ((Qf,.var 131 (XP l s x))::R):=by
 refine WP [.c 4 30 4 true] ⟨⟨inferInstance,rfl⟩,trivial⟩ Tryz.func85 rfl rfl 9 Tryz.ntmps85 (Nat.le_of_ble_eq_true rfl) ?_
 intro E hN;refine J6 ?_;refine zP (XH rfl rfl rfl rfl (by exact rfl) (by decide) (by decide) (Kk v)) ?_;refine zP (XE hH (show GC _ _ [.ptr Qf 0,Ki [v]] _ (.agg (QO v)) _ from(by have h:=Qii l s x R hH hc (vs:=[v]) (by simpa using hv) (by simp);rwa [Qmd (Q9 hc) hv.1] at h)) rfl rfl rfl hH.pp) ?_;refine QR ?_;refine Qu ?_;change (resY _ _).bind AV.fzt=some _∧_;refine Qfm hH hH.pp rfl ?_
 rfl
theorem Qk2 (l:Qv)(s:Nd)(x:AV)(R:List (Nat×Qj))(hH:JK ((Qf,.var 131 (XP l s x))::R))(hc:QJ l=0)(hv:El l 100000 s.acc):GC Tryz.prog 49 [.ptr Qf 0] ((Qf,.var 131 (XP l s x))::R) (.agg (QO s.acc)) ((Qf,.var 131 (XP l s x))::R):=by
 refine WP [.c 2 30 4 true] ⟨⟨inferInstance,rfl⟩,trivial⟩ Tryz.func49 rfl rfl 9 Tryz.ntmps49 (Nat.le_of_ble_eq_true rfl) ?_
 intro E hN;refine X5 ?_;refine zP (XE hH (YT l s x R hH hc hv) rfl rfl rfl hH.pp) ?_;refine QR ?_;refine Qu ?_;change (resY _ _).bind AV.fzt=some _∧_;refine Qfm hH hH.pp rfl ?_
 rfl
theorem QdO (l:Qv)(s:Nd)(x:AV)(R:List (Nat×Qj))(hH:JK ((Qf,.var 131 (XP l s x))::R))(hc:QJ l=0)(hv:El l 100000 s.lrn):GC Tryz.prog 50 [.ptr Qf 0] ((Qf,.var 131 (XP l s x))::R) (.agg (QO s.lrn)) ((Qf,.var 131 (XP l s x))::R):=by
 refine WP [.c 2 30 4 true] ⟨⟨inferInstance,rfl⟩,trivial⟩ Tryz.func50 rfl rfl 9 Tryz.ntmps50 (Nat.le_of_ble_eq_true rfl) ?_
 intro E hN;refine X5 ?_;refine zP (XE hH (YT l s x R hH hc hv) rfl rfl rfl hH.pp) ?_;refine QR ?_;refine Qu ?_;change (resY _ _).bind AV.fzt=some _∧_;refine Qfm hH hH.pp rfl ?_
 rfl
theorem Ql7 (l:Qv)(s:Nd)(x:AV)(R:List (Nat×Qj))(hH:JK ((Qf,.var 131 (XP l s x))::R))(hc:QJ l=0)(hv:El l 100000 s.wt):GC Tryz.prog 51 [.ptr Qf 0] ((Qf,.var 131 (XP l s x))::R) (.agg (QO s.wt)) ((Qf,.var 131 (XP l s x))::R):=by
 refine WP [.c 2 30 4 true] ⟨⟨inferInstance,rfl⟩,trivial⟩ Tryz.func51 rfl rfl 9 Tryz.ntmps51 (Nat.le_of_ble_eq_true rfl) ?_
 intro E hN;refine X5 ?_;refine zP (XE hH (YT l s x R hH hc hv) rfl rfl rfl hH.pp) ?_;refine QR ?_;refine Qu ?_;change (resY _ _).bind AV.fzt=some _∧_;refine Qfm hH hH.pp rfl ?_
 rfl
theorem QfT {H:List (Nat×Qj)}(hH:JK H)(i:Int):GC Tryz.prog 98 [i64 i] H (bl true) H:=by
 refine Yn [2] Tryz.func98 rfl rfl 3 Tryz.ntmps98 (Nat.le_of_ble_eq_true rfl) ?_
 intro E hN;refine Jl ?_;refine Qu ?_;change (Xz _ _).fzt=some _∧_;refine Qdz hH hH.pp rfl ?_
 rfl
theorem Qpw (l:Qv)(s:Nd)(x0:AV)(R:List (Nat×Qj))(hH:JK ((Qf,.var 131 (XP l s x0))::R))(hc:QJ l=0)(h1:1≤s.n)(h2:s.n≤12)(m:Kb)(hk:¬m.k=2)(hm:El l 100000 m.v)(to:Nat→Bool)(g:FuncId)(caps:List AV)[Xl Tryz.prog g](hF:∀i:Nat,i<12→GC Tryz.prog g (i64 i::caps) ((Qf,.var 131 (XP l s x0))::R) (bl (to i)) ((Qf,.var 131 (XP l s x0))::R))(hcap:caps.all QbK=true)(hcap2:okId 2 (.fn g caps)=true):GX Tryz.prog 134 [.ptr Qf 0,.agg (Ja m),.fn g caps] ((Qf,.var 131 (XP l s x0))::R) (.own 1 (Ww s.self m to s.n.toNat).length) ((1,(.arr 54 8 ((Ww s.self m to s.n.toNat).map fun b=>Ja b)))::((Qf,.var 131 (XP l s x0))::R)) 2:=by
 refine Xt [6] Tryz.func134 rfl rfl 50 Tryz.ntmps134 (Nat.le_of_ble_eq_true rfl) ?_
 intro E hN;refine QeV ?_;refine QC (QbN rfl 7 54 8 rfl) ?_;refine Qq (fun x:{i:Nat // i≤s.n.toNat}=>⟨[(0,.ptr Qf 0),(2,.fn g caps),(4,.ptr 0 0),(7,.own 1 (Ww s.self m to x.1).length),(13,i64 s.n),(14,i64 (x.1:Nat))],(0,.var 54 (Ja m))::(1,(.arr 54 8 ((Ww s.self m to x.1).map fun b=>Ja b)))::((Qf,.var 131 (XP l s x0))::R),2⟩) (fun x=>s.n.toNat-x.1) (⟨0,Nat.zero_le _⟩) ?_ ?_
 ·exact Xw (pre:=[(0,_),(1,_)]) hH rfl rfl ⟨rfl,rfl,rfl,hcap2,rfl,rfl,rfl,rfl,rfl,rfl,rfl,rfl,trivial⟩ ⟨rfl,rfl,rfl,rfl,rfl,(Qc2 _),trivial⟩ hH.pp
 rintro⟨i,hi⟩;dsimp only;refine QL ?_
 refine zq ?_ ?_<;>intro h13
 rotate_left
 ·have hge:¬(i:Int)<s.n:=by simpa using h13
  obtain rfl:i=s.n.toNat:=by omega
  refine XL ?_;refine Qu ?_;change (Xz _ _).ntt=_∧_;refine Qoa hH hH.pp rfl ?_ rfl rfl rfl rfl ?_ rfl (Qc2 _)
  ·rfl
  rfl
 have hlt:(i:Int)<s.n:=by simpa using h13
 have hi12:i<12:=by omega
 refine QkJ ?_
 refine zc 23 ?_ ?_<;>intro h16
 rotate_left
 ·have he:(i:Int)=s.self:=by simpa using h16
  refine XR ?_;refine Qc ?_;exact⟨⟨i+1,by omega⟩,Xw (pre:=[(0,_),(1,_)]) hH rfl rfl ⟨rfl,rfl,rfl,hcap2,rfl,rfl,(by first|(rw[Qaz hne ht,List.length_append];rfl)|(rw[YE (.inl he)];rfl)|(rw[YE (.inr ht)];rfl)),rfl,rfl,rfl,JC,rfl,trivial⟩ ⟨rfl,rfl,rfl,(by first|(rw[Qaz hne ht,List.map_append];rfl)|(rw[YE (.inl he)];rfl)|(rw[YE (.inr ht)];rfl)),rfl,(Qc2 _),trivial⟩ hH.pp,by dsimp only;omega⟩
 have hne:¬(i:Int)=s.self:=by simpa using h16
 refine QR ?_;refine uP (XT h16) (Qq5 hH (hF i hi12) rfl rfl rfl rfl (by rw[List.all_cons,hcap];rfl) hH.pp) ?_;refine QR ?_
 refine zq ?_ ?_<;>intro h17
 rotate_left
 ·have ht:to i=false:=h17
  refine QK ?_;refine Qc ?_;exact⟨⟨i+1,by omega⟩,Xw (pre:=[(0,_),(1,_)]) hH rfl rfl ⟨rfl,rfl,rfl,hcap2,rfl,rfl,(by first|(rw[Qaz hne ht,List.length_append];rfl)|(rw[YE (.inl he)];rfl)|(rw[YE (.inr ht)];rfl)),rfl,rfl,rfl,JC,rfl,trivial⟩ ⟨rfl,rfl,rfl,(by first|(rw[Qaz hne ht,List.map_append];rfl)|(rw[YE (.inl he)];rfl)|(rw[YE (.inr ht)];rfl)),rfl,(Qc2 _),trivial⟩ hH.pp,by dsimp only;omega⟩
 have ht:to i=true:=h17
 refine Qvv ?_;refine zP (QD (b:=true) rfl rfl rfl (by simpa using hk)) ?_;refine XL ?_;refine zP (XE hH (YT l s x0 R hH hc hm) rfl rfl rfl hH.pp) ?_;refine XL ?_;refine zP (Q0 rfl rfl rfl rfl (by exact rfl) (by decide) (by decide)) ?_;refine XA hN rfl rfl rfl (by rw[List.length_map]) rfl rfl rfl (by rw[List.length_map];have:=Qfl s.self m to i;refine⟨?_,?_⟩<;>simp[QT]<;>omega) rfl rfl rfl rfl ?_;refine QL ?_;refine Qc ?_
 exact⟨⟨i+1,by omega⟩,Xw (pre:=[(0,_),(1,_)]) hH rfl rfl ⟨rfl,rfl,rfl,hcap2,rfl,rfl,(by first|(rw[Qaz hne ht,List.length_append];rfl)|(rw[YE (.inl he)];rfl)|(rw[YE (.inr ht)];rfl)),rfl,rfl,rfl,JC,rfl,trivial⟩ ⟨rfl,rfl,rfl,(by first|(rw[Qaz hne ht,List.map_append];rfl)|(rw[YE (.inl he)];rfl)|(rw[YE (.inr ht)];rfl)),rfl,(Qc2 _),trivial⟩ hH.pp,by dsimp only;omega⟩
end Go.Proofs.YtnkkokmmeplbgaaGreat
