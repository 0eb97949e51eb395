/-
  Contracts: a run too heavy; a run that cannot begin; a run o
-/
import Derived.Test.YtnkkokmmeplbgaaGreatK8
import Derived.Test.YtnkkokmmeplbgaaGreatN9
import Derived.Test.YtnkkokmmeplbgaaGreatS1
import Derived.Test.YtnkkokmmeplbgaaGreatC12
import Derived.Test.YtnkkokmmeplbgaaGreatC1
namespace Go.Proofs.YtnkkokmmeplbgaaGreat
set_option maxRecDepth 100000
set_option maxHeartbeats 1000000
open Go.RowKit
def hvB (xs:List Sp):Bool:=decide (60<xs.length)||xs.any fun x => !Wu x.v 12
theorem Qph {xs:List Sp}(h:hvB xs=false):xs.length≤60∧∀x∈xs,Wu x.v 12=true:=by
 unfold hvB at h
 rw[Bool.or_eq_false_iff] at h;refine⟨by simpa using h.1,fun x hx=>?_⟩
 have:=List.any_eq_false.1 h.2 x hx
 simpa using this
theorem Qwq {xs:List Sp}{x:Sp}{k:Nat}(hx:xs[k]?=some x)(h:Wu x.v 12=false):hvB xs=true:=by
 unfold hvB
 rw[Bool.or_eq_true];exact .inr (List.any_eq_true.2 ⟨x,List.mem_of_getElem? hx,by rw[h];rfl⟩)
theorem Qxm {xs:List Sp}(h:60<xs.length):hvB xs=true:=by
 unfold hvB
 rw[decide_eq_true h];rfl
theorem Qvd {xs:List Sp}(h:xs.length≤60)(h2:∀(k:Nat) (x:Sp),k<xs.length→xs[k]?=some x→Wu x.v 12=true):hvB xs=false:=by
 unfold hvB
 rw[Bool.or_eq_false_iff];refine⟨by simpa using h,List.any_eq_false.2 fun x hx=>?_⟩;obtain⟨k,hk⟩:=List.getElem?_of_mem hx
 rw[h2 k x (List.getElem?_eq_some_iff.1 hk).1 hk];decide
theorem QsS (xs:List Sp):FC Tryz.prog 53 [sps xs] (bl (hvB xs)):=by
 refine Qg [2] Tryz.func53 rfl rfl 20 Tryz.ntmps53 (Nat.le_of_ble_eq_true rfl) ?_
 intro E hN;refine Jq 0 rfl (fun hl0=>?_);refine X5 ?_
 refine zq ?_ ?_<;>intro h3
 ·have hb:60<xs.length:=by
   have h:(xs.length:Int) > 60:=by simpa using h3
   omega
  refine QI ?_;refine zQ ?_;exact Qr (Qxm hb).symm
 have h60:xs.length≤60:=by
  have h:¬(xs.length:Int) > 60:=by simpa using h3
  omega
 refine Xy ?_;refine Qq (fun z:{k:Nat // k≤xs.length∧∀(j:Nat) (x:Sp),j<k→xs[j]?=some x→Wu x.v 12=true}=>⟨[(0,sps xs),(3,i64 (z.1:Nat))],[],0⟩) (fun z=>xs.length-z.1) (⟨0,Nat.zero_le _,fun j x h=>absurd h (Nat.not_lt_zero _)⟩) ?_ ?_
 ·exact Qa rfl (Yw trivial) trivial
 rintro⟨k,hk,hg⟩;dsimp only;refine Jl ?_
 refine zq ?_ ?_<;>intro h7
 rotate_left
 ·have hge:xs.length≤k:=by simpa using h7
  refine QK ?_;refine zQ ?_;exact Qr (Qvd h60 fun j y hj hy=>hg j y (by omega) hy).symm
 have hlt:k<xs.length:=by simpa using h7
 obtain⟨x,hx⟩:=Qw hlt;refine Xy ?_;refine zP (Qh rfl rfl rfl k rfl _ (Qt hx) rfl) ?_;refine QR ?_;refine zP (Qd (QpU x.v 12 (by decide) (by decide)) rfl rfl rfl) ?_;refine QR ?_
 refine zq ?_ ?_<;>intro h11
 ·have hsm:Wu x.v 12=false:=by simpa using h11
  refine QI ?_;refine zQ ?_;exact Qr (Qwq hx hsm).symm
 have hsm:Wu x.v 12=true:=by simpa using h11
 refine QL ?_;refine Qc ?_
 exact⟨⟨k+1,hlt,fun j y hj hy=>by
  by_cases e:j=k
  ·subst e;rw[hx] at hy;cases hy;exact hsm
  exact hg j y (by omega) hy⟩,Qa rfl (X2 ⟨JC,rfl,trivial⟩) trivial,by dsimp only;omega⟩
theorem Qqv (l:Qv)(n:Int)(hbad:n<1∨5<n∨¬QJ l=0):FC Tryz.prog 52 [.agg (Q7 l),i64 n] (.tup [.agg [i64 l.k,i64 l.lo,i64 l.hi,Jz l.nm,QiL l.ps,rus l.rs,.sl [] none,.sl [] none,.sl [] none,.sl [] none,.sl [] none],bl false]):=by
 refine Km [.c 4 95 11 true,.t 5] ⟨⟨inferInstance,rfl⟩,trivial⟩ Tryz.func52 rfl rfl 51 Tryz.ntmps52 (Nat.le_of_ble_eq_true rfl) ?_
 intro E hN;refine QeV ?_
 refine zc 14 ?_ ?_<;>intro h9
 ·skip
  refine X5 ?_;refine Qu ?_;change (resY _ _).bind AV.fzt=some _;refine Yl rfl ?_
  rfl
 have hn1:¬n<1:=by simpa using h9
 refine QK ?_
 refine zq ?_ ?_<;>intro h12
 ·skip
  refine XL ?_;refine Qu ?_;change (resY _ _).bind AV.fzt=some _;refine Yl rfl ?_
  rfl
 have hn5:¬5<n:=by simp_all
 refine Xy ?_
 refine Qq (fun _:Unit=>⟨[(1,i64 n),(2,.ptr 0 0),(4,.ptr 1 0),(6,.ptr 2 0),(7,i64 0)],[(0,.var 26 (Q7 l)),(1,.var 95 [i64 0,i64 0,i64 0,.p (.slice none 0 0),.p (.slice none 0 0),.p (.slice none 0 0),.p (.slice none 0 0),.p (.slice none 0 0),.p (.slice none 0 0),.p (.slice none 0 0),.p (.slice none 0 0)]),(2,.var 95 [i64 l.k,i64 l.lo,i64 l.hi,Jz l.nm,QiL l.ps,rus l.rs,.p (.slice none 0 0),.p (.slice none 0 0),.p (.slice none 0 0),.p (.slice none 0 0),.p (.slice none 0 0)])],3⟩) (fun _=>0) (()) ?_ ?_
 ·exact Qa rfl (Ks (X2 trivial)) ⟨rfl,rfl,rfl,rfl,rfl,rfl,rfl,rfl,rfl,trivial⟩
 rintro⟨⟩
 have hr:¬(n<1)∧¬5<n:=⟨hn1,hn5⟩
 refine Xy ?_
 refine zq ?_ ?_<;>intro h20
 rotate_left
 ·exact absurd (show(0:Int)<n by omega) (by simpa using h20)
 skip
 refine Jl ?_;refine zP (Qd (Quh l n 0 (by omega)) rfl rfl rfl) ?_;refine QeV ?_;refine Qu ?_;change (resY _ _).bind AV.fzt=some _;refine Yl rfl ?_
 rfl
theorem Qt6 {l:Qv}{n:Int}(h1:1≤n)(h5:n≤5):WS l n [] 0 ⟨fun _=>[],fun _ _=>Qz.zero,fun _=>0,[]⟩ (cl0 l n n.toNat):=by
 have hF:(cl0 l n n.toNat).F.length=n.toNat:=QpG
 have hI:(cl0 l n n.toNat).ins.length=n.toNat:=by show(List.replicate _ _).length=_;rw[List.length_replicate]
 refine⟨⟨fun k v h=>absurd h (by simp),fun k v h=>absurd h (by simp),fun v h=>absurd h (by simp)⟩,h1,h5,by omega,by show(List.replicate _ _).length=_;rw[List.length_replicate,hF],by rw[hI,hF],fun i s p hi=>?_,fun m h=>absurd h (by simp[cl0]),fun v h=>absurd h (by simp[cl0]),fun v h=>absurd h (by simp),Nat.le_refl _,Nat.le_refl _,Nat.le_refl _,fun i vs hi=>?_,fun v h=>absurd h (by simp)⟩
 ·have hlt:=(List.getElem?_eq_some_iff.1 hi).1
  rw[hF] at hlt;rw[Qhf hlt] at hi
  cases hi
  refine⟨⟨rfl,rfl,rfl,fun v h=>absurd h (by simp),.inr rfl,fun p hp=>by cases hp⟩,⟨h1,by show n≤12;omega,by show(0:Int)≤(i:Int);omega,by show(i:Int)<n;omega,W3.bot,W3.bot,W3.bot,Int.le_refl _,Int.le_refl _,fun p hp=>by cases hp⟩⟩
 rw[Qkh] at hi
 split at hi
 ·cases hi;exact⟨Nat.le_refl _,fun v h=>absurd h (by simp)⟩
 cases hi
theorem Qyb {v:Qz}(h:Wu v 12=true):Wu v 40=true:=decide_eq_true (by have:=of_decide_eq_true h;omega)
def Qiw (l:Qv)(n:Int)(xs:List Sp):Cl:=xs.foldl (J5 l) (cl0 l n n.toNat)
theorem Qjo {l:Qv}{n:Int}{xs:List Sp}{k:Nat}{x:Sp}(h:xs[k]?=some x):Qiw l n (xs.take (k+1))=J5 l (Qiw l n (xs.take k)) x:=by
 unfold Qiw
 rw[List.take_add_one,h,List.foldl_append];rfl
theorem QoH {l:Qv}{n:Int}(hc:QJ l=0)(h1:1≤n)(h5:n≤5){xs:List Sp}(hs:∀x∈xs,Wu x.v 12=true):∀k,k≤xs.length→∃X g,WS l n X k g (Qiw l n (xs.take k))
 |0,_=>⟨_,_,Qt6 h1 h5⟩
 |k+1,hk=>by
  obtain⟨X,g,h⟩:=QoH hc h1 h5 hs k (by omega);obtain⟨x,hx⟩:=Qw (show k<xs.length by omega);obtain⟨X',g',h',-⟩:=Qul (Q9 hc) hc h (x:=x) (fun hv=>QmV (Qjh hv) (Qyb (hs x (List.mem_of_getElem? hx))));exact⟨X',g',by rw[Qjo hx];exact h'⟩
theorem Qx1 {l:Qv}{c:Cl}{x:Sp}:(J5 l c x).F.length=c.F.length:=by
 unfold J5
 split
 ·split
  ·rfl
  split
  ·rfl
  split
  ·rfl
  rw[QtI]
  split<;>rfl
 split
 ·rfl
 split
 ·rfl
 split
 ·split
  ·exact List.length_set ..
  rfl
 split
 ·exact List.length_set ..
 split<;>rfl
theorem Qxz {l:Qv}{c:Cl}{x:Sp}:(J5 l c x).ins.length=c.ins.length:=by
 unfold J5
 split
 ·split
  ·rfl
  split
  ·rfl
  split
  ·rfl
  rw[Qsp]
  split<;>rfl
 split
 ·rfl
 split
 ·rfl
 split
 ·split
  ·exact List.length_set ..
  rfl
 split
 ·rfl
 split<;>rfl
theorem Qvr {l:Qv}{c:Cl}{X:List Qz}{K:Nat}{n:Int}{g:Gh}(hc:QJ l=0)(h:WS l n X K g c)(hK:K≤80){x:Sp}(hs:Wu x.v 12=true):GX Tryz.prog 54 [.ptr Qf 0,.agg (spC x)] (KL l c bg) (bl true) (KL l (J5 l c x) oμ) 6:=by
 by_cases hk:1≤x.k∧x.k≤3
 ·exact QqO l (h.wok hc hK) x hk fun m hm=>h.mok (Q9 hc) hc (h.net m hm)
 exact Qri l (h.wok hc hK) x hk fun hv=>QmV (Qjh hv) (Qyb hs)
def sμ (j:Nat):Nat:=if j=0 then 43 else j+3
theorem Qwe:Qap sμ:=fun i j _ _ e=>by
 unfold sμ at e
 split at e<;>split at e<;>omega
theorem Qr0 {Hc H':List (Nat×Qj)}{l:Qv}{c:Cl}(hok:c.ok)(hp:Qsg [] (KL l c (lμ 2)) 42 [] Hc 1 H'):Xn H' l c (lμ 3):=fun j ob hj hob=>by
 have rl:∀o,o<42→rn ([]++Yr 1 42) o=1+o:=fun o ho=>QiH (fun p hp=>by cases hp) ho (by decide)
 have hm:=Qj9 (l:=l) hok (μ:=lμ 2) (ν:=lμ 3) (σ:=rn ([]++Yr 1 42)) (fun j hj=>by rw[rl _ (by unfold lμ;omega)];unfold lμ;omega) j
 rw[hob] at hm;obtain⟨x,hx,hx2⟩:=Option.map_eq_some_iff.1 hm
 have:=hp.1 (lμ 2 j) (.inr (by unfold lμ;omega))
 rw[rl _ (by unfold lμ;omega),Jc Kn hj,hx] at this;rw[show lμ 3 j=1+lμ 2 j from by unfold lμ;omega,this,show YM ([]++Yr 1 42)=mpO (rn ([]++Yr 1 42)) from funext (Qps _)];exact congrArg some hx2
theorem QxC {H:List (Nat×Qj)}{l:Qv}{c:Cl}(hok:c.ok)(h0:Qb H 43=some (.var 95 (clC l c (lμ 3))))(h:∀q,4≤q→q<43→Qb H q=Qb (KL l c (lμ 3)) q):Xn H l c sμ:=fun j ob hj hob=>by
 by_cases e:j=0
 ·subst e
  rw[←hob];exact h0
 have hs:sμ j=lμ 3 j:=by unfold sμ lμ;rw[if_neg e]
 have hm:Kz l c sμ j=Kz l c (lμ 3) j:=by
  have hn:∀i,i≠0→sμ i=lμ 3 i:=fun i hi=>by unfold sμ lμ;rw[if_neg hi]
  match j with
  |0=>exact absurd rfl e
  |1=>
   show some (Qj.arr _ 1 (Qfc sμ c.F.length))=some (Qj.arr _ 1 (Qfc (lμ 3) c.F.length))
   congr 2
   exact List.map_congr_left fun i _=>by rw[hn _ (by omega)]
  |2=>rfl
  |3=>rfl
  |4=>
   show some (Qj.arr _ 1 (QeJ sμ c.ins))=some (Qj.arr _ 1 (QeJ (lμ 3) c.ins))
   congr 2
   refine List.ext_getElem (by simp) fun i g1 g2=>?_
   simp only[List.getElem_mapIdx]
   rw[hn _ (by omega)]
  |5=>rfl
  |6=>rfl
  |7=>rfl
  |8=>rfl
  |9=>rfl
  |i+10=>
   simp only[Kz]
   rw[hn _ (by omega)]
 rw[hm] at hob
 have hlt:=QsR hok hob
 rw[hs,h _ (by unfold lμ;omega) (by unfold lμ;omega),Jc Kn hj];exact hob
theorem Qx2 {l:Qv}{c:Cl}(hc:c.ok): [AV.agg (clC l c (lμ 2)),bl true].all (Qb0 (KL l c (lμ 2)))=true:=by
 have h:=QhP (l:=l) (ν:=lμ 2) (H:=KL l c (lμ 2)) hc (fun i x hi hx=>by rw[Jc Kn hi,hx];rfl) (j:=0) rfl
 show((clC l c (lμ 2)).all (KH (KL l c (lμ 2)))&&true)=true
 rw[show(clC l c (lμ 2)).all (KH (KL l c (lμ 2)))=true from h];rfl
theorem Qxe {H0:List (Nat×Qj)}{l:Qv}{c:Cl}{z:Qj}(hok:c.ok)(hat:Xn H0 l c (lμ 3)):Xn ((43,.var 95 (clC l c (lμ 3)))::(43,z)::H0) l c sμ:=fun j ob hj hob=>by
 have h:=QxC (H:=(43,.var 95 (clC l c (lμ 3)))::(KL l c (lμ 3))) hok (Qp _ _ _) (fun q h1 h2=>Qe _ _ (by omega)) j ob hj hob
 by_cases e:j=0
 ·subst e;exact h
 have hs:sμ j=j+3:=by unfold sμ;rw[if_neg e]
 have hlt:=QsR hok hob
 rw[hs,Qe _ _ (by omega)] at h;rw[hs,Qe _ _ (by omega),Qe _ _ (by omega)]
 have h2:Qb (KL l c (lμ 3)) (lμ 3 j)=some ob:=h
 rw[Jc Kn hj] at h2;exact hat j ob hj h2
theorem Qkn {l:Qv}{n:Int}(h5:n≤5):∀xs:List Sp,(Qiw l n xs).ok:=fun xs=>by
 unfold Qiw
 have key:∀(xs:List Sp) (c:Cl),c.ok→(xs.foldl (J5 l) c).ok:=by
  intro xs
  induction xs with
  |nil=>intro c h;exact h
  |cons x xs ih=>intro c h;exact ih _ (Qcr h)
 exact key xs _ (Qe8 (by omega))
theorem QwH {nx:Nat}(h:41≤nx):∀j,j<40→1≤lμ 1 j∧1≤clN oμ (lμ 1) nx 6 j:=fun j _=>by
 unfold clN lμ
 refine⟨by omega,?_⟩
 split<;>omega
theorem Qq0 {E:X7}{t t':List (Nat×AV)}{H2:List (Nat×Qj)}{l:Qv}{c:Cl}{pre:List (Nat×Qj)}(b:Nat)(hb:b≤1)(hok:c.ok)(hcl2:Xn H2 l c (clN oμ (lμ 1) 41 6))(hp:Qqd ⟨t,H2,47⟩ b pre)(ht:Qms ⟨t,H2,47⟩ (1::pre.map (·.1)) t'):Kj E ⟨t,H2,47⟩ ⟨t',pre++KL l c (lμ 1),41⟩:=
 XC (lμ 1) Kn (QkC X8 Kn (fun j hj=>.inl (by unfold lμ;omega)) (by decide)) hok hcl2 pre b (by decide) (by omega) (fun j hj=>.inl (by unfold lμ;omega)) (fun j hj=>by have:=QwH (nx:=41) (by decide) j hj;omega) rfl hp ht
theorem Qqb (l:List Qz):∀e∈l.map Ym,fzs e=some e:=fun e he=>by
 obtain⟨v,-,rfl⟩:=List.mem_map.1 he
 rw[KK];rfl
theorem QrU {l:Qv}{n:Int}{X:List Qz}{K:Nat}{g:Gh}{c:Cl}(hc:QJ l=0)(hK:K≤80)(h:WS l n X K g c):∀v∈c.lrn,SmV 1000000 v:=fun v hv=>((h.lrn v hv).2.el (Q9 hc) h.gX (by have:=h.xl;omega)).2.up (by decide)
theorem QqF {l:Qv}{n:Int}{X:List Qz}{K:Nat}{g:Gh}{c:Cl}(hc:QJ l=0)(h:WS l n X K g c):(Qee l c.lrn).2=true:=by
 have hO:=Q9 hc
 have hel:∀v∈c.lrn,QA v l=true:=fun v hv=>(h.lrn v hv).2.elem hO h.gX
 obtain⟨o,ho⟩:=Qgs hO hel (fun p q x y _ h2 h3=>by
  rw[Bool.or_eq_true]
  exact h.chain hO x (List.mem_of_getElem? h2) y (List.mem_of_getElem? h3)) c.lrn.length (Nat.le_refl _)
 rw[QqK (Qnw hc hel) ho]
theorem Qp8 (l:Qv)(n:Int)(xs:List Sp)(hbad:n<1∨5<n∨¬QJ l=0):FC Tryz.prog 9 [.agg (Q7 l),i64 n,sps xs] (bl true):=by
 obtain⟨lb,hlb⟩:=QmM l
 refine Qg [6] Tryz.func9 rfl rfl 49 Tryz.ntmps9 (Nat.le_of_ble_eq_true rfl) ?_
 intro E hN;refine Jl ?_;refine zP (Qd QhH rfl rfl rfl) ?_;refine Jl ?_;refine zP (Qd hlb rfl rfl rfl) ?_;refine QR ?_
 refine zq ?_ ?_<;>intro h6
 ·refine QI ?_;refine zQ ?_
  rfl
 refine QL ?_;refine zP (Qd (Qqv l n hbad) rfl rfl rfl) ?_;refine Qmp ?_;refine zQ ?_
 rfl
theorem QsO (l:Qv)(n:Int)(xs:List Sp)(hc:QJ l=0)(h1:1≤n)(h5:n≤5):FC Tryz.prog 9 [.agg (Q7 l),i64 n,sps xs] (bl true):=by
 obtain⟨lb,hlb⟩:=QmM l
 refine Qg [6] Tryz.func9 rfl rfl 49 Tryz.ntmps9 (Nat.le_of_ble_eq_true rfl) ?_
 intro E hN;refine Jq 2 rfl (fun hl2=>?_);refine Jl ?_;refine zP (Qd QhH rfl rfl rfl) ?_;refine Jl ?_;refine zP (Qd hlb rfl rfl rfl) ?_;refine QR ?_
 refine zq ?_ ?_<;>intro h6
 ·refine QI ?_;refine zQ ?_
  rfl
 refine QL ?_
 refine QrJ hN [] (Qs7 l n hc h1 h5) (.fn _ _ _ _ rfl rfl) rfl rfl rfl (fun p hp=>by cases hp) (by decide) (fun o ob ho=>by cases ho) (fun o o' ho=>by cases ho) (fun o ho=>by
  obtain⟨x,hx⟩:=Option.isSome_iff_exists.1 ho;obtain⟨j,hj,rfl⟩:=YK hx
  exact .inr (by unfold lμ;omega)) (fun o ob ho=>by
  obtain⟨j,hj,rfl⟩:=YK ho;rw[Jc Kn hj] at ho
  exact QhP (Qe8 (by omega)) (fun i x hi hx=>by rw[Jc Kn hi,hx];rfl) ho) (Qx2 (Qe8 (by omega))) rfl rfl rfl rfl rfl (fun H0 q1 q2=>?_)
 have hok0:(cl0 l n n.toNat).ok:=Qe8 (by omega)
 have hat0:=Qr0 hok0 (Hc:=[(0,.var 26 (Q7 l))]) ⟨q1,q2⟩
 have hl0:Qb H0 0=some (.var 26 (Q7 l)):=q2 0 (fun o ho e=>by
  have hr:rn ([]++Yr 1 42) o=1+o:=QiH (fun p hp=>by cases hp) (by rcases ho with ho|ho;cases ho;exact ho) (by decide)
  have e:rn ([]++Yr 1 42) o=0:=e
  omega)
 refine QK ?_;refine WE rfl rfl rfl rfl (Qm3 (c:=(cl0 l n n.toNat)) (ν:=lμ 3) (hat0.cons (fun j hj=>by unfold lμ;omega))) rfl (Nat.le_of_ble_eq_true rfl) rfl rfl rfl rfl ?_;refine QK ?_
 refine QC (QkL (lμ 1) Kn Qwe hok0 (Qxe hok0 hat0) [(0,.var 26 (Q7 l))] (t':=[(1,i64 n),(2,sps xs),(3,.ptr 0 0),(7,.ptr 1 0),(8,bl true)]) (nx':=41) (by decide) (fun j hj=>.inl (by unfold lμ;omega)) ⟨hl0,rfl,fun j hj=>by unfold lμ sμ;refine⟨by omega,?_⟩;split<;>omega,.inl (by decide),trivial⟩ ⟨rfl,rfl,rfl,rfl,rfl,rfl,rfl,rfl,rfl,rfl,trivial⟩) ?_;refine QL ?_;refine zP (Qd (QsS xs) rfl rfl rfl) ?_;refine QR ?_
 refine zq ?_ ?_<;>intro h13
 ·skip
  refine QI ?_;refine zQ ?_
  rfl
 have hvv:hvB xs=false:=by simpa using h13
 have hv60:=(Qph hvv).1
 refine Xy ?_;refine Qq (fun z:{k:Nat // k≤xs.length}=>⟨[(1,i64 n),(2,sps xs),(3,.ptr 0 0),(7,.ptr 1 0),(9,i64 (z.1:Nat))],[(0,.var 26 (Q7 l))]++KL l (Qiw l n (xs.take z.1)) (lμ 1),41⟩) (fun z=>xs.length-z.1) (⟨0,Nat.zero_le _⟩) ?_ ?_
 ·exact QbM ⟨rfl,rfl,rfl,rfl,rfl,trivial⟩
 rintro⟨k,hk⟩;dsimp only;obtain⟨X,g,hI⟩:=QoH hc h1 h5 (fun x hx=>(Qph hvv).2 x hx) k hk;refine Jl ?_
 refine zq ?_ ?_<;>intro h20
 ·have hlt:k<xs.length:=by simpa using h20
  obtain⟨x,hx⟩:=Qw hlt;refine Xy ?_;refine zP (Qh rfl rfl rfl k rfl _ (Qt hx) rfl) ?_;refine zL ?_
  refine QdL hN (c:=(Qiw l n (xs.take k))) (Qkn (by omega) _) (c':=J5 l (Qiw l n (xs.take k)) x) (Qcr (Qkn (by omega) _)) (Qvr hc hI (by have:=(Qph hvv).1;omega) ((Qph hvv).2 x (List.mem_of_getElem? hx))) X8 (fun _=>rfl) rfl (fun _=>rfl) (fun _=>rfl) (.fn _ _ _ _ rfl rfl) (ν:=lμ 1) Kn ((Xn.self (l:=l) (c:=(Qiw l n (xs.take k))) Kn).cons (x:=.var 26 (Q7 l)) (fun j _=>by unfold lμ;omega)) (by decide) Qrp (fun j _ h=>QiE (Qcr (Qkn (by omega) _)) Qx1 Qxz h) rfl rfl rfl rfl (fun H2 hcl2 ho2=>?_)
  refine Jl ?_;refine Qc ?_;exact⟨⟨k+1,hlt⟩,(by rw[Qjo hx];exact Qq0 1 (by decide) (Qcr (Qkn (by omega) _)) hcl2 ⟨ho2 0 (fun j _=>by unfold lμ;omega) (by decide),rfl,rfl,trivial⟩ ⟨rfl,rfl,rfl,rfl,rfl,rfl,rfl,rfl,JC,rfl,trivial⟩),by dsimp only;omega⟩
 have hge:xs.length≤k:=by simpa using h20
 refine QR ?_;refine QC (Qe3 1 10 6 rfl rfl rfl rfl (by simp) (QN XS _) (Qqb _) rfl) ?_;refine QK ?_;refine zP (Qd (Qqh l (Qiw l n (xs.take k)).lrn (QrU hc (by omega) hI) (by have:=hI.llrn;omega)) rfl rfl rfl) ?_;refine XR ?_;refine zQ ?_;exact Qr (QqF hc hI)
theorem QmG (l:Qv)(n:Int)(xs:List Sp):FC Tryz.prog 9 [.agg (Q7 l),i64 n,sps xs] (bl true):=by
 by_cases h:n<1∨5<n∨¬QJ l=0
 ·exact Qp8 l n xs h
 exact QsO l n xs (by by_cases hc:QJ l=0;exact hc;exact absurd (.inr (.inr hc)) h) (by omega) (by omega)
end Go.Proofs.YtnkkokmmeplbgaaGreat
