/-
  Contracts: a run delivers a message.
-/
import Derived.Test.YtnkkokmmeplbgaaGreatK4
import Derived.Test.YtnkkokmmeplbgaaGreatA10
import Derived.Test.YtnkkokmmeplbgaaGreatA13
import Derived.Test.YtnkkokmmeplbgaaGreatT5
namespace Go.Proofs.YtnkkokmmeplbgaaGreat
set_option maxRecDepth 100000
set_option maxHeartbeats 1000000
open Go.RowKit
theorem Qd2.lo {l:Qv}{cl:Cl}{k:Nat}{r:Nd×Option Pp}{ν:Nat→Nat}{H:List (Nat×Qj)}{nx:Nat}{H':List (Nat×Qj)}(h:Qd2 l cl k r ν H nx H')(q:Nat)(h1:∀j,j<40→ν j≠q)(h2:q<nx):Qb H' q=Qb H q:=by
 obtain⟨_,_,_,_,h3⟩:=h;exact h3 q h1 h2
theorem Qg2 {nx:Nat}:∀j,j<40→bg j<nx∨Qf≤bg j:=fun _ _=>.inr (Nat.le_add_right _ _)
theorem QlM {ν:Nat→Nat}{nx:Nat}:clN bg ν nx 0=ν:=by
 funext j
 unfold clN
 rw[if_neg (Nat.not_lt_zero _)]
theorem QtG {b:Nat}:∀j,j<40→¬oμ j<6→mμ b j=oμ j:=fun j hj h=>by
 unfold oμ at h ⊢
 unfold mμ
 split at h
 ·omega
 split at h
 ·omega
 rename_i h1 h2;rw[if_neg h2,if_neg h1,if_neg h2]
theorem QbU:∀j,j<40→¬oμ j<6→bg j=oμ j:=fun j hj h=>by
 unfold oμ at h ⊢
 split at h
 ·omega
 split at h
 ·omega
 rename_i h1 h2;rw[if_neg h1,if_neg h2];rfl
def Cl.mid (c:Cl)(k:Nat)(r:Nst):Cl:=⟨c.F.set k r.1,c.dn,c.net++r.2,c.ins,c.lrn⟩
def Cl.by (c:Cl)(k:Nat)(r:Nst):Cl:=⟨c.F.set k r.1,c.dn,c.net++r.2,c.ins,c.lrn++[r.1.1.lrn]⟩
theorem QwC {l:Qv}{c:Cl}{k:Nat}{r:Nst}{ν:Nat→Nat}{j:Nat}:(Kz l (c.by k r) ν j).isSome=(Kz l (c.mid k r) ν j).isSome:=by
 match j with
 |0=>rfl
 |1=>rfl
 |2=>rfl
 |3=>rfl
 |4=>rfl
 |5=>rfl
 |6=>rfl
 |7=>rfl
 |8=>rfl
 |9=>rfl
 |_+10=>rfl
theorem Qjk {l:Qv}{c:Cl}{ν:Nat→Nat}{q:Nat}(h:∀j,j<40→ν j≠q):J8 q (KL l c ν)=KL l c ν:=Qfh fun p hp e=>by
 obtain⟨j,h1,h2⟩:=List.mem_filterMap.1 hp;obtain⟨ob,-,h4⟩:=Option.map_eq_some_iff.1 h2;exact h j (List.mem_range.1 h1) (by rw[e,←h4])
theorem Qnj (l:Qv)(c:Cl)(hok:c.ok)(k:Nat)(m:Kb)(ht:m.t=(k:Nat))(hlt:k<c.F.length)(hdl:k<c.dn.length)(hd:c.dn[k]?=some true):GX Tryz.prog 102 [.ptr Qf 0,.agg (Ja m)] (KL l c bg) (bl true) (KL l c oμ) 6:=by
 refine Xt [4] Tryz.func102 rfl rfl 56 Tryz.ntmps102 (Nat.le_of_ble_eq_true rfl) ?_
 intro E hN;refine Xy ?_;refine zD 12 ?_;refine QR ?_;refine zp (QD (b:=false) rfl rfl rfl (by simp;omega)) ?_;refine Xy ?_;refine zp (YD rfl rfl rfl JR) ?_;refine zp (QD (b:=false) rfl rfl rfl (by simp;omega)) ?_;refine XL ?_;refine zD 7 ?_;refine XL ?_;refine zp (QU rfl rfl rfl rfl (by simp) k ht (by omega)) ?_;refine zP (QaN rfl rfl c.dn rfl (by simp) k rfl hd) ?_;refine XL ?_;refine QC (YI Xb hok (Xn.cons (Kw (by decide)) (Xn.self Xb)) QbU (t':=[(4,bl true)]) ⟨rfl,rfl,trivial⟩) ?_;refine Qu ?_
 change (Xz _ _).ntt=_∧_;exact Ya rfl rfl rfl rfl rfl X8 hok Qa5 (Xn.self X8)
theorem Qns (l:Qv)(c:Cl)(hok:c.ok)(k:Nat)(m:Kb)(ht:m.t=(k:Nat))(hlt:k<c.F.length)(hc:QJ l=0)(hdl:k<c.dn.length)(hd:c.dn[k]?=some false){s:Nd}{p:Option Pp}(hk:c.F[k]?=some (s,p))(hnx:NX 42 [.agg (Ja m)] l s p (.tup [Qba (Jd l s p m).1.2,i64 0]) (Jd l s p m).1.1)(el:El l 100000 (Jd l s p m).1.1.1.lrn)(hl:c.lrn.length≤100000)(hn:c.net.length≤100000)(ho:(Jd l s p m).1.2.length≤1000):GX Tryz.prog 102 [.ptr Qf 0,.agg (Ja m)] (KL l c bg) (bl true) (KL l (c.by k (Jd l s p m).1) oμ) 6:=by
 have h5:=hok.1
 have hok1:(c.setF k (Jd l s p m).1.1).ok:=Qfq hok
 have Wv:Cl.ok (c.mid k (Jd l s p m).1):=hok1
 have hok3:(c.by k (Jd l s p m).1).ok:=hok1
 have hk2:(c.mid k (Jd l s p m).1).F[k]?=some ((Jd l s p m).1.1.1,(Jd l s p m).1.1.2):=List.getElem?_set_self hlt
 refine Xt [4] Tryz.func102 rfl rfl 56 Tryz.ntmps102 (Nat.le_of_ble_eq_true rfl) ?_
 intro E hN;refine Xy ?_;refine zD 12 ?_;refine QR ?_;refine zp (QD (b:=false) rfl rfl rfl (by simp;omega)) ?_;refine Xy ?_;refine zp (YD rfl rfl rfl JR) ?_;refine zp (QD (b:=false) rfl rfl rfl (by simp;omega)) ?_;refine XL ?_;refine zD 7 ?_;refine XL ?_;refine zp (QU rfl rfl rfl rfl (by simp) k ht (by omega)) ?_;refine zP (QaN rfl rfl c.dn rfl (by simp) k rfl hd) ?_;refine QK ?_;refine QC (QaU 3 0 rfl rfl rfl (Qmw (Qjk (Kw (by decide))))) ?_
 refine QgD hN 15 rfl (by kernel_rfl) (by kernel_rfl) (fun _ _ h=>h) (fun E2 hN2=>?_);refine J0 0 rfl (by kernel_rfl) (by kernel_rfl) rfl ((Y4 hN2 rfl rfl rfl rfl rfl rfl).wf) ?_;refine J0 1 rfl (by kernel_rfl) (by kernel_rfl) rfl ((Qcs hN2 rfl rfl rfl rfl rfl rfl rfl).wf) ?_;refine J0 2 rfl (by kernel_rfl) (by kernel_rfl) rfl ((Jp hN2 rfl rfl rfl rfl rfl rfl rfl rfl).wf) ?_;refine J0 4 rfl (by kernel_rfl) (by kernel_rfl) rfl ((Jp hN2 rfl rfl rfl rfl rfl rfl rfl rfl).wf) ?_
 refine J0 5 rfl (by kernel_rfl) (by kernel_rfl) rfl (Qhm hN2 rfl rfl rfl rfl rfl rfl rfl rfl) ?_;refine J0 8 rfl (by kernel_rfl) (by kernel_rfl) rfl (Qhm hN2 rfl rfl rfl rfl rfl rfl rfl rfl) ?_;refine Qkx ?_;refine Qi [3] (by kernel_rfl) rfl ⟨.inl (QG rfl ?_),trivial⟩;refine Xh hN2 (Xc rfl rfl rfl rfl rfl) rfl rfl rfl rfl ?_;change AU _ _ _ _ _ _ _ _;refine Qi [6] (by kernel_rfl) rfl ⟨.inl (QG rfl ?_),trivial⟩;refine Xh hN2 (QU rfl rfl rfl rfl JR k ht hlt) rfl rfl rfl rfl ?_;change AU _ _ _ _ _ _ _ _
 refine Qi [7] (by kernel_rfl) rfl ⟨.inl (QG rfl ?_),trivial⟩;refine Xh hN2 (XJ rfl rfl rfl JR QbA k rfl (QbL hlt) (fun _=>rfl) rfl) rfl rfl rfl rfl ?_;change AU _ _ _ _ _ _ _ _;refine Qi [9] (by kernel_rfl) rfl ⟨.inr (.inr (QaE hN2 rfl hok hk hnx (fun _=>rfl) rfl (fun _=>rfl) (fun _=>rfl) (.fn _ _ _ _ rfl rfl) Xb Qg2 (Xn.self Xb) (by decide) (Qda (q:=1) (Kw (by decide))) rfl rfl rfl rfl (fun H1 hp=>?_))),trivial⟩;change AU _ _ _ _ _ _ _ _;refine Qi [10] (by kernel_rfl) rfl ⟨.inl (QG rfl ?_),trivial⟩
 refine Xh hN2 (Qgp rfl rfl) rfl rfl rfl rfl ?_;change AU _ _ _ _ _ _ _ _;refine Xg 11 rfl (by kernel_rfl) (by kernel_rfl) rfl (Qdh hN2 rfl rfl rfl rfl rfl rfl rfl) ?_;refine Xg 12 rfl (by kernel_rfl) (by kernel_rfl) rfl (Qdh hN2 rfl rfl rfl rfl rfl rfl rfl) ?_;refine Xg 13 rfl (by kernel_rfl) (by kernel_rfl) rfl (Qeo hN2 rfl rfl rfl rfl rfl rfl) ?_;refine Xg 14 rfl (by kernel_rfl) (by kernel_rfl) rfl (Qeo hN2 rfl rfl rfl rfl rfl rfl) ?_;refine yD ?_;change Y1 _ _ _ _ _;refine Yy ?_
 refine QC (QoR hok (by omega) hp [] (t':=[(0,.ptr Qf 0),(3,.el (Ja m)),(5,Qba (Jd l s p m).1.2),(6,i64 0)]) 1 (by decide) (by decide) (by decide) trivial ⟨rfl,rfl,rfl,rfl,rfl,rfl,rfl,rfl,trivial⟩) ?_;refine Xy ?_;refine XA hN rfl rfl rfl (by simp) rfl rfl (QS _) (by simp[Cl.setF];omega) rfl rfl rfl rfl ?_;refine QR ?_;refine WE rfl rfl rfl rfl (QP rfl (by simp)) rfl (Nat.le_of_ble_eq_true rfl) rfl rfl rfl rfl ?_;refine XL ?_
 refine QdL hN Wv hok3 (QpB l hc (c.mid k (Jd l s p m).1) Wv k ht hk2 el hl) Xb (fun _=>rfl) rfl (fun _=>rfl) (fun _=>rfl) (.fn _ _ _ _ rfl rfl) (Q6 (b:=10) (by decide)) (Xn.chg (Xn.self (l:=l) (c:=(c.setF k (Jd l s p m).1.1)) (Q6 (b:=10) (by decide))) [0,3] (fun j hj ob hob=>by simp only[List.mem_cons,List.not_mem_nil,or_false] at hj;rcases hj with rfl|rfl<;>(rw[←hob];first|rfl|(simp only[Kz,clC,List.length_append,List.map_append,List.length_map,Cl.mid,Cl.setF];rfl))) (fun j _ hj=>Qhs (c:=(c.setF k (Jd l s p m).1.1)) hj) (fun j _ hj=>by simp only[List.mem_cons,List.not_mem_nil,or_false,not_or] at hj;repeat (first|rfl|rw[Qe _ _ (by have hi:Qf=1000000:=rfl;have e3:mμ 10 3=Qf+3:=rfl;(try rw[e3]);unfold mμ;split<;>omega)]))) (by decide) (fun j _=>.inr rfl) (fun j hj _ h=>QwC.symm.trans h) rfl rfl rfl rfl (fun H2 hcl2 _=>?_)
 rw[QlM] at hcl2;refine Xy ?_;refine QC (YI (Q6 (b:=10) (by decide)) hok3 hcl2 QtG (t':=[(4,bl true)]) ⟨rfl,rfl,trivial⟩) ?_;refine Qu ?_;change (Xz _ _).ntt=_∧_;exact Ya rfl rfl rfl rfl rfl X8 hok3 Qa5 (Xn.self X8)
structure Sp where
 k:Int
 nd:Int
 w:Int
 v:Qz
abbrev spC (x:Sp):List AV:=[i64 x.k,i64 x.nd,i64 x.w,i64 x.v.N,Jz x.v.nm,Ki x.v.ps,ens x.v.es]
def W8 (nd:Int)(n:Nat):Int:=if nd.tmod (n:Int)<0 then nd.tmod (n:Int)+n else nd.tmod (n:Int)
def Qcv (c:Cl)(w:Int):Int:=if 0<c.net.length∧0≤w then w.tmod (c.net.length:Int) else -1
theorem QbI {nd:Int}{n:Nat}(h:1≤n):0≤W8 nd n∧W8 nd n<n:=by
 have h1:=Int.tmod_lt_of_pos nd (show(0:Int)<n by omega)
 have h2 : -(n:Int)<nd.tmod n:=by
  have:=Int.neg_tmod nd n
  have h3:=Int.tmod_lt_of_pos (-nd) (show(0:Int)<n by omega)
  rw[this] at h3;omega
 unfold W8
 split<;>omega
theorem QnI {c:Cl}{w:Int}:Qcv c w = -1∨0≤Qcv c w∧Qcv c w<c.net.length:=by
 unfold Qcv
 split
 ·rename_i h
  right
  exact⟨Int.tmod_nonneg _ h.2,Int.tmod_lt_of_pos _ (by omega)⟩
 exact .inl rfl
def Qde (l:Qv)(c:Cl)(m:Kb):Cl:=
 if c.dn[m.t.toNat]?=some true then c else
 match c.F[m.t.toNat]? with
 |some x=>c.by m.t.toNat (Jd l x.1 x.2 m).1
 |none=>c
def Cl.inp (c:Cl)(i:Nat)(v:Qz)(r:Nst):Cl:=⟨c.F.set i r.1,c.dn,c.net++r.2,c.ins.set i ((c.ins[i]?).getD []++[v]),c.lrn++[r.1.1.lrn]⟩
def Cl.less (c:Cl)(j:Nat):Cl:={ c with net:=c.net.take j++c.net.drop (j+1) }
def J5 (l:Qv)(c:Cl)(x:Sp):Cl:=
 if 1≤x.k∧x.k≤3 then
  if Qcv c x.w<0 then c else
  match c.net[(Qcv c x.w).toNat]? with
  |none=>c
  |some m=>if x.k=3 then c.less (Qcv c x.w).toNat else Qde l (if x.k=2 then c else c.less (Qcv c x.w).toNat) m
 else if c.dn[(W8 x.nd c.F.length).toNat]?=some true then c
 else match c.F[(W8 x.nd c.F.length).toNat]? with
 |none=>c
 |some y=>
  if x.k=0 then if Xr l x.v=true then c.inp (W8 x.nd c.F.length).toNat x.v (QB l y.1 y.2 x.v).1 else c
  else if x.k=4 then c.mid (W8 x.nd c.F.length).toNat (Yo l y.1 y.2)
  else if x.k=5 then { c with dn:=c.dn.set (W8 x.nd c.F.length).toNat true } else c
structure WOk (l:Qv) (c:Cl) (X:List Qz) (K:Nat):Prop where
 hc:QJ l=0
 hX:Giv l X
 hl:X.length≤80
 hK:K≤1000
 f1:1≤c.F.length
 f5:c.F.length≤5
 dn:c.dn.length=c.F.length
 ins:c.ins.length=c.F.length
 nd:∀(i:Nat) (s:Nd) (p:Option Pp),c.F[i]?=some (s,p)→WO l X s p K
 lnet:c.net.length≤90000
 llrn:c.lrn.length≤90000
 lins:∀vs∈c.ins,vs.length≤1000
theorem WOk.hl9 {l:Qv}{c:Cl}{X:List Qz}{K:Nat}(h:WOk l c X K):X.length≤90:=by have:=h.hl;omega
theorem WOk.ok {l:Qv}{c:Cl}{X:List Qz}{K:Nat}(h:WOk l c X K):c.ok:=⟨h.f5,by rw[h.ins];exact h.f5⟩
def MOk (l:Qv)(X:List Qz)(c:Cl)(m:Kb):Prop:=0≤m.t∧m.t<c.F.length∧(∀(s:Nd) (p:Option Pp),c.F[m.t.toNat]?=some (s,p)→Wy l s m=0)∧(m.k≠2→W3 l X m.v)
theorem Qmg (l:Qv)(s:Nd):(Qd5 l s).2.length≤2*s.n.toNat:=by
 unfold Qd5
 have h1:(J4 (Jv l s) (Ju l s) Jn).length≤s.n.toNat:=Qbs ..
 have h2:(Qa2 (Xv l (Jv l s) (Ju l s))).length≤s.n.toNat:=Qcy _
 split
 ·show(J4 (Jv l s) (Ju l s) Jn++Qa2 (Xv l (Jv l s) (Ju l s))).length≤_
  rw[List.length_append];omega
 show(J4 (Jv l s) (Ju l s) Jn).length≤_
 omega
theorem QlA (l:Qv)(s:Nd):(Qf1 l s).2.length≤2*s.n.toNat:=by
 unfold Qf1
 split
 ·exact Nat.zero_le _
 exact Qmg l s
theorem QrP (l:Qv)(s:Nd)(p:Pp):(Qb2 l s p).2.length≤3*s.n.toNat:=by
 unfold Qb2
 split
 ·show(Qa2 (Xv l s p)++(Qf1 l (Xv l s p)).2).length≤_
  have h1:(Qa2 (Xv l s p)).length≤s.n.toNat:=Qcy _
  have h2:(Qf1 l (Xv l s p)).2.length≤2*s.n.toNat:=QlA l (Xv l s p)
  rw[List.length_append];omega
 exact Nat.zero_le _
theorem QrG (l:Qv)(s:Nd)(p:Pp):(Qa6 l s p).2.length≤2*s.n.toNat:=by
 unfold Qa6
 split
 ·exact QlA l s
 exact Nat.zero_le _
theorem QmP {l:Qv}{s:Nd}{c:Option Pp}{m:Kb}(hok:Wy l s m=0)(h12:s.n≤12):(Jd l s c m).1.2.length≤36:=by
 unfold Jd
 rw[if_neg (fun h=>h hok)]
 by_cases k1:m.k=1
 ·rw[if_pos k1];exact(by decide:1≤36)
 rw[if_neg k1]
 cases c with
 |none=>exact Nat.zero_le _
 |some p=>
  show(if m.k=4 then(Qa6 l (Jh l s m) p,(0:Int)) else if ¬m.n=s.num then(((s,some p),[]),0) else if m.k=2 then(Qb2 l s { p with ack:=upN p.ack m.f.toNat true },0) else(((s,some { p with g:=Qs l p.g m.v }),[]),0)).1.2.length≤36
  by_cases k4:m.k=4
  ·rw[if_pos k4]
   have h1:(Qa6 l (Jh l s m) p).2.length≤2*s.n.toNat:=QrG l (Jh l s m) p
   show(Qa6 l (Jh l s m) p).2.length≤36
   omega
  rw[if_neg k4]
  by_cases kn:m.n=s.num
  ·rw[if_neg (fun h=>h kn)]
   by_cases k2:m.k=2
   ·rw[if_pos k2]
    have h1:=QrP l s { p with ack:=upN p.ack m.f.toNat true }
    show(Qb2 l s { p with ack:=upN p.ack m.f.toNat true }).2.length≤36
    omega
   rw[if_neg k2];exact Nat.zero_le _
  rw[if_pos kn];exact Nat.zero_le _
theorem QjG {l:Qv}{s:Nd}{c:Option Pp}{v:Qz}(h12:s.n≤12):(QB l s c v).1.2.length≤36:=by
 unfold QB
 split
 ·exact Nat.zero_le _
 cases c with
 |some p=>exact Nat.zero_le _
 |none=>
  have h1:(Qd5 l { s with wt:=Qs l s.wt v }).2.length≤2*s.n.toNat:=Qmg l { s with wt:=Qs l s.wt v }
  show(Qd5 l { s with wt:=Qs l s.wt v }).2.length≤36
  omega
theorem Qmt {l:Qv}{s:Nd}{c:Option Pp}(h12:s.n≤12):(Yo l s c).2.length≤36:=by
 cases c with
 |none=>
  show(if eqV s.lrn (Qy l) then[] else Qa2 s).length≤36
  split
  ·exact Nat.zero_le _
  have:=Qcy s;omega
 |some p=>
  unfold Yo
  dsimp only
  split
  ·have:=Qbs s p (fun i => !p.ack i)
   show(J4 s p fun i => !p.ack i).length≤36
   omega
  have h1:(J4 (QbO s (Qaa l s p)) (QdJ l s (Qaa l s p)) Jn).length≤s.n.toNat:=Qbs ..
  show(J4 (QbO s (Qaa l s p)) (QdJ l s (Qaa l s p)) Jn).length≤36
  omega
theorem QtF {l:Qv}{c:Cl}{X:List Qz}{K:Nat}(hw:WOk l c X K){m:Kb}(hm:MOk l X c m):GX Tryz.prog 102 [.ptr Qf 0,.agg (Ja m)] (KL l c bg) (bl true) (KL l (Qde l c m) oμ) 6:=by
 obtain⟨t0,t1,hk,he⟩:=hm
 obtain⟨k,ht⟩:∃k:Nat,m.t=(k:Nat):=⟨m.t.toNat,by omega⟩
 have hlt:k<c.F.length:=by omega
 have hdl:k<c.dn.length:=by rw[hw.dn];exact hlt
 have e:m.t.toNat=k:=by omega
 unfold Qde
 rw[e] at hk ⊢
 obtain⟨⟨s,p⟩,hF⟩:∃x,c.F[k]?=some x:=⟨_,List.getElem?_eq_getElem hlt⟩
 have hd:c.dn[k]?=some c.dn[k]:=List.getElem?_eq_getElem hdl
 cases hb:c.dn[k] with
 |true=>
  rw[hb] at hd;rw[if_pos hd];exact Qnj l c hw.ok k m ht hlt hdl hd
 |false=>
  rw[hb] at hd;rw[if_neg (by rw[hd];decide),hF]
  have hv:=hw.nd k s p hF
  have hok:=hk s p hF
  obtain⟨-,hnx⟩:=Qu3 l hw.hX hw.hl9 hv hw.hK hw.hc m hok (fun h=>(he h).el (Q9 hw.hc) hw.hX hw.hl9)
  have hi:=Qle (Q9 hw.hc) hw.hX hv (m:=m) (fun _ h2=>he h2)
  exact Qns l c hw.ok k m ht hlt hw.hc hdl hd hF hnx ((hi.lrn.el (Q9 hw.hc) hw.hX hw.hl9).up (by decide)) (by have:=hw.llrn;omega) (by have:=hw.lnet;omega) (Nat.le_trans (QmP (c:=p) hok hv.n2) (by decide))
theorem Qw8 {E:X7}{t t':List (Nat×AV)}{H:List (Nat×Qj)}{nx:Nat}(h:∀i x,Qb t' i=some x→Qb t i=some x):Kj E ⟨t,H,nx⟩ ⟨t',H,nx⟩:=fun c a hr=>by
 refine⟨c,rfl,{ hr with tmps:=fun i=>?_ }⟩
 show VR c _ ((Qb t' i).getD .bot)
 cases hl:Qb t' i with
 |none=>exact .fr _ _ (.bot _)
 |some x=>
  have hv:=hr.tmps i
  rw[show(⟨t,H,nx⟩:St).get i=x by simp[St.get,h i x hl]] at hv;exact hv
def QwS (t:List (Nat×AV)):List (Nat×AV)→Prop
 |[]=>True
 |(i,x)::r=>Qb t i=some x∧QwS t r
theorem QjC {t:List (Nat×AV)}:∀ {l:List (Nat×AV)},QwS t l→∀i x,Qb l i=some x→Qb t i=some x
 |[],_,_,_,h=>by cases h
 |(j,y)::r,⟨h1,h2⟩,i,x,h=>by
  rw[Qn] at h
  split at h
  ·rename_i e;cases h;subst e;exact h1
  exact QjC h2 i x h
theorem QbM {E:X7}{t t':List (Nat×AV)}{H:List (Nat×Qj)}{nx:Nat}(h:QwS t t'):Kj E ⟨t,H,nx⟩ ⟨t',H,nx⟩:=Qw8 (QjC h)
theorem Jt {st:St}{q off:Nat}{T:TypeId}{cs:List AV}(h:Qb st.H q=some (.var T cs)):st.at_ (.ptr q off)=some (cs.drop off):=by simp only[St.at_,h]
theorem QkC {νo ν:Nat→Nat}{nx m:Nat}(ho:Qap νo)(hν:Qap ν)(hf:∀j,j<40→ν j<nx∨Qf≤ν j)(hk:nx+m≤Qf):Qap (clN νo ν nx m):=fun i j hi hj e=>by
 unfold clN at e
 have h1:=hf i hi
 have h2:=hf j hj
 split at e<;>split at e
 ·exact ho i j hi hj (by omega)
 ·omega
 ·omega
 exact hν i j hi hj e
theorem Qov {ν:Nat→Nat}{nx:Nat}(h:∀j,j<40→¬oμ j<6→ν j=oμ j):∀j,j<40→¬oμ j<6→clN oμ ν nx 6 j=oμ j:=fun j hj hn=>by
 unfold clN
 rw[if_neg hn];exact h j hj hn
theorem Qrp:∀j,j<40→oμ j<6∨oμ j=Qf+j:=fun j hj=>by
 unfold oμ
 split
 ·exact .inl (by decide)
 split
 ·exact .inl (by omega)
 exact .inr rfl
theorem Qrl {j:Nat}(h:¬oμ j<6):j≠3∧¬(20≤j∧j<25):=by
 unfold oμ at h
 split at h
 ·exact absurd (by decide) h
 rename_i h3
 refine⟨h3,fun h2=>?_⟩;rw[if_pos h2] at h
 omega
theorem QiE {l:Qv}{c c':Cl}{ν μ:Nat→Nat}(hok:c'.ok)(hF:c'.F.length=c.F.length)(hi:c'.ins.length=c.ins.length){j:Nat}(h3:¬oμ j<6):(Kz l c' μ j).isSome=true→(Kz l c ν j).isSome=true:=by
 obtain⟨h3,h20⟩:=Qrl h3
 by_cases h6:j<6
 ·intro _
  have:j=0∨j=1∨j=2∨j=3∨j=4∨j=5:=by omega
  rcases this with rfl|rfl|rfl|rfl|rfl|rfl<;>rfl
 by_cases h10:j<10
 ·have:j=6∨j=7∨j=8∨j=9:=by omega
  rcases this with rfl|rfl|rfl|rfl<;>exact id
 by_cases hj:j<20
 ·obtain⟨i,rfl⟩:∃i,j=10+i:=⟨j-10,by omega⟩
  rw[Y8 (by omega),Y8 (by omega)]
  simp only[Option.isSome_map]
  intro h;obtain⟨x,hx⟩:=Option.isSome_iff_exists.1 h
  have:=(List.getElem?_eq_some_iff.1 hx).1
  rw[List.getElem?_eq_getElem (by omega)];rfl
 by_cases h30:j<30
 ·obtain⟨i,rfl⟩:∃i,j=20+i:=⟨j-20,by omega⟩
  intro h;rw[Wf (by omega)] at h
  have h5:=hok.1
  rw[List.getElem?_eq_none (by omega)] at h
  cases h
 obtain⟨i,rfl⟩:∃i,j=30+i:=⟨j-30,by omega⟩
 rw[Wo,Wo]
 simp only[Option.isSome_map]
 intro h;obtain⟨x,hx⟩:=Option.isSome_iff_exists.1 h
 have:=(List.getElem?_eq_some_iff.1 hx).1
 rw[List.getElem?_eq_getElem (by omega)];rfl
end Go.Proofs.YtnkkokmmeplbgaaGreat
