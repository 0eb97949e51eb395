/-
  Contracts: a run takes a step of a node.
-/
import Derived.Test.YtnkkokmmeplbgaaGreatK6
namespace Go.Proofs.YtnkkokmmeplbgaaGreat
set_option maxRecDepth 100000
set_option maxHeartbeats 1000000
open Go.RowKit
theorem Kd {b nx:Nat}(h:b+5≤nx):∀j,j<40→mμ b j<nx∨Qf≤mμ b j∧mμ b j=mμ b j:=fun j _=>by
 unfold mμ
 split
 ·exact .inl (by omega)
 exact .inr ⟨Nat.le_add_right _ _,rfl⟩
theorem Kf {b a:Nat}(h:a≤b)(h2:a≤1000):∀j,j<40→a≤mμ b j∧a≤mμ b j:=fun j _=>by
 have:Qf=1000000:=rfl
 unfold mμ
 split<;>omega
theorem Ka {b i:Nat}:mμ b (30+i)=Qf+(30+i):=if_neg (by omega)
theorem mμ_4 {b:Nat}:mμ b 4=Qf+4:=rfl
theorem QH {b i:Nat}:mμ b 4≠mμ b (30+i):=by rw[Ka,mμ_4];omega
theorem KD {b i:Nat}:Qf≠mμ b (30+i):=by rw[Ka];omega
theorem Yh {H:List (Nat×Qj)}{l:Qv}{c:Cl}{b i:Nat}{vs:List Qz}{v:Qz}(hb:b≤1000)(hok:c.ok)(hii:i<c.ins.length)(h4:Qb H (mμ b 4)=some (.arr 27 1 ((QeJ (mμ b) c.ins).set i [.own (mμ b (30+i)) (vs.length+1)])))
  (hi:Qb H (mμ b (30+i))=some (.arr 30 4 ((vs++[v]).map Ym))) (ho:∀j,j<40→j≠4→j≠30+i→Qb H (mμ b j)=Qb (KL l c (mμ b)) (mμ b j)):Xn H l { c with ins:=c.ins.set i (vs++[v]) } (mμ b):=fun j ob hj hob=>by
 by_cases e4:j=4
 ·subst e4
  rw[←hob,h4]
  show _=some (Qj.arr _ 1 (QeJ (mμ b) (c.ins.set i (vs++[v]))))
  congr 2
  refine List.ext_getElem (by simp) fun q g1 g2=>?_
  simp only[List.getElem_set,List.getElem_mapIdx]
  by_cases e:i=q
  ·subst e;simp
  simp[e]
 by_cases ei:j=30+i
 ·subst ei
  rw[hi,←hob,Wo]
  show _=((c.ins.set i (vs++[v]))[i]?).map _
  rw[List.getElem?_set_self hii];rfl
 rw[ho j hj e4 ei,Jc (Q6 hb) hj,←hob]
 have h5:=hok.2
 match j with
 |0=>simp only[Kz,clC,List.length_set]
 |1=>rfl
 |2=>rfl
 |3=>rfl
 |4=>exact absurd rfl e4
 |5=>rfl
 |6=>rfl
 |7=>rfl
 |8=>rfl
 |9=>rfl
 |q+10=>
  simp only[Kz]
  split
  ·rfl
  split
  ·rfl
  rw[List.getElem?_set_ne (by omega)]
theorem Qd2.fix {l:Qv}{cl:Cl}{k:Nat}{r:Nd×Option Pp}{H:List (Nat×Qj)}{nx:Nat}{H':List (Nat×Qj)}(h:Qd2 l cl k r bg H nx H')(hok:cl.ok)(hk:k<5){j:Nat}(hj:j<10){ob:Qj}(ho:Kz l cl bg j=some ob):Qb H' (bg j)=some ob:=by
 obtain⟨z',hz,h1,h2,h3⟩:=h
 have:=h1 j ob (by omega) (by rw[Ql2 hok (by omega) (by omega) hk];exact ho)
 rwa [show Qcm bg (20+k) z' j=bg j from if_neg (by omega)] at this
theorem Qcr {l:Qv}{c:Cl}{x:Sp}(h:c.ok):(J5 l c x).ok:=by
 have hF:∀(i:Nat) (y:Nd×Option Pp),(c.F.set i y).length≤5:=fun i y=>by rw[List.length_set];exact h.1
 unfold J5
 split
 ·split
  ·exact h
  split
  ·exact h
  split
  ·exact h
  refine Qc7 ?_
  split
  ·exact h
  exact h
 split
 ·exact h
 split
 ·exact h
 split
 ·split
  ·exact⟨hF _ _,by show(c.ins.set _ _).length≤5;rw[List.length_set];exact h.2⟩
  exact h
 split
 ·exact⟨hF _ _,h.2⟩
 split
 ·exact h
 exact h
theorem QsV {l:Qv}{c:Cl}{x:List Qz}{ν:Nat→Nat}{j:Nat}:(Kz l { c with lrn:=x } ν j).isSome=(Kz l c ν j).isSome:=by
 match j with
 |0=>rfl
 |1=>rfl
 |2=>rfl
 |3=>rfl
 |4=>rfl
 |5=>rfl
 |6=>rfl
 |7=>rfl
 |8=>rfl
 |9=>rfl
 |_+10=>rfl
theorem QcG {E:X7}{t:List (Nat×AV)}{H H1:List (Nat×Qj)}{nx:Nat}{l:Qv}{c:Cl}{i:Nat}{r:Nst}{cs:List AV}{es:List (List AV)}(hok:c.ok)(hi:i<5)(hp:Qd2 l c i r.1 bg H nx H1)
  (h0:cs=(clC l c bg).set 8 (.own (bg 3) (c.net.length+(r.2.map fun b=>Ja b).length))) (h3:es=(c.net.map fun b=>Ja b)++(r.2.map fun b=>Ja b)) :
  Kj E ⟨t,(Qf,.var 95 cs)::(bg 3,.arr 54 8 es)::H1,nx+1⟩ ⟨[],KL l (c.mid i r) oμ,6⟩:=by
 obtain⟨z',hz,h1,h2,h4⟩:=hp
 have hi2:Qf=1000000:=rfl
 have hb:∀j,bg j=Qf+j:=fun _=>rfl
 refine YI h2 (Qfq hok) (c:=c.mid i r) (fun j ob hj hob=>?_) (fun j hj hn=>?_) trivial
 ·by_cases e0:j=0
  ·subst e0
   rw[show Qcm bg (20+i) z' 0=Qf from if_neg (by omega),Qp,←hob,h0]
   have hu:∀q,q<10→Qcm bg (20+i) z' q=bg q:=fun q hq=>if_neg (by omega)
   simp only[Kz,clC,hu 1 (by decide),hu 2 (by decide),hu 3 (by decide),hu 4 (by decide),hu 5 (by decide),Cl.mid,List.length_set,List.length_append,List.length_map]
   rfl
  by_cases e3:j=3
  ·subst e3
   rw[show Qcm bg (20+i) z' 3=bg 3 from if_neg (by omega),Qe _ _ (by rw[hb];omega),Qp,←hob,h3,←List.map_append];rfl
  have hm:=h1 j ob hj (by rw[←hob];exact(Qhs (c:=c.setF i r.1) (by simp[e0,e3])).symm)
  have hne:Qcm bg (20+i) z' j≠Qf∧Qcm bg (20+i) z' j≠bg 3:=by
   constructor
   ·intro e
    exact e0 (h2 j 0 hj (by omega) (e.trans (show Qf=Qcm bg (20+i) z' 0 from(if_neg (by omega)).symm)))
   intro e;exact e3 (h2 j 3 hj (by omega) (e.trans (show bg 3=Qcm bg (20+i) z' 3 from(if_neg (by omega)).symm)))
  rw[Qe _ _ hne.1,Qe _ _ hne.2];exact hm
 rw[←QbU j hj hn];exact if_neg (by have:=Qrl hn;omega)
theorem Qri (l:Qv){c:Cl}{X:List Qz}{K:Nat}(hw:WOk l c X K)(x:Sp)(hkn:¬(1≤x.k∧x.k≤3))(hel:Xr l x.v=true→El l 40 x.v):GX Tryz.prog 54 [.ptr Qf 0,.agg (spC x)] (KL l c bg) (bl true) (KL l (J5 l c x) oμ) 6:=by
 have hok:=hw.ok
 have hc:=hw.hc
 have hO:=Q9 hc
 have f1:=hw.f1
 have f5:=hw.f5
 have hdn:=hw.dn
 have hin:=hw.ins
 have ln:=hw.lnet
 have ll:=hw.llrn
 obtain⟨i,hi⟩:∃i:Nat,(W8 x.nd c.F.length)=(i:Nat):=⟨(W8 x.nd c.F.length).toNat,by have:=QbI (nd:=x.nd) f1;omega⟩
 have hlt:i<c.F.length:=by have:=QbI (nd:=x.nd) f1;omega
 have hti:(W8 x.nd c.F.length).toNat=i:=by omega
 have htm : -(c.F.length:Int)<x.nd.tmod c.F.length:=by
  have h3:=Int.tmod_lt_of_pos (-x.nd) (show(0:Int)<c.F.length by omega)
  rw[Int.neg_tmod] at h3;omega
 have h40:Qf=1000000:=rfl
 refine Xt [4] Tryz.func54 rfl rfl 196 Tryz.ntmps54 (Nat.le_of_ble_eq_true rfl) ?_
 intro E hN;refine X5 ?_;refine zP (YD rfl rfl rfl JR) ?_;refine Xy ?_;refine zP (Qom rfl rfl rfl (by omega)) ?_;refine QI ?_;refine JI (⟨[(0,.ptr Qf 0),(3,.ptr 0 0),(5,i64 c.F.length),(6,i64 i),(7,i64 (-1))],[(0,.var 101 (spC x))]++KL l c bg,1⟩) ?_ ?_
 ·refine QL ?_
  refine zq ?_ ?_<;>intro h10
  ·have hng:x.nd.tmod c.F.length<0:=by simpa using h10
   refine QL ?_;refine Qc ?_;exact QbM ⟨rfl,rfl,rfl,(Y5 (by have h:=hi;unfold W8 at h;split at h<;>omega)),rfl,trivial⟩
  have hng:¬x.nd.tmod c.F.length<0:=by simpa using h10
  refine QM ?_;exact QbM ⟨rfl,rfl,rfl,(Y5 (by have h:=hi;unfold W8 at h;split at h<;>omega)),rfl,trivial⟩
 refine JI (⟨[(0,.ptr Qf 0),(3,.ptr 0 0),(5,i64 c.F.length),(6,i64 i),(7,i64 (Qcv c x.w))],[(0,.var 101 (spC x))]++KL l c bg,1⟩) ?_ ?_
 ·refine XL ?_;refine zP (YD rfl rfl rfl (by simp)) ?_;refine QR ?_
  refine zc 31 ?_ ?_<;>intro h20
  rotate_left
  ·skip
   refine XL ?_;refine QM ?_;exact QbM ⟨rfl,rfl,rfl,rfl,(Y5 (by unfold Qcv;split<;>(simp_all;try omega))),trivial⟩
  have hnl:0<c.net.length:=by simpa using h20
  refine QL ?_
  refine zq ?_ ?_<;>intro h23
  rotate_left
  ·skip
   refine QM ?_;exact QbM ⟨rfl,rfl,rfl,rfl,(Y5 (by unfold Qcv;split<;>(simp_all;try omega))),trivial⟩
  have hwv:(0:Int)≤x.w:=by simpa using h23
  refine zD 8 ?_;refine XL ?_;refine zp (YD rfl rfl rfl (by simp)) ?_;refine zp (Qom rfl rfl rfl (by omega)) ?_;refine zS ?_;refine Qc ?_;exact QbM ⟨rfl,rfl,rfl,rfl,(Y5 (by unfold Qcv;split<;>(simp_all;try omega))),trivial⟩
 refine QR ?_
 cases hdd:c.dn[i]'(by omega)
 ·have hd:c.dn[i]?=some false:=by rw[List.getElem?_eq_getElem (by omega),hdd]
  obtain⟨⟨s,p⟩,hF⟩:∃y,c.F[i]?=some y:=⟨_,List.getElem?_eq_getElem hlt⟩
  have hv:=hw.nd i s p hF
  by_cases hk0:x.k=0
  ·skip
   cases hv0:Xr l x.v
   ·skip
    refine QI ?_;refine zP (QD (b:=false) rfl rfl rfl (by simp;omega)) ?_;refine QbP ?_;refine zP (QU rfl rfl rfl rfl (by simp) i rfl (by omega)) ?_;refine zP (QaN rfl rfl c.dn rfl (by simp) i rfl hd) ?_;refine QI ?_;refine JI (⟨[],KL l (J5 l c x) oμ,6⟩) ?_ ?_
    ·refine Jl ?_;refine zP (QD (b:=true) rfl rfl rfl (by simp[hk0])) ?_;refine QL ?_;refine zD 7 ?_;refine XL ?_;refine zp (Qd (fcb (c:=false) (QbJ l x.v) hv0) rfl rfl rfl) ?_;refine Xy ?_
     have hst:J5 l c x=c:=by
      unfold J5
      rw[if_neg hkn,hti,if_neg (by rw[hd];decide),hF]
      show(if x.k=0 then if Xr l x.v=true then c.inp i x.v (QB l s p x.v).1 else c else _)=c
      rw[if_pos hk0,if_neg (by rw[hv0];decide)]
     rw[hst];refine QC (YI Xb hok (Xn.cons (x:=.var 101 (spC x)) (Kw (q:=0) (by decide)) (Xn.self (l:=l) (c:=c) Xb)) QbU (t':=[(4,bl true)]) ⟨rfl,rfl,trivial⟩) ?_;refine Qu ?_;change (Xz _ _).ntt=_∧_;exact Ya rfl rfl rfl rfl rfl X8 hok Qa5 (Xn.self X8)
    refine QK ?_;refine Qu ?_;change (Xz _ _).ntt=_∧_;exact Ya rfl rfl rfl rfl rfl X8 (Qcr hok) Qa5 (Xn.self X8)
   obtain⟨vs,hvs⟩:∃vs,c.ins[i]?=some vs:=⟨_,List.getElem?_eq_getElem (by omega)⟩
   have hlv:vs.length≤1000:=hw.lins vs (List.mem_of_getElem? hvs)
   have ev:=hel hv0
   obtain⟨-,hnx⟩:=Qrx l hw.hX hw.hl9 hv hw.hK hc x.v hv0 ev
   have hX2:Giv l (x.v::X):=fun y hy=>by
    rcases List.mem_cons.1 hy with rfl|hy
    ·exact ev
    exact hw.hX y hy
   have hi9:=Qju hO hX2 (c:=p) (v:=x.v) (hv.up (Nat.le_refl K) fun y hy=>List.mem_cons_of_mem _ hy) (fun _=>W3.of hO hX2 List.mem_cons_self)
   have el4:El l 100000 (QB l s p x.v).1.1.1.lrn:=(hi9.lrn.el hO hX2 (by have:=hw.hl;rw[List.length_cons];omega)).up (by decide)
   have hlo:(QB l s p x.v).1.2.length≤36:=QjG hv.n2
   have Wv:(c.mid i (QB l s p x.v).1).ok:=Qfq hok
   have hok3:({ (c.mid i (QB l s p x.v).1) with ins:=(c.mid i (QB l s p x.v).1).ins.set i (vs++[x.v]) }:Cl).ok:=⟨Wv.1,by show(c.ins.set _ _).length≤5;rw[List.length_set];exact hok.2⟩
   have hok4:Cl.ok { ({ (c.mid i (QB l s p x.v).1) with ins:=(c.mid i (QB l s p x.v).1).ins.set i (vs++[x.v]) }:Cl) with lrn:=({ (c.mid i (QB l s p x.v).1) with ins:=(c.mid i (QB l s p x.v).1).ins.set i (vs++[x.v]) }:Cl).lrn++[(QB l s p x.v).1.1.1.lrn] }:=hok3
   have hk3:({ (c.mid i (QB l s p x.v).1) with ins:=(c.mid i (QB l s p x.v).1).ins.set i (vs++[x.v]) }:Cl).F[i]?=some ((QB l s p x.v).1.1.1,(QB l s p x.v).1.1.2):=List.getElem?_set_self hlt
   refine QI ?_;refine zP (QD (b:=false) rfl rfl rfl (by simp;omega)) ?_;refine QbP ?_;refine zP (QU rfl rfl rfl rfl (by simp) i rfl (by omega)) ?_;refine zP (QaN rfl rfl c.dn rfl (by simp) i rfl hd) ?_;refine QI ?_;refine JI (⟨[],KL l (J5 l c x) oμ,6⟩) ?_ ?_
   ·refine Jl ?_;refine zP (QD (b:=true) rfl rfl rfl (by simp[hk0])) ?_;refine QL ?_;refine zD 7 ?_;refine XL ?_;refine zp (Qd (fcb (c:=true) (QbJ l x.v) hv0) rfl rfl rfl) ?_;refine QL ?_;refine QC (QaU 3 0 rfl rfl rfl (Qmw (Qjk (Kw (by decide))))) ?_;refine QgD hN 15 rfl (by kernel_rfl) (by kernel_rfl) (fun _ _ h=>h) (fun E2 hN2=>?_);refine J0 0 rfl (by kernel_rfl) (by kernel_rfl) rfl ((Y4 hN2 rfl rfl rfl rfl rfl rfl).wf) ?_
    refine J0 1 rfl (by kernel_rfl) (by kernel_rfl) rfl ((Qcs hN2 rfl rfl rfl rfl rfl rfl rfl).wf) ?_;refine J0 2 rfl (by kernel_rfl) (by kernel_rfl) rfl ((Jp hN2 rfl rfl rfl rfl rfl rfl rfl rfl).wf) ?_;refine J0 4 rfl (by kernel_rfl) (by kernel_rfl) rfl ((Y4 hN2 rfl rfl rfl rfl rfl rfl).wf) ?_;refine J0 7 rfl (by kernel_rfl) (by kernel_rfl) rfl ((Jp hN2 rfl rfl rfl rfl rfl rfl rfl rfl).wf) ?_;refine J0 8 rfl (by kernel_rfl) (by kernel_rfl) rfl (Qhm hN2 rfl rfl rfl rfl rfl rfl rfl rfl) ?_;refine Qkx ?_
    refine Qi [3] (by kernel_rfl) rfl ⟨.inl (QG rfl ?_),trivial⟩;refine Xh hN2 (Xc rfl rfl rfl rfl rfl) rfl rfl rfl rfl ?_;change AU _ _ _ _ _ _ _ _;refine Qi [5] (by kernel_rfl) rfl ⟨.inl (QG rfl ?_),trivial⟩;refine Xh hN2 (QU rfl rfl rfl rfl JR i rfl hlt) rfl rfl rfl rfl ?_;change AU _ _ _ _ _ _ _ _;refine Qi [6] (by kernel_rfl) rfl ⟨.inl (QG rfl ?_),trivial⟩;refine Xh hN2 (XJ rfl rfl rfl JR QbA i rfl (QbL hlt) (fun _=>rfl) rfl) rfl rfl rfl rfl ?_;change AU _ _ _ _ _ _ _ _
    refine Qi [9] (by kernel_rfl) rfl ⟨.inr (.inr (QaE hN2 rfl hok hF hnx (fun _=>rfl) rfl (fun _=>rfl) (fun _=>rfl) (.fn _ _ _ _ rfl rfl) Xb Qg2 (Xn.self Xb) (by decide) (Qda (q:=1) (Kw (by decide))) rfl rfl rfl rfl (fun H1 hp=>?_))),trivial⟩;change AU _ _ _ _ _ _ _ _;refine Qi [10] (by kernel_rfl) rfl ⟨.inl (QG rfl ?_),trivial⟩;refine Xh hN2 (Qgp rfl rfl) rfl rfl rfl rfl ?_;change AU _ _ _ _ _ _ _ _;refine Xg 11 rfl (by kernel_rfl) (by kernel_rfl) rfl (Qdh hN2 rfl rfl rfl rfl rfl rfl rfl) ?_
    refine Xg 12 rfl (by kernel_rfl) (by kernel_rfl) rfl (Qdh hN2 rfl rfl rfl rfl rfl rfl rfl) ?_;refine Xg 13 rfl (by kernel_rfl) (by kernel_rfl) rfl (Qeo hN2 rfl rfl rfl rfl rfl rfl) ?_;refine Xg 14 rfl (by kernel_rfl) (by kernel_rfl) rfl (Qeo hN2 rfl rfl rfl rfl rfl rfl) ?_;refine yD ?_;change Y1 _ _ _ _ _;refine Yy ?_
    refine QC (QoR hok (by omega) hp [] (t':=[(0,.ptr Qf 0),(3,.el (spC x)),(6,i64 i),(9,Qba (QB l s p x.v).1.2),(10,i64 0)]) 1 (by decide) (by decide) (by decide) trivial ⟨rfl,rfl,rfl,rfl,rfl,rfl,rfl,rfl,rfl,rfl,trivial⟩) ?_;refine Xy ?_;refine XA hN rfl rfl rfl (by simp) rfl rfl (QS _) (by simp[Cl.setF];omega) rfl rfl rfl rfl ?_;refine QR ?_;refine WE rfl rfl rfl rfl (QP rfl (by simp)) rfl (Nat.le_of_ble_eq_true rfl) rfl rfl rfl rfl ?_;refine zN ?_
    refine JI (⟨[(0,.ptr Qf 0),(6,i64 i),(10,i64 0)],[]++KL l ({ (c.mid i (QB l s p x.v).1) with ins:=(c.mid i (QB l s p x.v).1).ins.set i (vs++[x.v]) }:Cl) (mμ 10),20⟩) ?_ ?_
    ·refine Yy ?_;refine Qew 4 rfl (by kernel_rfl) (by kernel_rfl) (fun _ _ h=>h) ?_;refine Qi [0] (by kernel_rfl) rfl ⟨.inr (.inr (Qr9 hN rfl rfl rfl rfl rfl rfl rfl ?_)),trivial⟩;change AU _ _ _ _ _ _ _ _;refine Qi [1,2] (by kernel_rfl) rfl ⟨.inr (.inl (Xs rfl rfl rfl rfl rfl rfl rfl (Nat.le_of_ble_eq_true rfl) rfl rfl rfl rfl ?_)),.inr (.inl (Xs rfl rfl rfl rfl rfl rfl rfl (Nat.le_of_ble_eq_true rfl) rfl rfl rfl rfl ?_)),trivial⟩
     ·change AU _ _ _ _ _ _ _ _;refine yS 2 ?_;refine yL 3 ?_;refine yD ?_;change Y1 _ _ _ _ _;refine Yy ?_
      refine QC (XC (mμ 10) (Q6 (b:=10) (by decide)) (Q6 (b:=10) (by decide)) (c:=(c.mid i (QB l s p x.v).1)) Wv (Xn.chg (Xn.self (l:=l) (c:=(c.setF i (QB l s p x.v).1.1)) (Q6 (b:=10) (by decide))) [0,3] (fun j hj ob hob=>by simp only[List.mem_cons,List.not_mem_nil,or_false] at hj;rcases hj with rfl|rfl<;>(rw[←hob];first|rfl|(simp only[Kz,clC,List.length_append,List.map_append,List.length_map,Cl.mid,Cl.setF];rfl))) (fun j _ hj=>Qhs (c:=(c.setF i (QB l s p x.v).1.1)) hj) (fun j _ hj=>by simp only[List.mem_cons,List.not_mem_nil,or_false,not_or] at hj;repeat (first|rfl|rw[Qe _ _ (by have hi2:Qf=1000000:=rfl;have e3:mμ 10 3=Qf+3:=rfl;(try rw[e3]);unfold mμ;split<;>omega)]))) [] (t':=[(0,.ptr Qf 0),(3,.el (spC x)),(6,i64 i),(10,i64 0)]) (nx':=20) 1 (by decide) (by decide) (Kd (by decide)) (Kf (by decide) (by decide)) rfl trivial ⟨rfl,rfl,rfl,rfl,rfl,rfl,rfl,rfl,trivial⟩) ?_
      have hii:i<(c.mid i (QB l s p x.v).1).ins.length:=by show i<c.ins.length;omega
      have hvs2:(c.mid i (QB l s p x.v).1).ins[i]?=some vs:=hvs
      have hI:Qb ([]++KL l (c.mid i (QB l s p x.v).1) (mμ 10)) (mμ 10 (30+i))=some (.arr 30 4 (vs.map Ym)):=(Jc (Q6 (b:=10) (by decide)) (by omega)).trans (by rw[Wo,hvs2];rfl)
      refine QgD hN 18 rfl (by kernel_rfl) (by kernel_rfl) (fun _ _ h=>h) (fun E2 hN2=>?_);refine J0 0 rfl (by kernel_rfl) (by kernel_rfl) rfl ((Y4 hN2 rfl rfl rfl rfl rfl rfl).wf) ?_;refine J0 1 rfl (by kernel_rfl) (by kernel_rfl) rfl ((Qcs hN2 rfl rfl rfl rfl rfl rfl rfl).wf) ?_;refine J0 2 rfl (by kernel_rfl) (by kernel_rfl) rfl ((Jp hN2 rfl rfl rfl rfl rfl rfl rfl rfl).wf) ?_;refine J0 4 rfl (by kernel_rfl) (by kernel_rfl) rfl ((Y4 hN2 rfl rfl rfl rfl rfl rfl).wf) ?_
      refine J0 5 rfl (by kernel_rfl) (by kernel_rfl) rfl ((Y4 hN2 rfl rfl rfl rfl rfl rfl).wf) ?_;refine J0 6 rfl (by kernel_rfl) (by kernel_rfl) rfl ((Qcs hN2 rfl rfl rfl rfl rfl rfl rfl).wf) ?_;refine J0 7 rfl (by kernel_rfl) (by kernel_rfl) rfl ((Jp hN2 rfl rfl rfl rfl rfl rfl rfl rfl).wf) ?_;refine J0 9 rfl (by kernel_rfl) (by kernel_rfl) rfl ((Y4 hN2 rfl rfl rfl rfl rfl rfl).wf) ?_;refine J0 12 rfl (by kernel_rfl) (by kernel_rfl) rfl ((Jp hN2 rfl rfl rfl rfl rfl rfl rfl rfl).wf) ?_
      refine J0 13 rfl (by kernel_rfl) (by kernel_rfl) rfl (Qhm hN2 rfl rfl rfl rfl rfl rfl rfl rfl) ?_;refine Qkx ?_;refine Qi [3,8,14] (by kernel_rfl) rfl ⟨.inl (QG rfl ?_),.inl (QG rfl ?_),.inl (QG rfl ?_),trivial⟩
      ·refine Xh hN2 ((by first|exact Xc rfl rfl rfl rfl rfl|exact Xc rfl rfl (Jt ((Qe _ _ KD).trans rfl)) rfl rfl)) rfl rfl rfl rfl ?_;change AU _ _ _ _ _ _ _ _;refine Qi [8,14] (by kernel_rfl) rfl ⟨.inl (QG rfl ?_),.inl (QG rfl ?_),trivial⟩
       ·refine Xh hN2 (Xc rfl rfl rfl rfl rfl) rfl rfl rfl rfl ?_;change AU _ _ _ _ _ _ _ _;refine Qi [10,14] (by kernel_rfl) rfl ⟨.inl (QG rfl ?_),.inl (QG rfl ?_),trivial⟩
        ·refine Xh hN2 (QU rfl rfl rfl rfl Ql i rfl hii) rfl rfl rfl rfl ?_;change AU _ _ _ _ _ _ _ _;refine Qi [11,14] (by kernel_rfl) rfl ⟨.inl (QG rfl ?_),.inl (QG rfl ?_),trivial⟩
         ·refine Xh hN2 (XJ rfl rfl rfl Ql QV i rfl (JG hvs2) (fun _=>rfl) rfl) rfl rfl rfl rfl ?_;change AU _ _ _ _ _ _ _ _;refine Qi [14] (by kernel_rfl) rfl ⟨.inl (QG rfl ?_),trivial⟩;refine Xh hN2 (XH rfl rfl rfl rfl (by exact rfl) (by decide) (by decide) (Kk x.v)) rfl rfl rfl rfl ?_;change AU _ _ _ _ _ _ _ _;refine Qi [15] (by kernel_rfl) rfl ⟨.inr (.inr (Qk hN2 rfl rfl rfl hI (by simp) rfl rfl (QN XS _) (by simp;omega) rfl rfl rfl rfl ?_)),trivial⟩;change AU _ _ _ _ _ _ _ _
          refine Qi [16] (by kernel_rfl) rfl ⟨.inl (QG rfl ?_),trivial⟩;refine Xh hN2 (QU rfl rfl rfl ((Qe _ _ QH).trans rfl) Ql i rfl hii) rfl rfl rfl rfl ?_;change AU _ _ _ _ _ _ _ _;refine Qi [17] (by kernel_rfl) rfl ⟨.inr (.inl (Q5 rfl rfl rfl ((Qe _ _ QH).trans rfl) Ql i rfl (by rw[←Ql];exact hii) rfl (QP (Qp _ _ _) (by simp)) rfl rfl QV rfl rfl rfl rfl ?_)),trivial⟩;change AU _ _ _ _ _ _ _ _;refine yD ?_
          exact XC (mμ 10) (Q6 (b:=10) (by decide)) (Q6 (b:=10) (by decide)) (c:=({ (c.mid i (QB l s p x.v).1) with ins:=(c.mid i (QB l s p x.v).1).ins.set i (vs++[x.v]) }:Cl)) hok3 (Yh (b:=10) (by decide) Wv hii (by first|rfl|exact(Qe _ _ QH).trans rfl) (by first|exact Qp _ _ _|(rw[Qe _ _ QH.symm,Qp,←List.map_append])) (fun j hj h4 hi5=>by have hi2:Qf=1000000:=rfl;have e4:mμ 10 4=Qf+4:=rfl;have e30:mμ 10 (30+i)=Qf+(30+i):=Ka;repeat (first|rfl|rw[Qe _ _ (by(try rw[e4]);(try rw[e30]);unfold mμ;split<;>omega)]))) [] 1 (by decide) (by decide) (Kd (by decide)) (Kf (by decide) (by decide)) rfl trivial ⟨rfl,rfl,rfl,rfl,rfl,rfl,trivial⟩
         refine Xh hN2 (XH rfl rfl rfl rfl (by exact rfl) (by decide) (by decide) (Kk x.v)) rfl rfl rfl rfl ?_;change AU _ _ _ _ _ _ _ _;refine Qi [11] (by kernel_rfl) rfl ⟨.inl (QG rfl ?_),trivial⟩;refine Xh hN2 (XJ rfl rfl rfl Ql QV i rfl (JG hvs2) (fun _=>rfl) rfl) rfl rfl rfl rfl ?_;change AU _ _ _ _ _ _ _ _;refine Qi [15] (by kernel_rfl) rfl ⟨.inr (.inr (Qk hN2 rfl rfl rfl hI (by simp) rfl rfl (QN XS _) (by simp;omega) rfl rfl rfl rfl ?_)),trivial⟩;change AU _ _ _ _ _ _ _ _
         refine Qi [16] (by kernel_rfl) rfl ⟨.inl (QG rfl ?_),trivial⟩;refine Xh hN2 (QU rfl rfl rfl ((Qe _ _ QH).trans rfl) Ql i rfl hii) rfl rfl rfl rfl ?_;change AU _ _ _ _ _ _ _ _;refine Qi [17] (by kernel_rfl) rfl ⟨.inr (.inl (Q5 rfl rfl rfl ((Qe _ _ QH).trans rfl) Ql i rfl (by rw[←Ql];exact hii) rfl (QP (Qp _ _ _) (by simp)) rfl rfl QV rfl rfl rfl rfl ?_)),trivial⟩;change AU _ _ _ _ _ _ _ _;refine yD ?_
         exact XC (mμ 10) (Q6 (b:=10) (by decide)) (Q6 (b:=10) (by decide)) (c:=({ (c.mid i (QB l s p x.v).1) with ins:=(c.mid i (QB l s p x.v).1).ins.set i (vs++[x.v]) }:Cl)) hok3 (Yh (b:=10) (by decide) Wv hii (by first|rfl|exact(Qe _ _ QH).trans rfl) (by first|exact Qp _ _ _|(rw[Qe _ _ QH.symm,Qp,←List.map_append])) (fun j hj h4 hi5=>by have hi2:Qf=1000000:=rfl;have e4:mμ 10 4=Qf+4:=rfl;have e30:mμ 10 (30+i)=Qf+(30+i):=Ka;repeat (first|rfl|rw[Qe _ _ (by(try rw[e4]);(try rw[e30]);unfold mμ;split<;>omega)]))) [] 1 (by decide) (by decide) (Kd (by decide)) (Kf (by decide) (by decide)) rfl trivial ⟨rfl,rfl,rfl,rfl,rfl,rfl,trivial⟩
        refine Xh hN2 (XH rfl rfl rfl rfl (by exact rfl) (by decide) (by decide) (Kk x.v)) rfl rfl rfl rfl ?_;change AU _ _ _ _ _ _ _ _;refine Qi [10] (by kernel_rfl) rfl ⟨.inl (QG rfl ?_),trivial⟩;refine Xh hN2 (QU rfl rfl rfl rfl Ql i rfl hii) rfl rfl rfl rfl ?_;change AU _ _ _ _ _ _ _ _;refine Qi [11] (by kernel_rfl) rfl ⟨.inl (QG rfl ?_),trivial⟩;refine Xh hN2 (XJ rfl rfl rfl Ql QV i rfl (JG hvs2) (fun _=>rfl) rfl) rfl rfl rfl rfl ?_;change AU _ _ _ _ _ _ _ _
        refine Qi [15] (by kernel_rfl) rfl ⟨.inr (.inr (Qk hN2 rfl rfl rfl hI (by simp) rfl rfl (QN XS _) (by simp;omega) rfl rfl rfl rfl ?_)),trivial⟩;change AU _ _ _ _ _ _ _ _;refine Qi [16] (by kernel_rfl) rfl ⟨.inl (QG rfl ?_),trivial⟩;refine Xh hN2 (QU rfl rfl rfl ((Qe _ _ QH).trans rfl) Ql i rfl hii) rfl rfl rfl rfl ?_;change AU _ _ _ _ _ _ _ _
        refine Qi [17] (by kernel_rfl) rfl ⟨.inr (.inl (Q5 rfl rfl rfl ((Qe _ _ QH).trans rfl) Ql i rfl (by rw[←Ql];exact hii) rfl (QP (Qp _ _ _) (by simp)) rfl rfl QV rfl rfl rfl rfl ?_)),trivial⟩;change AU _ _ _ _ _ _ _ _;refine yD ?_
        exact XC (mμ 10) (Q6 (b:=10) (by decide)) (Q6 (b:=10) (by decide)) (c:=({ (c.mid i (QB l s p x.v).1) with ins:=(c.mid i (QB l s p x.v).1).ins.set i (vs++[x.v]) }:Cl)) hok3 (Yh (b:=10) (by decide) Wv hii (by first|rfl|exact(Qe _ _ QH).trans rfl) (by first|exact Qp _ _ _|(rw[Qe _ _ QH.symm,Qp,←List.map_append])) (fun j hj h4 hi5=>by have hi2:Qf=1000000:=rfl;have e4:mμ 10 4=Qf+4:=rfl;have e30:mμ 10 (30+i)=Qf+(30+i):=Ka;repeat (first|rfl|rw[Qe _ _ (by(try rw[e4]);(try rw[e30]);unfold mμ;split<;>omega)]))) [] 1 (by decide) (by decide) (Kd (by decide)) (Kf (by decide) (by decide)) rfl trivial ⟨rfl,rfl,rfl,rfl,rfl,rfl,trivial⟩
       refine Xh hN2 (XH rfl rfl rfl rfl (by exact rfl) (by decide) (by decide) (Kk x.v)) rfl rfl rfl rfl ?_;change AU _ _ _ _ _ _ _ _;refine Qi [8] (by kernel_rfl) rfl ⟨.inl (QG rfl ?_),trivial⟩;refine Xh hN2 (Xc rfl rfl rfl rfl rfl) rfl rfl rfl rfl ?_;change AU _ _ _ _ _ _ _ _;refine Qi [10] (by kernel_rfl) rfl ⟨.inl (QG rfl ?_),trivial⟩;refine Xh hN2 (QU rfl rfl rfl rfl Ql i rfl hii) rfl rfl rfl rfl ?_;change AU _ _ _ _ _ _ _ _;refine Qi [11] (by kernel_rfl) rfl ⟨.inl (QG rfl ?_),trivial⟩
       refine Xh hN2 (XJ rfl rfl rfl Ql QV i rfl (JG hvs2) (fun _=>rfl) rfl) rfl rfl rfl rfl ?_;change AU _ _ _ _ _ _ _ _;refine Qi [15] (by kernel_rfl) rfl ⟨.inr (.inr (Qk hN2 rfl rfl rfl hI (by simp) rfl rfl (QN XS _) (by simp;omega) rfl rfl rfl rfl ?_)),trivial⟩;change AU _ _ _ _ _ _ _ _;refine Qi [16] (by kernel_rfl) rfl ⟨.inl (QG rfl ?_),trivial⟩;refine Xh hN2 (QU rfl rfl rfl ((Qe _ _ QH).trans rfl) Ql i rfl hii) rfl rfl rfl rfl ?_;change AU _ _ _ _ _ _ _ _
       refine Qi [17] (by kernel_rfl) rfl ⟨.inr (.inl (Q5 rfl rfl rfl ((Qe _ _ QH).trans rfl) Ql i rfl (by rw[←Ql];exact hii) rfl (QP (Qp _ _ _) (by simp)) rfl rfl QV rfl rfl rfl rfl ?_)),trivial⟩;change AU _ _ _ _ _ _ _ _;refine yD ?_
       exact XC (mμ 10) (Q6 (b:=10) (by decide)) (Q6 (b:=10) (by decide)) (c:=({ (c.mid i (QB l s p x.v).1) with ins:=(c.mid i (QB l s p x.v).1).ins.set i (vs++[x.v]) }:Cl)) hok3 (Yh (b:=10) (by decide) Wv hii (by first|rfl|exact(Qe _ _ QH).trans rfl) (by first|exact Qp _ _ _|(rw[Qe _ _ QH.symm,Qp,←List.map_append])) (fun j hj h4 hi5=>by have hi2:Qf=1000000:=rfl;have e4:mμ 10 4=Qf+4:=rfl;have e30:mμ 10 (30+i)=Qf+(30+i):=Ka;repeat (first|rfl|rw[Qe _ _ (by(try rw[e4]);(try rw[e30]);unfold mμ;split<;>omega)]))) [] 1 (by decide) (by decide) (Kd (by decide)) (Kf (by decide) (by decide)) rfl trivial ⟨rfl,rfl,rfl,rfl,rfl,rfl,trivial⟩
      ·refine Xh hN2 (Xc rfl rfl rfl rfl rfl) rfl rfl rfl rfl ?_;change AU _ _ _ _ _ _ _ _;refine Qi [3,10,14] (by kernel_rfl) rfl ⟨.inl (QG rfl ?_),.inl (QG rfl ?_),.inl (QG rfl ?_),trivial⟩
       ·refine Xh hN2 ((by first|exact Xc rfl rfl rfl rfl rfl|exact Xc rfl rfl (Jt ((Qe _ _ KD).trans rfl)) rfl rfl)) rfl rfl rfl rfl ?_;change AU _ _ _ _ _ _ _ _;refine Qi [10,14] (by kernel_rfl) rfl ⟨.inl (QG rfl ?_),.inl (QG rfl ?_),trivial⟩
        ·refine Xh hN2 (QU rfl rfl rfl rfl Ql i rfl hii) rfl rfl rfl rfl ?_;change AU _ _ _ _ _ _ _ _;refine Qi [11,14] (by kernel_rfl) rfl ⟨.inl (QG rfl ?_),.inl (QG rfl ?_),trivial⟩
         ·refine Xh hN2 (XJ rfl rfl rfl Ql QV i rfl (JG hvs2) (fun _=>rfl) rfl) rfl rfl rfl rfl ?_;change AU _ _ _ _ _ _ _ _;refine Qi [14] (by kernel_rfl) rfl ⟨.inl (QG rfl ?_),trivial⟩;refine Xh hN2 (XH rfl rfl rfl rfl (by exact rfl) (by decide) (by decide) (Kk x.v)) rfl rfl rfl rfl ?_;change AU _ _ _ _ _ _ _ _;refine Qi [15] (by kernel_rfl) rfl ⟨.inr (.inr (Qk hN2 rfl rfl rfl hI (by simp) rfl rfl (QN XS _) (by simp;omega) rfl rfl rfl rfl ?_)),trivial⟩;change AU _ _ _ _ _ _ _ _
          refine Qi [16] (by kernel_rfl) rfl ⟨.inl (QG rfl ?_),trivial⟩;refine Xh hN2 (QU rfl rfl rfl ((Qe _ _ QH).trans rfl) Ql i rfl hii) rfl rfl rfl rfl ?_;change AU _ _ _ _ _ _ _ _;refine Qi [17] (by kernel_rfl) rfl ⟨.inr (.inl (Q5 rfl rfl rfl ((Qe _ _ QH).trans rfl) Ql i rfl (by rw[←Ql];exact hii) rfl (QP (Qp _ _ _) (by simp)) rfl rfl QV rfl rfl rfl rfl ?_)),trivial⟩;change AU _ _ _ _ _ _ _ _;refine yD ?_
          exact XC (mμ 10) (Q6 (b:=10) (by decide)) (Q6 (b:=10) (by decide)) (c:=({ (c.mid i (QB l s p x.v).1) with ins:=(c.mid i (QB l s p x.v).1).ins.set i (vs++[x.v]) }:Cl)) hok3 (Yh (b:=10) (by decide) Wv hii (by first|rfl|exact(Qe _ _ QH).trans rfl) (by first|exact Qp _ _ _|(rw[Qe _ _ QH.symm,Qp,←List.map_append])) (fun j hj h4 hi5=>by have hi2:Qf=1000000:=rfl;have e4:mμ 10 4=Qf+4:=rfl;have e30:mμ 10 (30+i)=Qf+(30+i):=Ka;repeat (first|rfl|rw[Qe _ _ (by(try rw[e4]);(try rw[e30]);unfold mμ;split<;>omega)]))) [] 1 (by decide) (by decide) (Kd (by decide)) (Kf (by decide) (by decide)) rfl trivial ⟨rfl,rfl,rfl,rfl,rfl,rfl,trivial⟩
         refine Xh hN2 (XH rfl rfl rfl rfl (by exact rfl) (by decide) (by decide) (Kk x.v)) rfl rfl rfl rfl ?_;change AU _ _ _ _ _ _ _ _;refine Qi [11] (by kernel_rfl) rfl ⟨.inl (QG rfl ?_),trivial⟩;refine Xh hN2 (XJ rfl rfl rfl Ql QV i rfl (JG hvs2) (fun _=>rfl) rfl) rfl rfl rfl rfl ?_;change AU _ _ _ _ _ _ _ _;refine Qi [15] (by kernel_rfl) rfl ⟨.inr (.inr (Qk hN2 rfl rfl rfl hI (by simp) rfl rfl (QN XS _) (by simp;omega) rfl rfl rfl rfl ?_)),trivial⟩;change AU _ _ _ _ _ _ _ _
         refine Qi [16] (by kernel_rfl) rfl ⟨.inl (QG rfl ?_),trivial⟩;refine Xh hN2 (QU rfl rfl rfl ((Qe _ _ QH).trans rfl) Ql i rfl hii) rfl rfl rfl rfl ?_;change AU _ _ _ _ _ _ _ _;refine Qi [17] (by kernel_rfl) rfl ⟨.inr (.inl (Q5 rfl rfl rfl ((Qe _ _ QH).trans rfl) Ql i rfl (by rw[←Ql];exact hii) rfl (QP (Qp _ _ _) (by simp)) rfl rfl QV rfl rfl rfl rfl ?_)),trivial⟩;change AU _ _ _ _ _ _ _ _;refine yD ?_
         exact XC (mμ 10) (Q6 (b:=10) (by decide)) (Q6 (b:=10) (by decide)) (c:=({ (c.mid i (QB l s p x.v).1) with ins:=(c.mid i (QB l s p x.v).1).ins.set i (vs++[x.v]) }:Cl)) hok3 (Yh (b:=10) (by decide) Wv hii (by first|rfl|exact(Qe _ _ QH).trans rfl) (by first|exact Qp _ _ _|(rw[Qe _ _ QH.symm,Qp,←List.map_append])) (fun j hj h4 hi5=>by have hi2:Qf=1000000:=rfl;have e4:mμ 10 4=Qf+4:=rfl;have e30:mμ 10 (30+i)=Qf+(30+i):=Ka;repeat (first|rfl|rw[Qe _ _ (by(try rw[e4]);(try rw[e30]);unfold mμ;split<;>omega)]))) [] 1 (by decide) (by decide) (Kd (by decide)) (Kf (by decide) (by decide)) rfl trivial ⟨rfl,rfl,rfl,rfl,rfl,rfl,trivial⟩
        refine Xh hN2 (XH rfl rfl rfl rfl (by exact rfl) (by decide) (by decide) (Kk x.v)) rfl rfl rfl rfl ?_;change AU _ _ _ _ _ _ _ _;refine Qi [10] (by kernel_rfl) rfl ⟨.inl (QG rfl ?_),trivial⟩;refine Xh hN2 (QU rfl rfl rfl rfl Ql i rfl hii) rfl rfl rfl rfl ?_;change AU _ _ _ _ _ _ _ _;refine Qi [11] (by kernel_rfl) rfl ⟨.inl (QG rfl ?_),trivial⟩;refine Xh hN2 (XJ rfl rfl rfl Ql QV i rfl (JG hvs2) (fun _=>rfl) rfl) rfl rfl rfl rfl ?_;change AU _ _ _ _ _ _ _ _
        refine Qi [15] (by kernel_rfl) rfl ⟨.inr (.inr (Qk hN2 rfl rfl rfl hI (by simp) rfl rfl (QN XS _) (by simp;omega) rfl rfl rfl rfl ?_)),trivial⟩;change AU _ _ _ _ _ _ _ _;refine Qi [16] (by kernel_rfl) rfl ⟨.inl (QG rfl ?_),trivial⟩;refine Xh hN2 (QU rfl rfl rfl ((Qe _ _ QH).trans rfl) Ql i rfl hii) rfl rfl rfl rfl ?_;change AU _ _ _ _ _ _ _ _
        refine Qi [17] (by kernel_rfl) rfl ⟨.inr (.inl (Q5 rfl rfl rfl ((Qe _ _ QH).trans rfl) Ql i rfl (by rw[←Ql];exact hii) rfl (QP (Qp _ _ _) (by simp)) rfl rfl QV rfl rfl rfl rfl ?_)),trivial⟩;change AU _ _ _ _ _ _ _ _;refine yD ?_
        exact XC (mμ 10) (Q6 (b:=10) (by decide)) (Q6 (b:=10) (by decide)) (c:=({ (c.mid i (QB l s p x.v).1) with ins:=(c.mid i (QB l s p x.v).1).ins.set i (vs++[x.v]) }:Cl)) hok3 (Yh (b:=10) (by decide) Wv hii (by first|rfl|exact(Qe _ _ QH).trans rfl) (by first|exact Qp _ _ _|(rw[Qe _ _ QH.symm,Qp,←List.map_append])) (fun j hj h4 hi5=>by have hi2:Qf=1000000:=rfl;have e4:mμ 10 4=Qf+4:=rfl;have e30:mμ 10 (30+i)=Qf+(30+i):=Ka;repeat (first|rfl|rw[Qe _ _ (by(try rw[e4]);(try rw[e30]);unfold mμ;split<;>omega)]))) [] 1 (by decide) (by decide) (Kd (by decide)) (Kf (by decide) (by decide)) rfl trivial ⟨rfl,rfl,rfl,rfl,rfl,rfl,trivial⟩
       ·refine Xh hN2 (QU rfl rfl rfl rfl Ql i rfl hii) rfl rfl rfl rfl ?_;change AU _ _ _ _ _ _ _ _;refine Qi [3,11,14] (by kernel_rfl) rfl ⟨.inl (QG rfl ?_),.inl (QG rfl ?_),.inl (QG rfl ?_),trivial⟩
        ·refine Xh hN2 ((by first|exact Xc rfl rfl rfl rfl rfl|exact Xc rfl rfl (Jt ((Qe _ _ KD).trans rfl)) rfl rfl)) rfl rfl rfl rfl ?_;change AU _ _ _ _ _ _ _ _;refine Qi [11,14] (by kernel_rfl) rfl ⟨.inl (QG rfl ?_),.inl (QG rfl ?_),trivial⟩
         ·refine Xh hN2 (XJ rfl rfl rfl Ql QV i rfl (JG hvs2) (fun _=>rfl) rfl) rfl rfl rfl rfl ?_;change AU _ _ _ _ _ _ _ _;refine Qi [14] (by kernel_rfl) rfl ⟨.inl (QG rfl ?_),trivial⟩;refine Xh hN2 (XH rfl rfl rfl rfl (by exact rfl) (by decide) (by decide) (Kk x.v)) rfl rfl rfl rfl ?_;change AU _ _ _ _ _ _ _ _;refine Qi [15] (by kernel_rfl) rfl ⟨.inr (.inr (Qk hN2 rfl rfl rfl hI (by simp) rfl rfl (QN XS _) (by simp;omega) rfl rfl rfl rfl ?_)),trivial⟩;change AU _ _ _ _ _ _ _ _
          refine Qi [16] (by kernel_rfl) rfl ⟨.inl (QG rfl ?_),trivial⟩;refine Xh hN2 (QU rfl rfl rfl ((Qe _ _ QH).trans rfl) Ql i rfl hii) rfl rfl rfl rfl ?_;change AU _ _ _ _ _ _ _ _;refine Qi [17] (by kernel_rfl) rfl ⟨.inr (.inl (Q5 rfl rfl rfl ((Qe _ _ QH).trans rfl) Ql i rfl (by rw[←Ql];exact hii) rfl (QP (Qp _ _ _) (by simp)) rfl rfl QV rfl rfl rfl rfl ?_)),trivial⟩;change AU _ _ _ _ _ _ _ _;refine yD ?_
          exact XC (mμ 10) (Q6 (b:=10) (by decide)) (Q6 (b:=10) (by decide)) (c:=({ (c.mid i (QB l s p x.v).1) with ins:=(c.mid i (QB l s p x.v).1).ins.set i (vs++[x.v]) }:Cl)) hok3 (Yh (b:=10) (by decide) Wv hii (by first|rfl|exact(Qe _ _ QH).trans rfl) (by first|exact Qp _ _ _|(rw[Qe _ _ QH.symm,Qp,←List.map_append])) (fun j hj h4 hi5=>by have hi2:Qf=1000000:=rfl;have e4:mμ 10 4=Qf+4:=rfl;have e30:mμ 10 (30+i)=Qf+(30+i):=Ka;repeat (first|rfl|rw[Qe _ _ (by(try rw[e4]);(try rw[e30]);unfold mμ;split<;>omega)]))) [] 1 (by decide) (by decide) (Kd (by decide)) (Kf (by decide) (by decide)) rfl trivial ⟨rfl,rfl,rfl,rfl,rfl,rfl,trivial⟩
         refine Xh hN2 (XH rfl rfl rfl rfl (by exact rfl) (by decide) (by decide) (Kk x.v)) rfl rfl rfl rfl ?_;change AU _ _ _ _ _ _ _ _;refine Qi [11] (by kernel_rfl) rfl ⟨.inl (QG rfl ?_),trivial⟩;refine Xh hN2 (XJ rfl rfl rfl Ql QV i rfl (JG hvs2) (fun _=>rfl) rfl) rfl rfl rfl rfl ?_;change AU _ _ _ _ _ _ _ _;refine Qi [15] (by kernel_rfl) rfl ⟨.inr (.inr (Qk hN2 rfl rfl rfl hI (by simp) rfl rfl (QN XS _) (by simp;omega) rfl rfl rfl rfl ?_)),trivial⟩;change AU _ _ _ _ _ _ _ _
         refine Qi [16] (by kernel_rfl) rfl ⟨.inl (QG rfl ?_),trivial⟩;refine Xh hN2 (QU rfl rfl rfl ((Qe _ _ QH).trans rfl) Ql i rfl hii) rfl rfl rfl rfl ?_;change AU _ _ _ _ _ _ _ _;refine Qi [17] (by kernel_rfl) rfl ⟨.inr (.inl (Q5 rfl rfl rfl ((Qe _ _ QH).trans rfl) Ql i rfl (by rw[←Ql];exact hii) rfl (QP (Qp _ _ _) (by simp)) rfl rfl QV rfl rfl rfl rfl ?_)),trivial⟩;change AU _ _ _ _ _ _ _ _;refine yD ?_
         exact XC (mμ 10) (Q6 (b:=10) (by decide)) (Q6 (b:=10) (by decide)) (c:=({ (c.mid i (QB l s p x.v).1) with ins:=(c.mid i (QB l s p x.v).1).ins.set i (vs++[x.v]) }:Cl)) hok3 (Yh (b:=10) (by decide) Wv hii (by first|rfl|exact(Qe _ _ QH).trans rfl) (by first|exact Qp _ _ _|(rw[Qe _ _ QH.symm,Qp,←List.map_append])) (fun j hj h4 hi5=>by have hi2:Qf=1000000:=rfl;have e4:mμ 10 4=Qf+4:=rfl;have e30:mμ 10 (30+i)=Qf+(30+i):=Ka;repeat (first|rfl|rw[Qe _ _ (by(try rw[e4]);(try rw[e30]);unfold mμ;split<;>omega)]))) [] 1 (by decide) (by decide) (Kd (by decide)) (Kf (by decide) (by decide)) rfl trivial ⟨rfl,rfl,rfl,rfl,rfl,rfl,trivial⟩
        ·refine Xh hN2 (XJ rfl rfl rfl Ql QV i rfl (JG hvs2) (fun _=>rfl) rfl) rfl rfl rfl rfl ?_;change AU _ _ _ _ _ _ _ _;refine Qi [3,14] (by kernel_rfl) rfl ⟨.inl (QG rfl ?_),.inl (QG rfl ?_),trivial⟩
         ·refine Xh hN2 ((by first|exact Xc rfl rfl rfl rfl rfl|exact Xc rfl rfl (Jt ((Qe _ _ KD).trans rfl)) rfl rfl)) rfl rfl rfl rfl ?_;change AU _ _ _ _ _ _ _ _;refine Qi [14] (by kernel_rfl) rfl ⟨.inl (QG rfl ?_),trivial⟩;refine Xh hN2 (XH rfl rfl rfl rfl (by exact rfl) (by decide) (by decide) (Kk x.v)) rfl rfl rfl rfl ?_;change AU _ _ _ _ _ _ _ _;refine Qi [15] (by kernel_rfl) rfl ⟨.inr (.inr (Qk hN2 rfl rfl rfl hI (by simp) rfl rfl (QN XS _) (by simp;omega) rfl rfl rfl rfl ?_)),trivial⟩;change AU _ _ _ _ _ _ _ _
          refine Qi [16] (by kernel_rfl) rfl ⟨.inl (QG rfl ?_),trivial⟩;refine Xh hN2 (QU rfl rfl rfl ((Qe _ _ QH).trans rfl) Ql i rfl hii) rfl rfl rfl rfl ?_;change AU _ _ _ _ _ _ _ _;refine Qi [17] (by kernel_rfl) rfl ⟨.inr (.inl (Q5 rfl rfl rfl ((Qe _ _ QH).trans rfl) Ql i rfl (by rw[←Ql];exact hii) rfl (QP (Qp _ _ _) (by simp)) rfl rfl QV rfl rfl rfl rfl ?_)),trivial⟩;change AU _ _ _ _ _ _ _ _;refine yD ?_
          exact XC (mμ 10) (Q6 (b:=10) (by decide)) (Q6 (b:=10) (by decide)) (c:=({ (c.mid i (QB l s p x.v).1) with ins:=(c.mid i (QB l s p x.v).1).ins.set i (vs++[x.v]) }:Cl)) hok3 (Yh (b:=10) (by decide) Wv hii (by first|rfl|exact(Qe _ _ QH).trans rfl) (by first|exact Qp _ _ _|(rw[Qe _ _ QH.symm,Qp,←List.map_append])) (fun j hj h4 hi5=>by have hi2:Qf=1000000:=rfl;have e4:mμ 10 4=Qf+4:=rfl;have e30:mμ 10 (30+i)=Qf+(30+i):=Ka;repeat (first|rfl|rw[Qe _ _ (by(try rw[e4]);(try rw[e30]);unfold mμ;split<;>omega)]))) [] 1 (by decide) (by decide) (Kd (by decide)) (Kf (by decide) (by decide)) rfl trivial ⟨rfl,rfl,rfl,rfl,rfl,rfl,trivial⟩
         refine Xh hN2 (XH rfl rfl rfl rfl (by exact rfl) (by decide) (by decide) (Kk x.v)) rfl rfl rfl rfl ?_;change AU _ _ _ _ _ _ _ _;refine Qi [3,15] (by kernel_rfl) rfl ⟨.inl (QG rfl ?_),.inr (.inr (Qk hN2 rfl rfl rfl hI (by simp) rfl rfl (QN XS _) (by simp;omega) rfl rfl rfl rfl ?_)),trivial⟩
         ·refine Xh hN2 ((by first|exact Xc rfl rfl rfl rfl rfl|exact Xc rfl rfl (Jt ((Qe _ _ KD).trans rfl)) rfl rfl)) rfl rfl rfl rfl ?_;change AU _ _ _ _ _ _ _ _;refine Qi [15] (by kernel_rfl) rfl ⟨.inr (.inr (Qk hN2 rfl rfl rfl hI (by simp) rfl rfl (QN XS _) (by simp;omega) rfl rfl rfl rfl ?_)),trivial⟩;change AU _ _ _ _ _ _ _ _;refine Qi [16] (by kernel_rfl) rfl ⟨.inl (QG rfl ?_),trivial⟩;refine Xh hN2 (QU rfl rfl rfl ((Qe _ _ QH).trans rfl) Ql i rfl hii) rfl rfl rfl rfl ?_;change AU _ _ _ _ _ _ _ _
          refine Qi [17] (by kernel_rfl) rfl ⟨.inr (.inl (Q5 rfl rfl rfl ((Qe _ _ QH).trans rfl) Ql i rfl (by rw[←Ql];exact hii) rfl (QP (Qp _ _ _) (by simp)) rfl rfl QV rfl rfl rfl rfl ?_)),trivial⟩;change AU _ _ _ _ _ _ _ _;refine yD ?_
          exact XC (mμ 10) (Q6 (b:=10) (by decide)) (Q6 (b:=10) (by decide)) (c:=({ (c.mid i (QB l s p x.v).1) with ins:=(c.mid i (QB l s p x.v).1).ins.set i (vs++[x.v]) }:Cl)) hok3 (Yh (b:=10) (by decide) Wv hii (by first|rfl|exact(Qe _ _ QH).trans rfl) (by first|exact Qp _ _ _|(rw[Qe _ _ QH.symm,Qp,←List.map_append])) (fun j hj h4 hi5=>by have hi2:Qf=1000000:=rfl;have e4:mμ 10 4=Qf+4:=rfl;have e30:mμ 10 (30+i)=Qf+(30+i):=Ka;repeat (first|rfl|rw[Qe _ _ (by(try rw[e4]);(try rw[e30]);unfold mμ;split<;>omega)]))) [] 1 (by decide) (by decide) (Kd (by decide)) (Kf (by decide) (by decide)) rfl trivial ⟨rfl,rfl,rfl,rfl,rfl,rfl,trivial⟩
         change AU _ _ _ _ _ _ _ _;refine Qi [3] (by kernel_rfl) rfl ⟨.inl (QG rfl ?_),trivial⟩;refine Xh hN2 ((by first|exact Xc rfl rfl rfl rfl rfl|exact Xc rfl rfl (Jt ((Qe _ _ KD).trans rfl)) rfl rfl)) rfl rfl rfl rfl ?_;change AU _ _ _ _ _ _ _ _;refine Qi [16] (by kernel_rfl) rfl ⟨.inl (QG rfl ?_),trivial⟩;refine Xh hN2 (QU rfl rfl rfl ((Qe _ _ QH).trans rfl) Ql i rfl hii) rfl rfl rfl rfl ?_;change AU _ _ _ _ _ _ _ _
         refine Qi [17] (by kernel_rfl) rfl ⟨.inr (.inl (Q5 rfl rfl rfl ((Qe _ _ QH).trans rfl) Ql i rfl (by rw[←Ql];exact hii) rfl (QP (Qp _ _ _) (by simp)) rfl rfl QV rfl rfl rfl rfl ?_)),trivial⟩;change AU _ _ _ _ _ _ _ _;refine yD ?_
         exact XC (mμ 10) (Q6 (b:=10) (by decide)) (Q6 (b:=10) (by decide)) (c:=({ (c.mid i (QB l s p x.v).1) with ins:=(c.mid i (QB l s p x.v).1).ins.set i (vs++[x.v]) }:Cl)) hok3 (Yh (b:=10) (by decide) Wv hii (by first|rfl|exact(Qe _ _ QH).trans rfl) (by first|exact Qp _ _ _|(rw[Qe _ _ QH.symm,Qp,←List.map_append])) (fun j hj h4 hi5=>by have hi2:Qf=1000000:=rfl;have e4:mμ 10 4=Qf+4:=rfl;have e30:mμ 10 (30+i)=Qf+(30+i):=Ka;repeat (first|rfl|rw[Qe _ _ (by(try rw[e4]);(try rw[e30]);unfold mμ;split<;>omega)]))) [] 1 (by decide) (by decide) (Kd (by decide)) (Kf (by decide) (by decide)) rfl trivial ⟨rfl,rfl,rfl,rfl,rfl,rfl,trivial⟩
        refine Xh hN2 (XH rfl rfl rfl rfl (by exact rfl) (by decide) (by decide) (Kk x.v)) rfl rfl rfl rfl ?_;change AU _ _ _ _ _ _ _ _;refine Qi [3,11] (by kernel_rfl) rfl ⟨.inl (QG rfl ?_),.inl (QG rfl ?_),trivial⟩
        ·refine Xh hN2 ((by first|exact Xc rfl rfl rfl rfl rfl|exact Xc rfl rfl (Jt ((Qe _ _ KD).trans rfl)) rfl rfl)) rfl rfl rfl rfl ?_;change AU _ _ _ _ _ _ _ _;refine Qi [11] (by kernel_rfl) rfl ⟨.inl (QG rfl ?_),trivial⟩;refine Xh hN2 (XJ rfl rfl rfl Ql QV i rfl (JG hvs2) (fun _=>rfl) rfl) rfl rfl rfl rfl ?_;change AU _ _ _ _ _ _ _ _;refine Qi [15] (by kernel_rfl) rfl ⟨.inr (.inr (Qk hN2 rfl rfl rfl hI (by simp) rfl rfl (QN XS _) (by simp;omega) rfl rfl rfl rfl ?_)),trivial⟩;change AU _ _ _ _ _ _ _ _
         refine Qi [16] (by kernel_rfl) rfl ⟨.inl (QG rfl ?_),trivial⟩;refine Xh hN2 (QU rfl rfl rfl ((Qe _ _ QH).trans rfl) Ql i rfl hii) rfl rfl rfl rfl ?_;change AU _ _ _ _ _ _ _ _;refine Qi [17] (by kernel_rfl) rfl ⟨.inr (.inl (Q5 rfl rfl rfl ((Qe _ _ QH).trans rfl) Ql i rfl (by rw[←Ql];exact hii) rfl (QP (Qp _ _ _) (by simp)) rfl rfl QV rfl rfl rfl rfl ?_)),trivial⟩;change AU _ _ _ _ _ _ _ _;refine yD ?_
         exact XC (mμ 10) (Q6 (b:=10) (by decide)) (Q6 (b:=10) (by decide)) (c:=({ (c.mid i (QB l s p x.v).1) with ins:=(c.mid i (QB l s p x.v).1).ins.set i (vs++[x.v]) }:Cl)) hok3 (Yh (b:=10) (by decide) Wv hii (by first|rfl|exact(Qe _ _ QH).trans rfl) (by first|exact Qp _ _ _|(rw[Qe _ _ QH.symm,Qp,←List.map_append])) (fun j hj h4 hi5=>by have hi2:Qf=1000000:=rfl;have e4:mμ 10 4=Qf+4:=rfl;have e30:mμ 10 (30+i)=Qf+(30+i):=Ka;repeat (first|rfl|rw[Qe _ _ (by(try rw[e4]);(try rw[e30]);unfold mμ;split<;>omega)]))) [] 1 (by decide) (by decide) (Kd (by decide)) (Kf (by decide) (by decide)) rfl trivial ⟨rfl,rfl,rfl,rfl,rfl,rfl,trivial⟩
        refine Xh hN2 (XJ rfl rfl rfl Ql QV i rfl (JG hvs2) (fun _=>rfl) rfl) rfl rfl rfl rfl ?_;change AU _ _ _ _ _ _ _ _;refine Qi [3,15] (by kernel_rfl) rfl ⟨.inl (QG rfl ?_),.inr (.inr (Qk hN2 rfl rfl rfl hI (by simp) rfl rfl (QN XS _) (by simp;omega) rfl rfl rfl rfl ?_)),trivial⟩
        ·refine Xh hN2 ((by first|exact Xc rfl rfl rfl rfl rfl|exact Xc rfl rfl (Jt ((Qe _ _ KD).trans rfl)) rfl rfl)) rfl rfl rfl rfl ?_;change AU _ _ _ _ _ _ _ _;refine Qi [15] (by kernel_rfl) rfl ⟨.inr (.inr (Qk hN2 rfl rfl rfl hI (by simp) rfl rfl (QN XS _) (by simp;omega) rfl rfl rfl rfl ?_)),trivial⟩;change AU _ _ _ _ _ _ _ _;refine Qi [16] (by kernel_rfl) rfl ⟨.inl (QG rfl ?_),trivial⟩;refine Xh hN2 (QU rfl rfl rfl ((Qe _ _ QH).trans rfl) Ql i rfl hii) rfl rfl rfl rfl ?_;change AU _ _ _ _ _ _ _ _
         refine Qi [17] (by kernel_rfl) rfl ⟨.inr (.inl (Q5 rfl rfl rfl ((Qe _ _ QH).trans rfl) Ql i rfl (by rw[←Ql];exact hii) rfl (QP (Qp _ _ _) (by simp)) rfl rfl QV rfl rfl rfl rfl ?_)),trivial⟩;change AU _ _ _ _ _ _ _ _;refine yD ?_
         exact XC (mμ 10) (Q6 (b:=10) (by decide)) (Q6 (b:=10) (by decide)) (c:=({ (c.mid i (QB l s p x.v).1) with ins:=(c.mid i (QB l s p x.v).1).ins.set i (vs++[x.v]) }:Cl)) hok3 (Yh (b:=10) (by decide) Wv hii (by first|rfl|exact(Qe _ _ QH).trans rfl) (by first|exact Qp _ _ _|(rw[Qe _ _ QH.symm,Qp,←List.map_append])) (fun j hj h4 hi5=>by have hi2:Qf=1000000:=rfl;have e4:mμ 10 4=Qf+4:=rfl;have e30:mμ 10 (30+i)=Qf+(30+i):=Ka;repeat (first|rfl|rw[Qe _ _ (by(try rw[e4]);(try rw[e30]);unfold mμ;split<;>omega)]))) [] 1 (by decide) (by decide) (Kd (by decide)) (Kf (by decide) (by decide)) rfl trivial ⟨rfl,rfl,rfl,rfl,rfl,rfl,trivial⟩
        change AU _ _ _ _ _ _ _ _;refine Qi [3] (by kernel_rfl) rfl ⟨.inl (QG rfl ?_),trivial⟩;refine Xh hN2 ((by first|exact Xc rfl rfl rfl rfl rfl|exact Xc rfl rfl (Jt ((Qe _ _ KD).trans rfl)) rfl rfl)) rfl rfl rfl rfl ?_;change AU _ _ _ _ _ _ _ _;refine Qi [16] (by kernel_rfl) rfl ⟨.inl (QG rfl ?_),trivial⟩;refine Xh hN2 (QU rfl rfl rfl ((Qe _ _ QH).trans rfl) Ql i rfl hii) rfl rfl rfl rfl ?_;change AU _ _ _ _ _ _ _ _
        refine Qi [17] (by kernel_rfl) rfl ⟨.inr (.inl (Q5 rfl rfl rfl ((Qe _ _ QH).trans rfl) Ql i rfl (by rw[←Ql];exact hii) rfl (QP (Qp _ _ _) (by simp)) rfl rfl QV rfl rfl rfl rfl ?_)),trivial⟩;change AU _ _ _ _ _ _ _ _;refine yD ?_
        exact XC (mμ 10) (Q6 (b:=10) (by decide)) (Q6 (b:=10) (by decide)) (c:=({ (c.mid i (QB l s p x.v).1) with ins:=(c.mid i (QB l s p x.v).1).ins.set i (vs++[x.v]) }:Cl)) hok3 (Yh (b:=10) (by decide) Wv hii (by first|rfl|exact(Qe _ _ QH).trans rfl) (by first|exact Qp _ _ _|(rw[Qe _ _ QH.symm,Qp,←List.map_append])) (fun j hj h4 hi5=>by have hi2:Qf=1000000:=rfl;have e4:mμ 10 4=Qf+4:=rfl;have e30:mμ 10 (30+i)=Qf+(30+i):=Ka;repeat (first|rfl|rw[Qe _ _ (by(try rw[e4]);(try rw[e30]);unfold mμ;split<;>omega)]))) [] 1 (by decide) (by decide) (Kd (by decide)) (Kf (by decide) (by decide)) rfl trivial ⟨rfl,rfl,rfl,rfl,rfl,rfl,trivial⟩
       refine Xh hN2 (XH rfl rfl rfl rfl (by exact rfl) (by decide) (by decide) (Kk x.v)) rfl rfl rfl rfl ?_;change AU _ _ _ _ _ _ _ _;refine Qi [3,10] (by kernel_rfl) rfl ⟨.inl (QG rfl ?_),.inl (QG rfl ?_),trivial⟩
       ·refine Xh hN2 ((by first|exact Xc rfl rfl rfl rfl rfl|exact Xc rfl rfl (Jt ((Qe _ _ KD).trans rfl)) rfl rfl)) rfl rfl rfl rfl ?_;change AU _ _ _ _ _ _ _ _;refine Qi [10] (by kernel_rfl) rfl ⟨.inl (QG rfl ?_),trivial⟩;refine Xh hN2 (QU rfl rfl rfl rfl Ql i rfl hii) rfl rfl rfl rfl ?_;change AU _ _ _ _ _ _ _ _;refine Qi [11] (by kernel_rfl) rfl ⟨.inl (QG rfl ?_),trivial⟩;refine Xh hN2 (XJ rfl rfl rfl Ql QV i rfl (JG hvs2) (fun _=>rfl) rfl) rfl rfl rfl rfl ?_;change AU _ _ _ _ _ _ _ _
        refine Qi [15] (by kernel_rfl) rfl ⟨.inr (.inr (Qk hN2 rfl rfl rfl hI (by simp) rfl rfl (QN XS _) (by simp;omega) rfl rfl rfl rfl ?_)),trivial⟩;change AU _ _ _ _ _ _ _ _;refine Qi [16] (by kernel_rfl) rfl ⟨.inl (QG rfl ?_),trivial⟩;refine Xh hN2 (QU rfl rfl rfl ((Qe _ _ QH).trans rfl) Ql i rfl hii) rfl rfl rfl rfl ?_;change AU _ _ _ _ _ _ _ _
        refine Qi [17] (by kernel_rfl) rfl ⟨.inr (.inl (Q5 rfl rfl rfl ((Qe _ _ QH).trans rfl) Ql i rfl (by rw[←Ql];exact hii) rfl (QP (Qp _ _ _) (by simp)) rfl rfl QV rfl rfl rfl rfl ?_)),trivial⟩;change AU _ _ _ _ _ _ _ _;refine yD ?_
        exact XC (mμ 10) (Q6 (b:=10) (by decide)) (Q6 (b:=10) (by decide)) (c:=({ (c.mid i (QB l s p x.v).1) with ins:=(c.mid i (QB l s p x.v).1).ins.set i (vs++[x.v]) }:Cl)) hok3 (Yh (b:=10) (by decide) Wv hii (by first|rfl|exact(Qe _ _ QH).trans rfl) (by first|exact Qp _ _ _|(rw[Qe _ _ QH.symm,Qp,←List.map_append])) (fun j hj h4 hi5=>by have hi2:Qf=1000000:=rfl;have e4:mμ 10 4=Qf+4:=rfl;have e30:mμ 10 (30+i)=Qf+(30+i):=Ka;repeat (first|rfl|rw[Qe _ _ (by(try rw[e4]);(try rw[e30]);unfold mμ;split<;>omega)]))) [] 1 (by decide) (by decide) (Kd (by decide)) (Kf (by decide) (by decide)) rfl trivial ⟨rfl,rfl,rfl,rfl,rfl,rfl,trivial⟩
       refine Xh hN2 (QU rfl rfl rfl rfl Ql i rfl hii) rfl rfl rfl rfl ?_;change AU _ _ _ _ _ _ _ _;refine Qi [3,11] (by kernel_rfl) rfl ⟨.inl (QG rfl ?_),.inl (QG rfl ?_),trivial⟩
       ·refine Xh hN2 ((by first|exact Xc rfl rfl rfl rfl rfl|exact Xc rfl rfl (Jt ((Qe _ _ KD).trans rfl)) rfl rfl)) rfl rfl rfl rfl ?_;change AU _ _ _ _ _ _ _ _;refine Qi [11] (by kernel_rfl) rfl ⟨.inl (QG rfl ?_),trivial⟩;refine Xh hN2 (XJ rfl rfl rfl Ql QV i rfl (JG hvs2) (fun _=>rfl) rfl) rfl rfl rfl rfl ?_;change AU _ _ _ _ _ _ _ _;refine Qi [15] (by kernel_rfl) rfl ⟨.inr (.inr (Qk hN2 rfl rfl rfl hI (by simp) rfl rfl (QN XS _) (by simp;omega) rfl rfl rfl rfl ?_)),trivial⟩;change AU _ _ _ _ _ _ _ _
        refine Qi [16] (by kernel_rfl) rfl ⟨.inl (QG rfl ?_),trivial⟩;refine Xh hN2 (QU rfl rfl rfl ((Qe _ _ QH).trans rfl) Ql i rfl hii) rfl rfl rfl rfl ?_;change AU _ _ _ _ _ _ _ _;refine Qi [17] (by kernel_rfl) rfl ⟨.inr (.inl (Q5 rfl rfl rfl ((Qe _ _ QH).trans rfl) Ql i rfl (by rw[←Ql];exact hii) rfl (QP (Qp _ _ _) (by simp)) rfl rfl QV rfl rfl rfl rfl ?_)),trivial⟩;change AU _ _ _ _ _ _ _ _;refine yD ?_
        exact XC (mμ 10) (Q6 (b:=10) (by decide)) (Q6 (b:=10) (by decide)) (c:=({ (c.mid i (QB l s p x.v).1) with ins:=(c.mid i (QB l s p x.v).1).ins.set i (vs++[x.v]) }:Cl)) hok3 (Yh (b:=10) (by decide) Wv hii (by first|rfl|exact(Qe _ _ QH).trans rfl) (by first|exact Qp _ _ _|(rw[Qe _ _ QH.symm,Qp,←List.map_append])) (fun j hj h4 hi5=>by have hi2:Qf=1000000:=rfl;have e4:mμ 10 4=Qf+4:=rfl;have e30:mμ 10 (30+i)=Qf+(30+i):=Ka;repeat (first|rfl|rw[Qe _ _ (by(try rw[e4]);(try rw[e30]);unfold mμ;split<;>omega)]))) [] 1 (by decide) (by decide) (Kd (by decide)) (Kf (by decide) (by decide)) rfl trivial ⟨rfl,rfl,rfl,rfl,rfl,rfl,trivial⟩
       refine Xh hN2 (XJ rfl rfl rfl Ql QV i rfl (JG hvs2) (fun _=>rfl) rfl) rfl rfl rfl rfl ?_;change AU _ _ _ _ _ _ _ _;refine Qi [3,15] (by kernel_rfl) rfl ⟨.inl (QG rfl ?_),.inr (.inr (Qk hN2 rfl rfl rfl hI (by simp) rfl rfl (QN XS _) (by simp;omega) rfl rfl rfl rfl ?_)),trivial⟩
       ·refine Xh hN2 ((by first|exact Xc rfl rfl rfl rfl rfl|exact Xc rfl rfl (Jt ((Qe _ _ KD).trans rfl)) rfl rfl)) rfl rfl rfl rfl ?_;change AU _ _ _ _ _ _ _ _;refine Qi [15] (by kernel_rfl) rfl ⟨.inr (.inr (Qk hN2 rfl rfl rfl hI (by simp) rfl rfl (QN XS _) (by simp;omega) rfl rfl rfl rfl ?_)),trivial⟩;change AU _ _ _ _ _ _ _ _;refine Qi [16] (by kernel_rfl) rfl ⟨.inl (QG rfl ?_),trivial⟩;refine Xh hN2 (QU rfl rfl rfl ((Qe _ _ QH).trans rfl) Ql i rfl hii) rfl rfl rfl rfl ?_;change AU _ _ _ _ _ _ _ _
        refine Qi [17] (by kernel_rfl) rfl ⟨.inr (.inl (Q5 rfl rfl rfl ((Qe _ _ QH).trans rfl) Ql i rfl (by rw[←Ql];exact hii) rfl (QP (Qp _ _ _) (by simp)) rfl rfl QV rfl rfl rfl rfl ?_)),trivial⟩;change AU _ _ _ _ _ _ _ _;refine yD ?_
        exact XC (mμ 10) (Q6 (b:=10) (by decide)) (Q6 (b:=10) (by decide)) (c:=({ (c.mid i (QB l s p x.v).1) with ins:=(c.mid i (QB l s p x.v).1).ins.set i (vs++[x.v]) }:Cl)) hok3 (Yh (b:=10) (by decide) Wv hii (by first|rfl|exact(Qe _ _ QH).trans rfl) (by first|exact Qp _ _ _|(rw[Qe _ _ QH.symm,Qp,←List.map_append])) (fun j hj h4 hi5=>by have hi2:Qf=1000000:=rfl;have e4:mμ 10 4=Qf+4:=rfl;have e30:mμ 10 (30+i)=Qf+(30+i):=Ka;repeat (first|rfl|rw[Qe _ _ (by(try rw[e4]);(try rw[e30]);unfold mμ;split<;>omega)]))) [] 1 (by decide) (by decide) (Kd (by decide)) (Kf (by decide) (by decide)) rfl trivial ⟨rfl,rfl,rfl,rfl,rfl,rfl,trivial⟩
       change AU _ _ _ _ _ _ _ _;refine Qi [3] (by kernel_rfl) rfl ⟨.inl (QG rfl ?_),trivial⟩;refine Xh hN2 ((by first|exact Xc rfl rfl rfl rfl rfl|exact Xc rfl rfl (Jt ((Qe _ _ KD).trans rfl)) rfl rfl)) rfl rfl rfl rfl ?_;change AU _ _ _ _ _ _ _ _;refine Qi [16] (by kernel_rfl) rfl ⟨.inl (QG rfl ?_),trivial⟩;refine Xh hN2 (QU rfl rfl rfl ((Qe _ _ QH).trans rfl) Ql i rfl hii) rfl rfl rfl rfl ?_;change AU _ _ _ _ _ _ _ _
       refine Qi [17] (by kernel_rfl) rfl ⟨.inr (.inl (Q5 rfl rfl rfl ((Qe _ _ QH).trans rfl) Ql i rfl (by rw[←Ql];exact hii) rfl (QP (Qp _ _ _) (by simp)) rfl rfl QV rfl rfl rfl rfl ?_)),trivial⟩;change AU _ _ _ _ _ _ _ _;refine yD ?_
       exact XC (mμ 10) (Q6 (b:=10) (by decide)) (Q6 (b:=10) (by decide)) (c:=({ (c.mid i (QB l s p x.v).1) with ins:=(c.mid i (QB l s p x.v).1).ins.set i (vs++[x.v]) }:Cl)) hok3 (Yh (b:=10) (by decide) Wv hii (by first|rfl|exact(Qe _ _ QH).trans rfl) (by first|exact Qp _ _ _|(rw[Qe _ _ QH.symm,Qp,←List.map_append])) (fun j hj h4 hi5=>by have hi2:Qf=1000000:=rfl;have e4:mμ 10 4=Qf+4:=rfl;have e30:mμ 10 (30+i)=Qf+(30+i):=Ka;repeat (first|rfl|rw[Qe _ _ (by(try rw[e4]);(try rw[e30]);unfold mμ;split<;>omega)]))) [] 1 (by decide) (by decide) (Kd (by decide)) (Kf (by decide) (by decide)) rfl trivial ⟨rfl,rfl,rfl,rfl,rfl,rfl,trivial⟩
      refine Xh hN2 (XH rfl rfl rfl rfl (by exact rfl) (by decide) (by decide) (Kk x.v)) rfl rfl rfl rfl ?_;change AU _ _ _ _ _ _ _ _;refine Qi [3,8] (by kernel_rfl) rfl ⟨.inl (QG rfl ?_),.inl (QG rfl ?_),trivial⟩
      ·refine Xh hN2 ((by first|exact Xc rfl rfl rfl rfl rfl|exact Xc rfl rfl (Jt ((Qe _ _ KD).trans rfl)) rfl rfl)) rfl rfl rfl rfl ?_;change AU _ _ _ _ _ _ _ _;refine Qi [8] (by kernel_rfl) rfl ⟨.inl (QG rfl ?_),trivial⟩;refine Xh hN2 (Xc rfl rfl rfl rfl rfl) rfl rfl rfl rfl ?_;change AU _ _ _ _ _ _ _ _;refine Qi [10] (by kernel_rfl) rfl ⟨.inl (QG rfl ?_),trivial⟩;refine Xh hN2 (QU rfl rfl rfl rfl Ql i rfl hii) rfl rfl rfl rfl ?_;change AU _ _ _ _ _ _ _ _;refine Qi [11] (by kernel_rfl) rfl ⟨.inl (QG rfl ?_),trivial⟩
       refine Xh hN2 (XJ rfl rfl rfl Ql QV i rfl (JG hvs2) (fun _=>rfl) rfl) rfl rfl rfl rfl ?_;change AU _ _ _ _ _ _ _ _;refine Qi [15] (by kernel_rfl) rfl ⟨.inr (.inr (Qk hN2 rfl rfl rfl hI (by simp) rfl rfl (QN XS _) (by simp;omega) rfl rfl rfl rfl ?_)),trivial⟩;change AU _ _ _ _ _ _ _ _;refine Qi [16] (by kernel_rfl) rfl ⟨.inl (QG rfl ?_),trivial⟩;refine Xh hN2 (QU rfl rfl rfl ((Qe _ _ QH).trans rfl) Ql i rfl hii) rfl rfl rfl rfl ?_;change AU _ _ _ _ _ _ _ _
       refine Qi [17] (by kernel_rfl) rfl ⟨.inr (.inl (Q5 rfl rfl rfl ((Qe _ _ QH).trans rfl) Ql i rfl (by rw[←Ql];exact hii) rfl (QP (Qp _ _ _) (by simp)) rfl rfl QV rfl rfl rfl rfl ?_)),trivial⟩;change AU _ _ _ _ _ _ _ _;refine yD ?_
       exact XC (mμ 10) (Q6 (b:=10) (by decide)) (Q6 (b:=10) (by decide)) (c:=({ (c.mid i (QB l s p x.v).1) with ins:=(c.mid i (QB l s p x.v).1).ins.set i (vs++[x.v]) }:Cl)) hok3 (Yh (b:=10) (by decide) Wv hii (by first|rfl|exact(Qe _ _ QH).trans rfl) (by first|exact Qp _ _ _|(rw[Qe _ _ QH.symm,Qp,←List.map_append])) (fun j hj h4 hi5=>by have hi2:Qf=1000000:=rfl;have e4:mμ 10 4=Qf+4:=rfl;have e30:mμ 10 (30+i)=Qf+(30+i):=Ka;repeat (first|rfl|rw[Qe _ _ (by(try rw[e4]);(try rw[e30]);unfold mμ;split<;>omega)]))) [] 1 (by decide) (by decide) (Kd (by decide)) (Kf (by decide) (by decide)) rfl trivial ⟨rfl,rfl,rfl,rfl,rfl,rfl,trivial⟩
      refine Xh hN2 (Xc rfl rfl rfl rfl rfl) rfl rfl rfl rfl ?_;change AU _ _ _ _ _ _ _ _;refine Qi [3,10] (by kernel_rfl) rfl ⟨.inl (QG rfl ?_),.inl (QG rfl ?_),trivial⟩
      ·refine Xh hN2 ((by first|exact Xc rfl rfl rfl rfl rfl|exact Xc rfl rfl (Jt ((Qe _ _ KD).trans rfl)) rfl rfl)) rfl rfl rfl rfl ?_;change AU _ _ _ _ _ _ _ _;refine Qi [10] (by kernel_rfl) rfl ⟨.inl (QG rfl ?_),trivial⟩;refine Xh hN2 (QU rfl rfl rfl rfl Ql i rfl hii) rfl rfl rfl rfl ?_;change AU _ _ _ _ _ _ _ _;refine Qi [11] (by kernel_rfl) rfl ⟨.inl (QG rfl ?_),trivial⟩;refine Xh hN2 (XJ rfl rfl rfl Ql QV i rfl (JG hvs2) (fun _=>rfl) rfl) rfl rfl rfl rfl ?_;change AU _ _ _ _ _ _ _ _
       refine Qi [15] (by kernel_rfl) rfl ⟨.inr (.inr (Qk hN2 rfl rfl rfl hI (by simp) rfl rfl (QN XS _) (by simp;omega) rfl rfl rfl rfl ?_)),trivial⟩;change AU _ _ _ _ _ _ _ _;refine Qi [16] (by kernel_rfl) rfl ⟨.inl (QG rfl ?_),trivial⟩;refine Xh hN2 (QU rfl rfl rfl ((Qe _ _ QH).trans rfl) Ql i rfl hii) rfl rfl rfl rfl ?_;change AU _ _ _ _ _ _ _ _
       refine Qi [17] (by kernel_rfl) rfl ⟨.inr (.inl (Q5 rfl rfl rfl ((Qe _ _ QH).trans rfl) Ql i rfl (by rw[←Ql];exact hii) rfl (QP (Qp _ _ _) (by simp)) rfl rfl QV rfl rfl rfl rfl ?_)),trivial⟩;change AU _ _ _ _ _ _ _ _;refine yD ?_
       exact XC (mμ 10) (Q6 (b:=10) (by decide)) (Q6 (b:=10) (by decide)) (c:=({ (c.mid i (QB l s p x.v).1) with ins:=(c.mid i (QB l s p x.v).1).ins.set i (vs++[x.v]) }:Cl)) hok3 (Yh (b:=10) (by decide) Wv hii (by first|rfl|exact(Qe _ _ QH).trans rfl) (by first|exact Qp _ _ _|(rw[Qe _ _ QH.symm,Qp,←List.map_append])) (fun j hj h4 hi5=>by have hi2:Qf=1000000:=rfl;have e4:mμ 10 4=Qf+4:=rfl;have e30:mμ 10 (30+i)=Qf+(30+i):=Ka;repeat (first|rfl|rw[Qe _ _ (by(try rw[e4]);(try rw[e30]);unfold mμ;split<;>omega)]))) [] 1 (by decide) (by decide) (Kd (by decide)) (Kf (by decide) (by decide)) rfl trivial ⟨rfl,rfl,rfl,rfl,rfl,rfl,trivial⟩
      refine Xh hN2 (QU rfl rfl rfl rfl Ql i rfl hii) rfl rfl rfl rfl ?_;change AU _ _ _ _ _ _ _ _;refine Qi [3,11] (by kernel_rfl) rfl ⟨.inl (QG rfl ?_),.inl (QG rfl ?_),trivial⟩
      ·refine Xh hN2 ((by first|exact Xc rfl rfl rfl rfl rfl|exact Xc rfl rfl (Jt ((Qe _ _ KD).trans rfl)) rfl rfl)) rfl rfl rfl rfl ?_;change AU _ _ _ _ _ _ _ _;refine Qi [11] (by kernel_rfl) rfl ⟨.inl (QG rfl ?_),trivial⟩;refine Xh hN2 (XJ rfl rfl rfl Ql QV i rfl (JG hvs2) (fun _=>rfl) rfl) rfl rfl rfl rfl ?_;change AU _ _ _ _ _ _ _ _;refine Qi [15] (by kernel_rfl) rfl ⟨.inr (.inr (Qk hN2 rfl rfl rfl hI (by simp) rfl rfl (QN XS _) (by simp;omega) rfl rfl rfl rfl ?_)),trivial⟩;change AU _ _ _ _ _ _ _ _
       refine Qi [16] (by kernel_rfl) rfl ⟨.inl (QG rfl ?_),trivial⟩;refine Xh hN2 (QU rfl rfl rfl ((Qe _ _ QH).trans rfl) Ql i rfl hii) rfl rfl rfl rfl ?_;change AU _ _ _ _ _ _ _ _;refine Qi [17] (by kernel_rfl) rfl ⟨.inr (.inl (Q5 rfl rfl rfl ((Qe _ _ QH).trans rfl) Ql i rfl (by rw[←Ql];exact hii) rfl (QP (Qp _ _ _) (by simp)) rfl rfl QV rfl rfl rfl rfl ?_)),trivial⟩;change AU _ _ _ _ _ _ _ _;refine yD ?_
       exact XC (mμ 10) (Q6 (b:=10) (by decide)) (Q6 (b:=10) (by decide)) (c:=({ (c.mid i (QB l s p x.v).1) with ins:=(c.mid i (QB l s p x.v).1).ins.set i (vs++[x.v]) }:Cl)) hok3 (Yh (b:=10) (by decide) Wv hii (by first|rfl|exact(Qe _ _ QH).trans rfl) (by first|exact Qp _ _ _|(rw[Qe _ _ QH.symm,Qp,←List.map_append])) (fun j hj h4 hi5=>by have hi2:Qf=1000000:=rfl;have e4:mμ 10 4=Qf+4:=rfl;have e30:mμ 10 (30+i)=Qf+(30+i):=Ka;repeat (first|rfl|rw[Qe _ _ (by(try rw[e4]);(try rw[e30]);unfold mμ;split<;>omega)]))) [] 1 (by decide) (by decide) (Kd (by decide)) (Kf (by decide) (by decide)) rfl trivial ⟨rfl,rfl,rfl,rfl,rfl,rfl,trivial⟩
      refine Xh hN2 (XJ rfl rfl rfl Ql QV i rfl (JG hvs2) (fun _=>rfl) rfl) rfl rfl rfl rfl ?_;change AU _ _ _ _ _ _ _ _;refine Qi [3,15] (by kernel_rfl) rfl ⟨.inl (QG rfl ?_),.inr (.inr (Qk hN2 rfl rfl rfl hI (by simp) rfl rfl (QN XS _) (by simp;omega) rfl rfl rfl rfl ?_)),trivial⟩
      ·refine Xh hN2 ((by first|exact Xc rfl rfl rfl rfl rfl|exact Xc rfl rfl (Jt ((Qe _ _ KD).trans rfl)) rfl rfl)) rfl rfl rfl rfl ?_;change AU _ _ _ _ _ _ _ _;refine Qi [15] (by kernel_rfl) rfl ⟨.inr (.inr (Qk hN2 rfl rfl rfl hI (by simp) rfl rfl (QN XS _) (by simp;omega) rfl rfl rfl rfl ?_)),trivial⟩;change AU _ _ _ _ _ _ _ _;refine Qi [16] (by kernel_rfl) rfl ⟨.inl (QG rfl ?_),trivial⟩;refine Xh hN2 (QU rfl rfl rfl ((Qe _ _ QH).trans rfl) Ql i rfl hii) rfl rfl rfl rfl ?_;change AU _ _ _ _ _ _ _ _
       refine Qi [17] (by kernel_rfl) rfl ⟨.inr (.inl (Q5 rfl rfl rfl ((Qe _ _ QH).trans rfl) Ql i rfl (by rw[←Ql];exact hii) rfl (QP (Qp _ _ _) (by simp)) rfl rfl QV rfl rfl rfl rfl ?_)),trivial⟩;change AU _ _ _ _ _ _ _ _;refine yD ?_
       exact XC (mμ 10) (Q6 (b:=10) (by decide)) (Q6 (b:=10) (by decide)) (c:=({ (c.mid i (QB l s p x.v).1) with ins:=(c.mid i (QB l s p x.v).1).ins.set i (vs++[x.v]) }:Cl)) hok3 (Yh (b:=10) (by decide) Wv hii (by first|rfl|exact(Qe _ _ QH).trans rfl) (by first|exact Qp _ _ _|(rw[Qe _ _ QH.symm,Qp,←List.map_append])) (fun j hj h4 hi5=>by have hi2:Qf=1000000:=rfl;have e4:mμ 10 4=Qf+4:=rfl;have e30:mμ 10 (30+i)=Qf+(30+i):=Ka;repeat (first|rfl|rw[Qe _ _ (by(try rw[e4]);(try rw[e30]);unfold mμ;split<;>omega)]))) [] 1 (by decide) (by decide) (Kd (by decide)) (Kf (by decide) (by decide)) rfl trivial ⟨rfl,rfl,rfl,rfl,rfl,rfl,trivial⟩
      change AU _ _ _ _ _ _ _ _;refine Qi [3] (by kernel_rfl) rfl ⟨.inl (QG rfl ?_),trivial⟩;refine Xh hN2 ((by first|exact Xc rfl rfl rfl rfl rfl|exact Xc rfl rfl (Jt ((Qe _ _ KD).trans rfl)) rfl rfl)) rfl rfl rfl rfl ?_;change AU _ _ _ _ _ _ _ _;refine Qi [16] (by kernel_rfl) rfl ⟨.inl (QG rfl ?_),trivial⟩;refine Xh hN2 (QU rfl rfl rfl ((Qe _ _ QH).trans rfl) Ql i rfl hii) rfl rfl rfl rfl ?_;change AU _ _ _ _ _ _ _ _
      refine Qi [17] (by kernel_rfl) rfl ⟨.inr (.inl (Q5 rfl rfl rfl ((Qe _ _ QH).trans rfl) Ql i rfl (by rw[←Ql];exact hii) rfl (QP (Qp _ _ _) (by simp)) rfl rfl QV rfl rfl rfl rfl ?_)),trivial⟩;change AU _ _ _ _ _ _ _ _;refine yD ?_
      exact XC (mμ 10) (Q6 (b:=10) (by decide)) (Q6 (b:=10) (by decide)) (c:=({ (c.mid i (QB l s p x.v).1) with ins:=(c.mid i (QB l s p x.v).1).ins.set i (vs++[x.v]) }:Cl)) hok3 (Yh (b:=10) (by decide) Wv hii (by first|rfl|exact(Qe _ _ QH).trans rfl) (by first|exact Qp _ _ _|(rw[Qe _ _ QH.symm,Qp,←List.map_append])) (fun j hj h4 hi5=>by have hi2:Qf=1000000:=rfl;have e4:mμ 10 4=Qf+4:=rfl;have e30:mμ 10 (30+i)=Qf+(30+i):=Ka;repeat (first|rfl|rw[Qe _ _ (by(try rw[e4]);(try rw[e30]);unfold mμ;split<;>omega)]))) [] 1 (by decide) (by decide) (Kd (by decide)) (Kf (by decide) (by decide)) rfl trivial ⟨rfl,rfl,rfl,rfl,rfl,rfl,trivial⟩
     change AU _ _ _ _ _ _ _ _;refine yS 1 ?_;refine yL 3 ?_;refine yD ?_;change Y1 _ _ _ _ _;refine QR ?_
     refine QC (XC (mμ 10) (Q6 (b:=10) (by decide)) (Q6 (b:=10) (by decide)) (c:=(c.mid i (QB l s p x.v).1)) Wv (Xn.chg (Xn.self (l:=l) (c:=(c.setF i (QB l s p x.v).1.1)) (Q6 (b:=10) (by decide))) [0,3] (fun j hj ob hob=>by simp only[List.mem_cons,List.not_mem_nil,or_false] at hj;rcases hj with rfl|rfl<;>(rw[←hob];first|rfl|(simp only[Kz,clC,List.length_append,List.map_append,List.length_map,Cl.mid,Cl.setF];rfl))) (fun j _ hj=>Qhs (c:=(c.setF i (QB l s p x.v).1.1)) hj) (fun j _ hj=>by simp only[List.mem_cons,List.not_mem_nil,or_false,not_or] at hj;repeat (first|rfl|rw[Qe _ _ (by have hi2:Qf=1000000:=rfl;have e3:mμ 10 3=Qf+3:=rfl;(try rw[e3]);unfold mμ;split<;>omega)]))) [] (t':=[(0,.ptr Qf 0),(3,.el (spC x)),(6,i64 i),(10,i64 0)]) (nx':=20) 1 (by decide) (by decide) (Kd (by decide)) (Kf (by decide) (by decide)) rfl trivial ⟨rfl,rfl,rfl,rfl,rfl,rfl,rfl,rfl,trivial⟩) ?_
     have hii:i<(c.mid i (QB l s p x.v).1).ins.length:=by show i<c.ins.length;omega
     have hvs2:(c.mid i (QB l s p x.v).1).ins[i]?=some vs:=hvs
     have hI:Qb ([]++KL l (c.mid i (QB l s p x.v).1) (mμ 10)) (mμ 10 (30+i))=some (.arr 30 4 (vs.map Ym)):=(Jc (Q6 (b:=10) (by decide)) (by omega)).trans (by rw[Wo,hvs2];rfl)
     refine zD 11 ?_;refine QL ?_;refine zp (QU rfl rfl rfl rfl Ql i rfl hii) ?_;refine zp (XJ rfl rfl rfl Ql QV i rfl (JG hvs2) (fun _=>rfl) rfl) ?_;refine QR ?_;refine zp (YD rfl rfl hI (by simp)) ?_;refine zp (Q0 rfl rfl rfl rfl (by exact rfl) (by decide) (by decide)) ?_;refine XA hN rfl rfl hI (by simp) rfl rfl (by rfl) (by simp[QT];omega) rfl rfl rfl rfl ?_;refine zP (QU rfl rfl rfl ((Qe _ _ QH).trans rfl) Ql i rfl hii) ?_
     refine Qlv hN rfl rfl ((Qe _ _ QH).trans rfl) Ql i rfl (by rw[←Ql];exact hii) rfl (QP (Qp _ _ _) (by simp[QT])) rfl rfl QV rfl rfl rfl rfl ?_;refine QR ?_;refine zP (QU rfl rfl rfl ((Qe _ _ QH.symm).trans (Qp _ _ _)) (by simp[QT]) vs.length rfl (by simp[QT])) ?_;refine Qlv hN rfl rfl ((Qe _ _ QH.symm).trans (Qp _ _ _)) (by simp[QT]) vs.length rfl (by simp[QT]) rfl rfl rfl rfl (Wc rfl) rfl rfl rfl Qal ?_;refine Qc ?_
     exact XC (mμ 10) (Q6 (b:=10) (by decide)) (Q6 (b:=10) (by decide)) (c:=({ (c.mid i (QB l s p x.v).1) with ins:=(c.mid i (QB l s p x.v).1).ins.set i (vs++[x.v]) }:Cl)) hok3 (Yh (b:=10) (by decide) Wv hii (by first|rfl|exact(Qe _ _ QH).trans rfl) (by first|exact Qp _ _ _|(rw[Qe _ _ QH.symm,Qp,←List.map_append])) (fun j hj h4 hi5=>by have hi2:Qf=1000000:=rfl;have e4:mμ 10 4=Qf+4:=rfl;have e30:mμ 10 (30+i)=Qf+(30+i):=Ka;repeat (first|rfl|rw[Qe _ _ (by(try rw[e4]);(try rw[e30]);unfold mμ;split<;>omega)]))) [] 1 (by decide) (by decide) (Kd (by decide)) (Kf (by decide) (by decide)) rfl trivial ⟨rfl,rfl,rfl,rfl,rfl,rfl,trivial⟩
    refine QK ?_
    refine QdL hN (c:=({ (c.mid i (QB l s p x.v).1) with ins:=(c.mid i (QB l s p x.v).1).ins.set i (vs++[x.v]) }:Cl)) hok3 hok4 (QpB l hc ({ (c.mid i (QB l s p x.v).1) with ins:=(c.mid i (QB l s p x.v).1).ins.set i (vs++[x.v]) }:Cl) hok3 i rfl hk3 el4 (by show c.lrn.length≤100000;omega)) Xb (fun _=>rfl) rfl (fun _=>rfl) (fun _=>rfl) (.fn _ _ _ _ rfl rfl) (Q6 (b:=10) (by decide)) (Xn.self (l:=l) (c:=({ (c.mid i (QB l s p x.v).1) with ins:=(c.mid i (QB l s p x.v).1).ins.set i (vs++[x.v]) }:Cl)) (Q6 (b:=10) (by decide))) (by decide) (fun j _=>.inr rfl) (fun j hj _ h=>QsV.symm.trans h) rfl rfl rfl rfl (fun H2 hcl2 _=>?_)
    rw[QlM] at hcl2;refine Xy ?_
    have hst:J5 l c x=({ ({ (c.mid i (QB l s p x.v).1) with ins:=(c.mid i (QB l s p x.v).1).ins.set i (vs++[x.v]) }:Cl) with lrn:=({ (c.mid i (QB l s p x.v).1) with ins:=(c.mid i (QB l s p x.v).1).ins.set i (vs++[x.v]) }:Cl).lrn++[(QB l s p x.v).1.1.1.lrn] }:Cl):=by
     unfold J5
     rw[if_neg hkn,hti,if_neg (by rw[hd];decide),hF]
     show(if x.k=0 then if Xr l x.v=true then c.inp i x.v (QB l s p x.v).1 else c else _)=_
     rw[if_pos hk0,if_pos hv0]
     unfold Cl.inp
     rw[hvs]
     rfl
    rw[hst];refine QC (YI (Q6 (b:=10) (by decide)) hok4 hcl2 QtG (t':=[(4,bl true)]) ⟨rfl,rfl,trivial⟩) ?_;refine Qu ?_;change (Xz _ _).ntt=_∧_;exact Ya rfl rfl rfl rfl rfl X8 hok4 Qa5 (Xn.self X8)
   refine QK ?_;refine Qu ?_;change (Xz _ _).ntt=_∧_;exact Ya rfl rfl rfl rfl rfl X8 (Qcr hok) Qa5 (Xn.self X8)
  skip
  by_cases hk4:x.k=4
  ·have hnx:=QvE l hw.hX hw.hl9 hv hw.hK hc
   have hlo:(Yo l s p).2.length≤36:=Qmt hv.n2
   have Wv:(c.mid i (Yo l s p)).ok:=Qfq hok
   refine QI ?_;refine zP (QD (b:=true) rfl rfl rfl (by simp;omega)) ?_;refine QI ?_;refine zP (QD (b:=false) rfl rfl rfl (by simp;omega)) ?_;refine JF ?_;refine zP (QU rfl rfl rfl rfl (by simp) i rfl (by omega)) ?_;refine zP (QaN rfl rfl c.dn rfl (by simp) i rfl hd) ?_;refine QI ?_;refine JI (⟨[],KL l (J5 l c x) oμ,6⟩) ?_ ?_
   ·refine Jl ?_;refine zP (QD (b:=false) rfl rfl rfl (by simp;omega)) ?_;refine QL ?_;refine zP (QD (b:=true) rfl rfl rfl (by simp;omega)) ?_;refine QI ?_;refine Qew 17 rfl (by kernel_rfl) (by kernel_rfl) (fun _ _ h=>h) ?_;refine yM 0 ?_;refine yM 1 ?_;refine Xg 2 rfl (by kernel_rfl) (by kernel_rfl) rfl (Qcs hN rfl rfl rfl rfl rfl rfl rfl) ?_;refine Xg 3 rfl (by kernel_rfl) (by kernel_rfl) rfl (Jp hN rfl rfl rfl rfl rfl rfl rfl rfl) ?_;refine yM 5 ?_
    refine Xg 6 rfl (by kernel_rfl) (by kernel_rfl) rfl (Qcs hN rfl rfl rfl rfl rfl rfl rfl) ?_;refine Xg 7 rfl (by kernel_rfl) (by kernel_rfl) rfl (Jp hN rfl rfl rfl rfl rfl rfl rfl rfl) ?_;refine yM 9 ?_;refine Qi [4,8] (by kernel_rfl) rfl ⟨.inl (QG rfl ?_),.inl (QG rfl ?_),trivial⟩
    ·refine zp ((by first|exact Xc rfl rfl rfl rfl rfl|exact Xc rfl rfl (Jt (hp.fix hok (by omega) (j:=0) (by decide) rfl)) rfl rfl)) ?_;change AU _ _ _ _ _ _ _ _;refine yL 8 ?_;refine yP 10 rfl (QU rfl rfl rfl rfl JR i rfl hlt) ?_;refine yP 11 rfl (XJ rfl rfl rfl JR QbA i rfl (QbL hlt) (fun _=>rfl) rfl) ?_
     refine Qi [12] (by kernel_rfl) rfl ⟨.inr (.inr (QaE hN rfl hok hF hnx (fun _=>rfl) rfl (fun _=>rfl) (fun _=>rfl) (.fn _ _ _ _ rfl rfl) Xb Qg2 (Xn.cons (x:=.var 101 (spC x)) (Kw (q:=0) (by decide)) (Xn.self (l:=l) (c:=c) Xb)) (by decide) (Qda (q:=1) (Kw (by decide))) rfl rfl rfl rfl (fun H1 hp=>?_))),trivial⟩;change AU _ _ _ _ _ _ _ _
     refine Qi [13] (by kernel_rfl) rfl ⟨.inr (.inr (Qk hN rfl rfl rfl (hp.fix hok (by omega) (j:=3) (by decide) rfl) (by simp) rfl rfl (QS _) (by simp;omega) rfl rfl rfl rfl ?_)),trivial⟩;change AU _ _ _ _ _ _ _ _;refine yP 14 rfl (Wd rfl rfl (Jt ((Qe _ _ (by decide)).trans (hp.fix hok (by omega) (j:=0) (by decide) rfl)))) ?_;refine yP 15 rfl (Xj rfl rfl (Jt ((Qe _ _ (by decide)).trans (hp.fix hok (by omega) (j:=0) (by decide) rfl))) rfl) ?_
     refine Qi [16] (by kernel_rfl) rfl ⟨.inr (.inl (Xs rfl rfl rfl ((Qe _ _ (by decide)).trans (hp.fix hok (by omega) (j:=0) (by decide) rfl)) rfl (QP (Qp _ _ _) (by simp)) rfl (Nat.le_of_ble_eq_true rfl) rfl rfl rfl rfl ?_)),trivial⟩;change AU _ _ _ _ _ _ _ _;refine yD ?_
     have hst:J5 l c x=(c.mid i (Yo l s p)):=by
      unfold J5
      rw[if_neg hkn,hti,if_neg (by rw[hd];decide),hF]
      show(if x.k=0 then if Xr l x.v=true then c.inp i x.v (QB l s p x.v).1 else c else if x.k=4 then c.mid i (Yo l s p) else if x.k=5 then { c with dn:=c.dn.set i true } else c)=_
      rw[if_neg (by omega),if_pos hk4]
     rw[hst];exact QcG hok (by omega) hp rfl rfl
    refine zl ?_;change AU _ _ _ _ _ _ _ _;refine Qi [4,10] (by kernel_rfl) rfl ⟨.inl (QG rfl ?_),.inl (QG rfl ?_),trivial⟩
    ·refine zp ((by first|exact Xc rfl rfl rfl rfl rfl|exact Xc rfl rfl (Jt (hp.fix hok (by omega) (j:=0) (by decide) rfl)) rfl rfl)) ?_;change AU _ _ _ _ _ _ _ _;refine yP 10 rfl (QU rfl rfl rfl rfl JR i rfl hlt) ?_;refine yP 11 rfl (XJ rfl rfl rfl JR QbA i rfl (QbL hlt) (fun _=>rfl) rfl) ?_
     refine Qi [12] (by kernel_rfl) rfl ⟨.inr (.inr (QaE hN rfl hok hF hnx (fun _=>rfl) rfl (fun _=>rfl) (fun _=>rfl) (.fn _ _ _ _ rfl rfl) Xb Qg2 (Xn.cons (x:=.var 101 (spC x)) (Kw (q:=0) (by decide)) (Xn.self (l:=l) (c:=c) Xb)) (by decide) (Qda (q:=1) (Kw (by decide))) rfl rfl rfl rfl (fun H1 hp=>?_))),trivial⟩;change AU _ _ _ _ _ _ _ _
     refine Qi [13] (by kernel_rfl) rfl ⟨.inr (.inr (Qk hN rfl rfl rfl (hp.fix hok (by omega) (j:=3) (by decide) rfl) (by simp) rfl rfl (QS _) (by simp;omega) rfl rfl rfl rfl ?_)),trivial⟩;change AU _ _ _ _ _ _ _ _;refine yP 14 rfl (Wd rfl rfl (Jt ((Qe _ _ (by decide)).trans (hp.fix hok (by omega) (j:=0) (by decide) rfl)))) ?_;refine yP 15 rfl (Xj rfl rfl (Jt ((Qe _ _ (by decide)).trans (hp.fix hok (by omega) (j:=0) (by decide) rfl))) rfl) ?_
     refine Qi [16] (by kernel_rfl) rfl ⟨.inr (.inl (Xs rfl rfl rfl ((Qe _ _ (by decide)).trans (hp.fix hok (by omega) (j:=0) (by decide) rfl)) rfl (QP (Qp _ _ _) (by simp)) rfl (Nat.le_of_ble_eq_true rfl) rfl rfl rfl rfl ?_)),trivial⟩;change AU _ _ _ _ _ _ _ _;refine yD ?_
     have hst:J5 l c x=(c.mid i (Yo l s p)):=by
      unfold J5
      rw[if_neg hkn,hti,if_neg (by rw[hd];decide),hF]
      show(if x.k=0 then if Xr l x.v=true then c.inp i x.v (QB l s p x.v).1 else c else if x.k=4 then c.mid i (Yo l s p) else if x.k=5 then { c with dn:=c.dn.set i true } else c)=_
      rw[if_neg (by omega),if_pos hk4]
     rw[hst];exact QcG hok (by omega) hp rfl rfl
    refine zp (QU rfl rfl rfl rfl JR i rfl hlt) ?_;change AU _ _ _ _ _ _ _ _;refine Qi [4,11] (by kernel_rfl) rfl ⟨.inl (QG rfl ?_),.inl (QG rfl ?_),trivial⟩
    ·refine zp ((by first|exact Xc rfl rfl rfl rfl rfl|exact Xc rfl rfl (Jt (hp.fix hok (by omega) (j:=0) (by decide) rfl)) rfl rfl)) ?_;change AU _ _ _ _ _ _ _ _;refine yP 11 rfl (XJ rfl rfl rfl JR QbA i rfl (QbL hlt) (fun _=>rfl) rfl) ?_
     refine Qi [12] (by kernel_rfl) rfl ⟨.inr (.inr (QaE hN rfl hok hF hnx (fun _=>rfl) rfl (fun _=>rfl) (fun _=>rfl) (.fn _ _ _ _ rfl rfl) Xb Qg2 (Xn.cons (x:=.var 101 (spC x)) (Kw (q:=0) (by decide)) (Xn.self (l:=l) (c:=c) Xb)) (by decide) (Qda (q:=1) (Kw (by decide))) rfl rfl rfl rfl (fun H1 hp=>?_))),trivial⟩;change AU _ _ _ _ _ _ _ _
     refine Qi [13] (by kernel_rfl) rfl ⟨.inr (.inr (Qk hN rfl rfl rfl (hp.fix hok (by omega) (j:=3) (by decide) rfl) (by simp) rfl rfl (QS _) (by simp;omega) rfl rfl rfl rfl ?_)),trivial⟩;change AU _ _ _ _ _ _ _ _;refine yP 14 rfl (Wd rfl rfl (Jt ((Qe _ _ (by decide)).trans (hp.fix hok (by omega) (j:=0) (by decide) rfl)))) ?_;refine yP 15 rfl (Xj rfl rfl (Jt ((Qe _ _ (by decide)).trans (hp.fix hok (by omega) (j:=0) (by decide) rfl))) rfl) ?_
     refine Qi [16] (by kernel_rfl) rfl ⟨.inr (.inl (Xs rfl rfl rfl ((Qe _ _ (by decide)).trans (hp.fix hok (by omega) (j:=0) (by decide) rfl)) rfl (QP (Qp _ _ _) (by simp)) rfl (Nat.le_of_ble_eq_true rfl) rfl rfl rfl rfl ?_)),trivial⟩;change AU _ _ _ _ _ _ _ _;refine yD ?_
     have hst:J5 l c x=(c.mid i (Yo l s p)):=by
      unfold J5
      rw[if_neg hkn,hti,if_neg (by rw[hd];decide),hF]
      show(if x.k=0 then if Xr l x.v=true then c.inp i x.v (QB l s p x.v).1 else c else if x.k=4 then c.mid i (Yo l s p) else if x.k=5 then { c with dn:=c.dn.set i true } else c)=_
      rw[if_neg (by omega),if_pos hk4]
     rw[hst];exact QcG hok (by omega) hp rfl rfl
    refine zp (XJ rfl rfl rfl JR QbA i rfl (QbL hlt) (fun _=>rfl) rfl) ?_;change AU _ _ _ _ _ _ _ _;refine Qi [4,12] (by kernel_rfl) rfl ⟨.inl (QG rfl ?_),.inr (.inr (QaE hN rfl hok hF hnx (fun _=>rfl) rfl (fun _=>rfl) (fun _=>rfl) (.fn _ _ _ _ rfl rfl) Xb Qg2 (Xn.cons (x:=.var 101 (spC x)) (Kw (q:=0) (by decide)) (Xn.self (l:=l) (c:=c) Xb)) (by decide) (Qda (q:=1) (Kw (by decide))) rfl rfl rfl rfl (fun H1 hp=>?_))),trivial⟩
    ·refine zp ((by first|exact Xc rfl rfl rfl rfl rfl|exact Xc rfl rfl (Jt (hp.fix hok (by omega) (j:=0) (by decide) rfl)) rfl rfl)) ?_;change AU _ _ _ _ _ _ _ _;refine Qi [12] (by kernel_rfl) rfl ⟨.inr (.inr (QaE hN rfl hok hF hnx (fun _=>rfl) rfl (fun _=>rfl) (fun _=>rfl) (.fn _ _ _ _ rfl rfl) Xb Qg2 (Xn.cons (x:=.var 101 (spC x)) (Kw (q:=0) (by decide)) (Xn.self (l:=l) (c:=c) Xb)) (by decide) (Qda (q:=1) (Kw (by decide))) rfl rfl rfl rfl (fun H1 hp=>?_))),trivial⟩;change AU _ _ _ _ _ _ _ _
     refine Qi [13] (by kernel_rfl) rfl ⟨.inr (.inr (Qk hN rfl rfl rfl (hp.fix hok (by omega) (j:=3) (by decide) rfl) (by simp) rfl rfl (QS _) (by simp;omega) rfl rfl rfl rfl ?_)),trivial⟩;change AU _ _ _ _ _ _ _ _;refine yP 14 rfl (Wd rfl rfl (Jt ((Qe _ _ (by decide)).trans (hp.fix hok (by omega) (j:=0) (by decide) rfl)))) ?_;refine yP 15 rfl (Xj rfl rfl (Jt ((Qe _ _ (by decide)).trans (hp.fix hok (by omega) (j:=0) (by decide) rfl))) rfl) ?_
     refine Qi [16] (by kernel_rfl) rfl ⟨.inr (.inl (Xs rfl rfl rfl ((Qe _ _ (by decide)).trans (hp.fix hok (by omega) (j:=0) (by decide) rfl)) rfl (QP (Qp _ _ _) (by simp)) rfl (Nat.le_of_ble_eq_true rfl) rfl rfl rfl rfl ?_)),trivial⟩;change AU _ _ _ _ _ _ _ _;refine yD ?_
     have hst:J5 l c x=(c.mid i (Yo l s p)):=by
      unfold J5
      rw[if_neg hkn,hti,if_neg (by rw[hd];decide),hF]
      show(if x.k=0 then if Xr l x.v=true then c.inp i x.v (QB l s p x.v).1 else c else if x.k=4 then c.mid i (Yo l s p) else if x.k=5 then { c with dn:=c.dn.set i true } else c)=_
      rw[if_neg (by omega),if_pos hk4]
     rw[hst];exact QcG hok (by omega) hp rfl rfl
    change AU _ _ _ _ _ _ _ _;refine yP 4 rfl ((by first|exact Xc rfl rfl rfl rfl rfl|exact Xc rfl rfl (Jt (hp.fix hok (by omega) (j:=0) (by decide) rfl)) rfl rfl)) ?_;refine Qi [13] (by kernel_rfl) rfl ⟨.inr (.inr (Qk hN rfl rfl rfl (hp.fix hok (by omega) (j:=3) (by decide) rfl) (by simp) rfl rfl (QS _) (by simp;omega) rfl rfl rfl rfl ?_)),trivial⟩;change AU _ _ _ _ _ _ _ _;refine yP 14 rfl (Wd rfl rfl (Jt ((Qe _ _ (by decide)).trans (hp.fix hok (by omega) (j:=0) (by decide) rfl)))) ?_
    refine yP 15 rfl (Xj rfl rfl (Jt ((Qe _ _ (by decide)).trans (hp.fix hok (by omega) (j:=0) (by decide) rfl))) rfl) ?_;refine Qi [16] (by kernel_rfl) rfl ⟨.inr (.inl (Xs rfl rfl rfl ((Qe _ _ (by decide)).trans (hp.fix hok (by omega) (j:=0) (by decide) rfl)) rfl (QP (Qp _ _ _) (by simp)) rfl (Nat.le_of_ble_eq_true rfl) rfl rfl rfl rfl ?_)),trivial⟩;change AU _ _ _ _ _ _ _ _;refine yD ?_
    have hst:J5 l c x=(c.mid i (Yo l s p)):=by
     unfold J5
     rw[if_neg hkn,hti,if_neg (by rw[hd];decide),hF]
     show(if x.k=0 then if Xr l x.v=true then c.inp i x.v (QB l s p x.v).1 else c else if x.k=4 then c.mid i (Yo l s p) else if x.k=5 then { c with dn:=c.dn.set i true } else c)=_
     rw[if_neg (by omega),if_pos hk4]
    rw[hst];exact QcG hok (by omega) hp rfl rfl
   refine QK ?_;refine Qu ?_;change (Xz _ _).ntt=_∧_;exact Ya rfl rfl rfl rfl rfl X8 (Qcr hok) Qa5 (Xn.self X8)
  skip
  by_cases hk5:x.k=5
  ·skip
   refine QI ?_;refine zP (QD (b:=true) rfl rfl rfl (by simp;omega)) ?_;refine QI ?_;refine zP (QD (b:=false) rfl rfl rfl (by simp;omega)) ?_;refine JF ?_;refine zP (QU rfl rfl rfl rfl (by simp) i rfl (by omega)) ?_;refine zP (QaN rfl rfl c.dn rfl (by simp) i rfl hd) ?_;refine QI ?_;refine JI (⟨[],KL l (J5 l c x) oμ,6⟩) ?_ ?_
   ·refine Jl ?_;refine zP (QD (b:=false) rfl rfl rfl (by simp;omega)) ?_;refine QL ?_;refine zP (QD (b:=false) rfl rfl rfl (by simp;omega)) ?_;refine QL ?_;refine zP (QD (b:=true) rfl rfl rfl (by simp;omega)) ?_;refine J6 ?_;refine zP (QU rfl rfl rfl rfl (by simp) i rfl (by omega)) ?_;refine QhE hN rfl rfl c.dn rfl (by simp) i rfl (by omega) rfl rfl rfl rfl ?_;refine Qc ?_
    have hst:J5 l c x=({ c with dn:=c.dn.set i true }:Cl):=by
     unfold J5
     rw[if_neg hkn,hti,if_neg (by rw[hd];decide),hF]
     show(if x.k=0 then if Xr l x.v=true then c.inp i x.v (QB l s p x.v).1 else c else if x.k=4 then c.mid i (Yo l s p) else if x.k=5 then { c with dn:=c.dn.set i true } else c)=_
     rw[if_neg (by omega),if_neg (by omega),if_pos hk5]
    rw[hst]
    exact YI (c:=({ c with dn:=c.dn.set i true }:Cl)) Xb (show Cl.ok ({ c with dn:=c.dn.set i true }:Cl) from hok) (Xn.chg (Xn.cons (x:=.var 101 (spC x)) (Kw (q:=0) (by decide)) (Xn.self (l:=l) (c:=c) Xb)) [2] (fun j hj ob hob=>by simp only[List.mem_cons,List.not_mem_nil,or_false] at hj;rcases hj with rfl<;>(rw[←hob];first|rfl|(simp only[Kz,clC,List.length_append];rfl))) (fun j _ hj=>QwF (l:=l) (c:=c) (x:=c.dn.set i true) (ν:=bg) (List.length_set ..) hj) (fun j _ hj=>by simp only[List.mem_cons,List.not_mem_nil,or_false] at hj;repeat (first|rfl|rw[Qe _ _ (by unfold bg;omega)]))) QbU trivial
   refine QK ?_;refine Qu ?_;change (Xz _ _).ntt=_∧_;exact Ya rfl rfl rfl rfl rfl X8 (Qcr hok) Qa5 (Xn.self X8)
  skip
  by_cases hk1:1≤x.k
  ·skip
   refine QI ?_;refine zP (QD (b:=true) rfl rfl rfl (by simp;omega)) ?_;refine QI ?_;refine zP (QD (b:=false) rfl rfl rfl (by simp;omega)) ?_;refine JF ?_;refine zP (QU rfl rfl rfl rfl (by simp) i rfl (by omega)) ?_;refine zP (QaN rfl rfl c.dn rfl (by simp) i rfl hd) ?_;refine QI ?_;refine JI (⟨[],KL l (J5 l c x) oμ,6⟩) ?_ ?_
   ·refine Jl ?_;refine zP (QD (b:=false) rfl rfl rfl (by simp;omega)) ?_;refine QL ?_;refine zP (QD (b:=false) rfl rfl rfl (by simp;omega)) ?_;refine QL ?_;refine zP (QD (b:=false) rfl rfl rfl (by simp;omega)) ?_;refine QI ?_;refine QM ?_
    have hst:J5 l c x=c:=by
     unfold J5
     rw[if_neg hkn,hti,if_neg (by rw[hd];decide),hF]
     show(if x.k=0 then if Xr l x.v=true then c.inp i x.v (QB l s p x.v).1 else c else if x.k=4 then c.mid i (Yo l s p) else if x.k=5 then { c with dn:=c.dn.set i true } else c)=_
     rw[if_neg hk0,if_neg hk4,if_neg hk5]
    rw[hst];exact YI (c:=c) Xb (show Cl.ok c from hok) (Xn.cons (x:=.var 101 (spC x)) (Kw (q:=0) (by decide)) (Xn.self (l:=l) (c:=c) Xb)) QbU trivial
   refine QK ?_;refine Qu ?_;change (Xz _ _).ntt=_∧_;exact Ya rfl rfl rfl rfl rfl X8 (Qcr hok) Qa5 (Xn.self X8)
  skip
  refine QI ?_;refine zP (QD (b:=false) rfl rfl rfl (by simp;omega)) ?_;refine QbP ?_;refine zP (QU rfl rfl rfl rfl (by simp) i rfl (by omega)) ?_;refine zP (QaN rfl rfl c.dn rfl (by simp) i rfl hd) ?_;refine QI ?_;refine JI (⟨[],KL l (J5 l c x) oμ,6⟩) ?_ ?_
  ·refine Jl ?_;refine zP (QD (b:=false) rfl rfl rfl (by simp;omega)) ?_;refine QL ?_;refine zP (QD (b:=false) rfl rfl rfl (by simp;omega)) ?_;refine QL ?_;refine zP (QD (b:=false) rfl rfl rfl (by simp;omega)) ?_;refine QI ?_;refine QM ?_
   have hst:J5 l c x=c:=by
    unfold J5
    rw[if_neg hkn,hti,if_neg (by rw[hd];decide),hF]
    show(if x.k=0 then if Xr l x.v=true then c.inp i x.v (QB l s p x.v).1 else c else if x.k=4 then c.mid i (Yo l s p) else if x.k=5 then { c with dn:=c.dn.set i true } else c)=_
    rw[if_neg hk0,if_neg hk4,if_neg hk5]
   rw[hst];exact YI (c:=c) Xb (show Cl.ok c from hok) (Xn.cons (x:=.var 101 (spC x)) (Kw (q:=0) (by decide)) (Xn.self (l:=l) (c:=c) Xb)) QbU trivial
  refine QK ?_;refine Qu ?_;change (Xz _ _).ntt=_∧_;exact Ya rfl rfl rfl rfl rfl X8 (Qcr hok) Qa5 (Xn.self X8)
 have hd:c.dn[i]?=some true:=by rw[List.getElem?_eq_getElem (by omega),hdd]
 by_cases hk1:1≤x.k
 ·skip
  refine QI ?_;refine zP (QD (b:=true) rfl rfl rfl (by simp;omega)) ?_;refine QI ?_;refine zP (QD (b:=false) rfl rfl rfl (by simp;omega)) ?_;refine JF ?_;refine zP (QU rfl rfl rfl rfl (by simp) i rfl (by omega)) ?_;refine zP (QaN rfl rfl c.dn rfl (by simp) i rfl hd) ?_;refine XL ?_
  have hst:J5 l c x=c:=by
   unfold J5
   rw[if_neg hkn,hti,if_pos hd]
  rw[hst];refine QC (YI Xb hok (Xn.cons (x:=.var 101 (spC x)) (Kw (q:=0) (by decide)) (Xn.self (l:=l) (c:=c) Xb)) QbU (t':=[(4,bl true)]) ⟨rfl,rfl,trivial⟩) ?_;refine Qu ?_;change (Xz _ _).ntt=_∧_;exact Ya rfl rfl rfl rfl rfl X8 hok Qa5 (Xn.self X8)
 skip
 refine QI ?_;refine zP (QD (b:=false) rfl rfl rfl (by simp;omega)) ?_;refine QbP ?_;refine zP (QU rfl rfl rfl rfl (by simp) i rfl (by omega)) ?_;refine zP (QaN rfl rfl c.dn rfl (by simp) i rfl hd) ?_;refine XL ?_
 have hst:J5 l c x=c:=by
  unfold J5
  rw[if_neg hkn,hti,if_pos hd]
 rw[hst];refine QC (YI Xb hok (Xn.cons (x:=.var 101 (spC x)) (Kw (q:=0) (by decide)) (Xn.self (l:=l) (c:=c) Xb)) QbU (t':=[(4,bl true)]) ⟨rfl,rfl,trivial⟩) ?_;refine Qu ?_;change (Xz _ _).ntt=_∧_;exact Ya rfl rfl rfl rfl rfl X8 hok Qa5 (Xn.self X8)
end Go.Proofs.YtnkkokmmeplbgaaGreat
