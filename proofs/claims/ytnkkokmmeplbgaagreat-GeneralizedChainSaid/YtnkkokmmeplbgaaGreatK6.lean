/-
  Contracts: a run takes a step.
-/
import Derived.Test.YtnkkokmmeplbgaaGreatK5
import Derived.Test.YtnkkokmmeplbgaaGreatC6
namespace Go.Proofs.YtnkkokmmeplbgaaGreat
set_option maxRecDepth 100000
set_option maxHeartbeats 1000000
open Go.RowKit
theorem Qc7 {l:Qv}{c:Cl}{m:Kb}(h:c.ok):(Qde l c m).ok:=by
 unfold Qde
 split
 ·exact h
 split
 ·exact⟨by show(c.F.set _ _).length≤5;rw[List.length_set];exact h.1,h.2⟩
 exact h
theorem QtI {l:Qv}{c:Cl}{m:Kb}:(Qde l c m).F.length=c.F.length:=by
 unfold Qde
 split
 ·rfl
 split
 ·exact List.length_set ..
 rfl
theorem Qsp {l:Qv}{c:Cl}{m:Kb}:(Qde l c m).ins.length=c.ins.length:=by
 unfold Qde
 split
 ·rfl
 split<;>rfl
def kμ (b j:Nat):Nat:=if j=3 then b else Qf+j
theorem Qe6 {b:Nat}(hb:b≤1000):Qap (kμ b):=fun i j hi hj e=>by
 have:Qf=1000000:=rfl
 unfold kμ at e
 split at e<;>split at e<;>omega
theorem QvL {b nx:Nat}(h:b<nx):∀j,j<40→kμ b j<nx∨Qf≤kμ b j:=fun j _=>by
 unfold kμ
 split
 ·exact .inl h
 exact .inr (Nat.le_add_right _ _)
theorem QsU {b:Nat}:∀j,j<40→¬oμ j<6→kμ b j=oμ j:=fun j hj h=>by
 rw[←QbU j hj h]
 unfold kμ
 rw[if_neg (Qrl h).1];rfl
theorem Qo7 {b j:Nat}(h:j≠3):kμ b j=bg j:=if_neg h
theorem QrF {l:Qv}{c:Cl}{k b j:Nat}(h0:j≠0)(h3:j≠3):Kz l (c.less k) (kμ b) j=Kz l c bg j:=by
 match j with
 |0=>exact absurd rfl h0
 |1=>
  show some (Qj.arr _ 1 (Qfc (kμ b) c.F.length))=some (Qj.arr _ 1 (Qfc bg c.F.length))
  congr 2
  refine List.map_congr_left fun i _=>?_
  rw[Qo7 (by omega)]
 |2=>rfl
 |3=>exact absurd rfl h3
 |4=>
  show some (Qj.arr _ 1 (QeJ (kμ b) c.ins))=some (Qj.arr _ 1 (QeJ bg c.ins))
  congr 2
  refine List.ext_getElem (by simp) fun i g1 g2=>?_
  simp only[List.getElem_mapIdx]
  rw[Qo7 (by omega)]
 |5=>rfl
 |6=>rfl
 |7=>rfl
 |8=>rfl
 |9=>rfl
 |i+10=>
  simp only[Kz,Cl.less]
  rw[Qo7 (by omega)]
theorem JT {E:X7}{t t':List (Nat×AV)}{H:List (Nat×Qj)}{l:Qv}{c:Cl}{k:Nat}{x0 x1:Qj}(hc:c.ok)
  (h0:Qb H Qf=some (.var 95 (clC l (c.less k) (kμ 2)))) (h3:Qb H 2=some (.arr 54 8 ((c.less k).net.map fun b=>Ja b))) (ho:∀j,j<40→j≠0→j≠3→Qb H (bg j)=Qb (KL l c bg) (bg j))
  (hx0:Qb H 0=some x0) (hx1:Qb H 1=some x1) (l0:x0.cells.all QbF=true) (l1:x1.cells.all QbF=true) (ht:Qms ⟨t,H,3⟩ [Qf,0,1] t'):Kj E ⟨t,H,3⟩ ⟨t',[(0,x0),(1,x1)]++KL l (c.less k) (kμ 2),3⟩:=by
 have hi:Qf=1000000:=rfl
 refine XC (kμ 2) (Qe6 (by decide)) (Qe6 (b:=2) (by decide)) hc (c:=c.less k) (fun j ob hj hob=>?_) [(0,x0),(1,x1)] 2 (by decide) (by decide) (fun j hj=>?_) (fun j hj=>?_) rfl ⟨hx0,l0,rfl,hx1,l1,rfl,trivial⟩ ht
 ·by_cases e0:j=0
  ·subst e0;rw[←hob];exact h0
  by_cases e3:j=3
  ·subst e3;rw[←hob];exact h3
  rw[Qo7 e3,ho j hj e0 e3,Jc Xb hj,←QrF (k:=k) (b:=2) e0 e3];exact hob
 ·rcases QvL (b:=2) (nx:=3) (by decide) j hj with h|h
  ·exact .inl h
  exact .inr ⟨h,rfl⟩
 unfold kμ;constructor<;>split<;>omega
theorem WOk.less {l:Qv}{c:Cl}{X:List Qz}{K:Nat}(h:WOk l c X K)(j:Nat):WOk l (c.less j) X K:=
 have h2:(c.less j).net.length≤90000:=by
  have h1:=h.lnet
  show(c.net.take j++c.net.drop (j+1)).length≤90000
  rw[List.length_append,List.length_take,List.length_drop];omega
 ⟨h.hc,h.hX,h.hl,h.hK,h.f1,h.f5,h.dn,h.ins,h.nd,h2,h.llrn,h.lins⟩
theorem QqO (l:Qv){c:Cl}{X:List Qz}{K:Nat}(hw:WOk l c X K)(x:Sp)(hk13:1≤x.k∧x.k≤3)(hmsg:∀m∈c.net,MOk l X c m):GX Tryz.prog 54 [.ptr Qf 0,.agg (spC x)] (KL l c bg) (bl true) (KL l (J5 l c x) oμ) 6:=by
 have hok:=hw.ok
 have hc:=hw.hc
 have hO:=Q9 hc
 have f1:=hw.f1
 have f5:=hw.f5
 have hdn:=hw.dn
 have hin:=hw.ins
 have ln:=hw.lnet
 have ll:=hw.llrn
 obtain⟨i,hi⟩:∃i:Nat,(W8 x.nd c.F.length)=(i:Nat):=⟨(W8 x.nd c.F.length).toNat,by have:=QbI (nd:=x.nd) f1;omega⟩
 have hlt:i<c.F.length:=by have:=QbI (nd:=x.nd) f1;omega
 have hti:(W8 x.nd c.F.length).toNat=i:=by omega
 have htm : -(c.F.length:Int)<x.nd.tmod c.F.length:=by
  have h3:=Int.tmod_lt_of_pos (-x.nd) (show(0:Int)<c.F.length by omega)
  rw[Int.neg_tmod] at h3;omega
 refine Xt [4] Tryz.func54 rfl rfl 196 Tryz.ntmps54 (Nat.le_of_ble_eq_true rfl) ?_
 intro E hN;refine X5 ?_;refine zP (YD rfl rfl rfl JR) ?_;refine Xy ?_;refine zP (Qom rfl rfl rfl (by omega)) ?_;refine QI ?_;refine JI (⟨[(0,.ptr Qf 0),(3,.ptr 0 0),(5,i64 c.F.length),(6,i64 i),(7,i64 (-1))],[(0,.var 101 (spC x))]++KL l c bg,1⟩) ?_ ?_
 ·refine QL ?_
  refine zq ?_ ?_<;>intro h10
  ·have hng:x.nd.tmod c.F.length<0:=by simpa using h10
   refine QL ?_;refine Qc ?_;exact QbM ⟨rfl,rfl,rfl,(Y5 (by have h:=hi;unfold W8 at h;split at h<;>omega)),rfl,trivial⟩
  have hng:¬x.nd.tmod c.F.length<0:=by simpa using h10
  refine QM ?_;exact QbM ⟨rfl,rfl,rfl,(Y5 (by have h:=hi;unfold W8 at h;split at h<;>omega)),rfl,trivial⟩
 refine JI (⟨[(0,.ptr Qf 0),(3,.ptr 0 0),(5,i64 c.F.length),(6,i64 i),(7,i64 (Qcv c x.w))],[(0,.var 101 (spC x))]++KL l c bg,1⟩) ?_ ?_
 ·refine XL ?_;refine zP (YD rfl rfl rfl (by simp)) ?_;refine QR ?_
  refine zc 31 ?_ ?_<;>intro h20
  rotate_left
  ·skip
   refine XL ?_;refine QM ?_;exact QbM ⟨rfl,rfl,rfl,rfl,(Y5 (by unfold Qcv;split<;>(simp_all;try omega))),trivial⟩
  have hnl:0<c.net.length:=by simpa using h20
  refine QL ?_
  refine zq ?_ ?_<;>intro h23
  rotate_left
  ·skip
   refine QM ?_;exact QbM ⟨rfl,rfl,rfl,rfl,(Y5 (by unfold Qcv;split<;>(simp_all;try omega))),trivial⟩
  have hwv:(0:Int)≤x.w:=by simpa using h23
  refine zD 8 ?_;refine XL ?_;refine zp (YD rfl rfl rfl (by simp)) ?_;refine zp (Qom rfl rfl rfl (by omega)) ?_;refine zS ?_;refine Qc ?_;exact QbM ⟨rfl,rfl,rfl,rfl,(Y5 (by unfold Qcv;split<;>(simp_all;try omega))),trivial⟩
 refine QR ?_
 by_cases hκ:(Qcv c x.w)<0
 ·skip
  refine QI ?_;refine zP (QD (b:=true) rfl rfl rfl (by simp;omega)) ?_;refine QI ?_;refine zP (QD (b:=true) rfl rfl rfl (by simp;omega)) ?_;refine Xy ?_;refine zP (QD (b:=true) rfl rfl rfl (by simp;omega)) ?_;refine XL ?_;rw[show J5 l c x=c from by unfold J5;rw[if_pos hk13,if_pos hκ]];refine QC (YI Xb hok (Xn.cons (x:=.var 101 (spC x)) (Kw (q:=0) (by decide)) (Xn.self (l:=l) (c:=c) Xb)) QbU (t':=[(4,bl true)]) ⟨rfl,rfl,trivial⟩) ?_;refine Qu ?_;change (Xz _ _).ntt=_∧_
  exact Ya rfl rfl rfl rfl rfl X8 hok Qa5 (Xn.self X8)
 obtain⟨j,hj⟩:∃j:Nat,(Qcv c x.w)=(j:Nat):=⟨(Qcv c x.w).toNat,by omega⟩
 have hjl:j<c.net.length:=by have:=QnI (c:=c) (w:=x.w);omega
 have htj:(Qcv c x.w).toNat=j:=by omega
 obtain⟨m,hm⟩:∃m,c.net[j]?=some m:=⟨_,List.getElem?_eq_getElem hjl⟩
 have hmo:=hmsg m (List.mem_of_getElem? hm)
 by_cases hk2:x.k=2
 ·skip
  refine QI ?_;refine zP (QD (b:=true) rfl rfl rfl (by simp;omega)) ?_;refine QI ?_;refine zP (QD (b:=true) rfl rfl rfl (by simp;omega)) ?_;refine Xy ?_;refine zP (QD (b:=false) rfl rfl rfl (by simp;omega)) ?_;refine XR ?_;refine zP (QU rfl rfl rfl rfl (by simp) j hj hjl) ?_;refine zP (XJ rfl rfl rfl (by simp) (fun e he=>by obtain⟨b,-,rfl⟩:=List.mem_map.1 he;rfl) j rfl (Qt hm) (r:=.agg (Ja m)) (fun _=>rfl) rfl) ?_;refine Jl ?_;refine zP (QD (b:=false) rfl rfl rfl (by simp[hk2])) ?_;refine QK ?_
  have hst:J5 l c x=Qde l c m:=by
   unfold J5
   rw[if_pos hk13,if_neg (by omega),htj,hm]
   show(if x.k=3 then c.less j else Qde l (if x.k=2 then c else c.less j) m)=_
   rw[if_neg (by omega),if_pos hk2]
  rw[hst];refine QI ?_;refine zP (QD (b:=false) rfl rfl rfl (by simp[hk2])) ?_;refine QI ?_
  refine QdL hN (c:=c) (by exact(hw).ok) (c':=Qde l c m) (Qc7 (by exact(hw).ok)) (QtF (hw) hmo) X8 (fun _=>rfl) rfl (fun _=>rfl) (fun _=>rfl) (.fn _ _ _ _ rfl rfl) (ν:=bg) Xb (by intro j ob hj ho;first|exact hclB j ob hj ho|(rw[Qe _ _ (Kw (by decide) j hj)];rw[Qe _ _ (Kw (by decide) j hj)];exact(Xn.cons (x:=.var 101 (spC x)) (Kw (q:=0) (by decide)) (Xn.self (l:=l) (c:=c) Xb)) j ob hj ho)) (by decide) Qrp (fun j _ h=>QiE (Qc7 (by exact(hw).ok)) QtI Qsp h) rfl rfl rfl rfl (fun H2 hcl2 _=>?_)
  refine QI ?_;refine QC (YI (QkC X8 Xb Qg2 (by decide)) (Qc7 hok) hcl2 (Qov QbU) (t':=[(4,bl true)]) ⟨rfl,rfl,trivial⟩) ?_;refine Qu ?_;change (Xz _ _).ntt=_∧_;exact Ya rfl rfl rfl rfl rfl X8 (Qc7 hok) Qa5 (Xn.self X8)
 skip
 by_cases hk3:x.k=3
 ·skip
  refine QI ?_;refine zP (QD (b:=true) rfl rfl rfl (by simp;omega)) ?_;refine QI ?_;refine zP (QD (b:=true) rfl rfl rfl (by simp;omega)) ?_;refine Xy ?_;refine zP (QD (b:=false) rfl rfl rfl (by simp;omega)) ?_;refine XR ?_;refine zP (QU rfl rfl rfl rfl (by simp) j hj hjl) ?_;refine zP (XJ rfl rfl rfl (by simp) (fun e he=>by obtain⟨b,-,rfl⟩:=List.mem_map.1 he;rfl) j rfl (Qt hm) (r:=.agg (Ja m)) (fun _=>rfl) rfl) ?_;refine QI ?_
  refine JI (⟨[(0,.ptr Qf 0),(3,.ptr 0 0),(8,.ptr 1 0)],[(0,.var 101 (spC x)),(1,.var 54 (Ja m))]++KL l (c.less j) (kμ 2),3⟩) ?_ ?_
  ·refine QK ?_;refine zP (QD (b:=true) rfl rfl rfl (by simp[hk2])) ?_;refine QR ?_;refine QC (Qe3 Qf 8 (bg 3) rfl rfl rfl rfl (by simp) (QS _) (Js _) rfl) ?_;refine Qew 20 rfl (by kernel_rfl) (by kernel_rfl) (fun _ _ h=>h) ?_;refine yM 0 ?_;refine yM 2 ?_;refine Xg 3 rfl (by kernel_rfl) (by kernel_rfl) rfl (Qcs hN rfl rfl rfl rfl rfl rfl rfl) ?_;refine Xg 4 rfl (by kernel_rfl) (by kernel_rfl) rfl (Jp hN rfl rfl rfl rfl rfl rfl rfl rfl) ?_;refine yM 6 ?_;refine yM 9 ?_
   refine Xg 10 rfl (by kernel_rfl) (by kernel_rfl) rfl (Qcs hN rfl rfl rfl rfl rfl rfl rfl) ?_;refine Xg 11 rfl (by kernel_rfl) (by kernel_rfl) rfl (Jp hN rfl rfl rfl rfl rfl rfl rfl rfl) ?_;refine yM 13 ?_;refine Xg 14 rfl (by kernel_rfl) (by kernel_rfl) rfl (Qon hN rfl rfl rfl (by omega) rfl rfl rfl rfl) ?_;refine Qi [1,5,12] (by kernel_rfl) rfl ⟨.inr (.inr (YU hN rfl rfl rfl rfl rfl rfl rfl ?_)),.inl (QG rfl ?_),.inl (QG rfl ?_),trivial⟩
   ·change AU _ _ _ _ _ _ _ _;refine Qi [5,12] (by kernel_rfl) rfl ⟨.inl (QG rfl ?_),.inl (QG rfl ?_),trivial⟩
    ·refine zl ?_;change AU _ _ _ _ _ _ _ _;refine Xg 7 rfl (by kernel_rfl) (by kernel_rfl) rfl (QeO hN (l:=c.net) (f:=fun b=>Ja b) rfl rfl rfl j hj (by omega) (fun _=>rfl) rfl rfl rfl rfl) ?_;refine Qi [8,12] (by kernel_rfl) rfl ⟨.inr (.inr (Qk hN rfl rfl rfl rfl (by simp) rfl rfl (QS _) (by simp;omega) rfl rfl rfl rfl ?_)),.inl (QG rfl ?_),trivial⟩
     ·change AU _ _ _ _ _ _ _ _;refine yL 12 ?_;refine Xg 15 rfl (by kernel_rfl) (by kernel_rfl) rfl (KI hN (l:=c.net) (f:=fun b=>Ja b) rfl rfl rfl (j+1) (by omega) (by omega) (fun _=>rfl) rfl rfl rfl rfl) ?_;refine Qi [16] (by kernel_rfl) rfl ⟨.inr (.inr (Qk hN rfl rfl rfl rfl (by simp) rfl rfl (QS _) (by simp;omega) rfl rfl rfl rfl ?_)),trivial⟩;change AU _ _ _ _ _ _ _ _;refine yP 17 rfl (Wd rfl rfl rfl) ?_;refine yP 18 rfl (Xj rfl rfl rfl rfl) ?_
      refine Qi [19] (by kernel_rfl) rfl ⟨.inr (.inl (Xs rfl rfl rfl rfl rfl (QP rfl (by simp)) rfl (Nat.le_of_ble_eq_true rfl) rfl rfl rfl rfl ?_)),trivial⟩;change AU _ _ _ _ _ _ _ _;refine yD ?_
      exact JT hok (by first|rfl|(simp only[Cl.less,clC,List.length_append,List.length_map,Nat.zero_add];rfl)) (by first|rfl|(simp only[Cl.less,List.map_append,List.map_take,List.map_drop];rfl)) (fun j hj h0 h3=>by have hi:Qf=1000000:=rfl;have hb:bg j=Qf+j:=rfl;repeat (first|rfl|rw[Qe _ _ (by first|omega|(unfold bg;omega))]|rw[XF,if_neg (by unfold bg;omega)]|rw[List.singleton_append])) rfl rfl rfl rfl ⟨rfl,rfl,rfl,rfl,rfl,rfl,trivial⟩
     refine zl ?_;change AU _ _ _ _ _ _ _ _;refine Xg 15 rfl (by kernel_rfl) (by kernel_rfl) rfl (KI hN (l:=c.net) (f:=fun b=>Ja b) rfl rfl rfl (j+1) (by omega) (by omega) (fun _=>rfl) rfl rfl rfl rfl) ?_;refine Qi [8] (by kernel_rfl) rfl ⟨.inr (.inr (Qk hN rfl rfl rfl rfl (by simp) rfl rfl (QS _) (by simp;omega) rfl rfl rfl rfl ?_)),trivial⟩;change AU _ _ _ _ _ _ _ _;refine Qi [16] (by kernel_rfl) rfl ⟨.inr (.inr (Qk hN rfl rfl rfl rfl (by simp) rfl rfl (QS _) (by simp;omega) rfl rfl rfl rfl ?_)),trivial⟩
     change AU _ _ _ _ _ _ _ _;refine yP 17 rfl (Wd rfl rfl rfl) ?_;refine yP 18 rfl (Xj rfl rfl rfl rfl) ?_;refine Qi [19] (by kernel_rfl) rfl ⟨.inr (.inl (Xs rfl rfl rfl rfl rfl (QP rfl (by simp)) rfl (Nat.le_of_ble_eq_true rfl) rfl rfl rfl rfl ?_)),trivial⟩;change AU _ _ _ _ _ _ _ _;refine yD ?_
     exact JT hok (by first|rfl|(simp only[Cl.less,clC,List.length_append,List.length_map,Nat.zero_add];rfl)) (by first|rfl|(simp only[Cl.less,List.map_append,List.map_take,List.map_drop];rfl)) (fun j hj h0 h3=>by have hi:Qf=1000000:=rfl;have hb:bg j=Qf+j:=rfl;repeat (first|rfl|rw[Qe _ _ (by first|omega|(unfold bg;omega))]|rw[XF,if_neg (by unfold bg;omega)]|rw[List.singleton_append])) rfl rfl rfl rfl ⟨rfl,rfl,rfl,rfl,rfl,rfl,trivial⟩
    refine zl ?_;change AU _ _ _ _ _ _ _ _;refine Xg 15 rfl (by kernel_rfl) (by kernel_rfl) rfl (KI hN (l:=c.net) (f:=fun b=>Ja b) rfl rfl rfl (j+1) (by omega) (by omega) (fun _=>rfl) rfl rfl rfl rfl) ?_;refine yL 5 ?_;refine Xg 7 rfl (by kernel_rfl) (by kernel_rfl) rfl (QeO hN (l:=c.net) (f:=fun b=>Ja b) rfl rfl rfl j hj (by omega) (fun _=>rfl) rfl rfl rfl rfl) ?_;refine Qi [8] (by kernel_rfl) rfl ⟨.inr (.inr (Qk hN rfl rfl rfl rfl (by simp) rfl rfl (QS _) (by simp;omega) rfl rfl rfl rfl ?_)),trivial⟩;change AU _ _ _ _ _ _ _ _
    refine Qi [16] (by kernel_rfl) rfl ⟨.inr (.inr (Qk hN rfl rfl rfl rfl (by simp) rfl rfl (QS _) (by simp;omega) rfl rfl rfl rfl ?_)),trivial⟩;change AU _ _ _ _ _ _ _ _;refine yP 17 rfl (Wd rfl rfl rfl) ?_;refine yP 18 rfl (Xj rfl rfl rfl rfl) ?_;refine Qi [19] (by kernel_rfl) rfl ⟨.inr (.inl (Xs rfl rfl rfl rfl rfl (QP rfl (by simp)) rfl (Nat.le_of_ble_eq_true rfl) rfl rfl rfl rfl ?_)),trivial⟩;change AU _ _ _ _ _ _ _ _;refine yD ?_
    exact JT hok (by first|rfl|(simp only[Cl.less,clC,List.length_append,List.length_map,Nat.zero_add];rfl)) (by first|rfl|(simp only[Cl.less,List.map_append,List.map_take,List.map_drop];rfl)) (fun j hj h0 h3=>by have hi:Qf=1000000:=rfl;have hb:bg j=Qf+j:=rfl;repeat (first|rfl|rw[Qe _ _ (by first|omega|(unfold bg;omega))]|rw[XF,if_neg (by unfold bg;omega)]|rw[List.singleton_append])) rfl rfl rfl rfl ⟨rfl,rfl,rfl,rfl,rfl,rfl,trivial⟩
   ·refine zl ?_;change AU _ _ _ _ _ _ _ _;refine Xg 7 rfl (by kernel_rfl) (by kernel_rfl) rfl (QeO hN (l:=c.net) (f:=fun b=>Ja b) rfl rfl rfl j hj (by omega) (fun _=>rfl) rfl rfl rfl rfl) ?_;refine Qi [1,12] (by kernel_rfl) rfl ⟨.inr (.inr (YU hN rfl rfl rfl rfl rfl rfl rfl ?_)),.inl (QG rfl ?_),trivial⟩
    ·change AU _ _ _ _ _ _ _ _;refine Qi [8,12] (by kernel_rfl) rfl ⟨.inr (.inr (Qk hN rfl rfl rfl rfl (by simp) rfl rfl (QS _) (by simp;omega) rfl rfl rfl rfl ?_)),.inl (QG rfl ?_),trivial⟩
     ·change AU _ _ _ _ _ _ _ _;refine yL 12 ?_;refine Xg 15 rfl (by kernel_rfl) (by kernel_rfl) rfl (KI hN (l:=c.net) (f:=fun b=>Ja b) rfl rfl rfl (j+1) (by omega) (by omega) (fun _=>rfl) rfl rfl rfl rfl) ?_;refine Qi [16] (by kernel_rfl) rfl ⟨.inr (.inr (Qk hN rfl rfl rfl rfl (by simp) rfl rfl (QS _) (by simp;omega) rfl rfl rfl rfl ?_)),trivial⟩;change AU _ _ _ _ _ _ _ _;refine yP 17 rfl (Wd rfl rfl rfl) ?_;refine yP 18 rfl (Xj rfl rfl rfl rfl) ?_
      refine Qi [19] (by kernel_rfl) rfl ⟨.inr (.inl (Xs rfl rfl rfl rfl rfl (QP rfl (by simp)) rfl (Nat.le_of_ble_eq_true rfl) rfl rfl rfl rfl ?_)),trivial⟩;change AU _ _ _ _ _ _ _ _;refine yD ?_
      exact JT hok (by first|rfl|(simp only[Cl.less,clC,List.length_append,List.length_map,Nat.zero_add];rfl)) (by first|rfl|(simp only[Cl.less,List.map_append,List.map_take,List.map_drop];rfl)) (fun j hj h0 h3=>by have hi:Qf=1000000:=rfl;have hb:bg j=Qf+j:=rfl;repeat (first|rfl|rw[Qe _ _ (by first|omega|(unfold bg;omega))]|rw[XF,if_neg (by unfold bg;omega)]|rw[List.singleton_append])) rfl rfl rfl rfl ⟨rfl,rfl,rfl,rfl,rfl,rfl,trivial⟩
     refine zl ?_;change AU _ _ _ _ _ _ _ _;refine Xg 15 rfl (by kernel_rfl) (by kernel_rfl) rfl (KI hN (l:=c.net) (f:=fun b=>Ja b) rfl rfl rfl (j+1) (by omega) (by omega) (fun _=>rfl) rfl rfl rfl rfl) ?_;refine Qi [8] (by kernel_rfl) rfl ⟨.inr (.inr (Qk hN rfl rfl rfl rfl (by simp) rfl rfl (QS _) (by simp;omega) rfl rfl rfl rfl ?_)),trivial⟩;change AU _ _ _ _ _ _ _ _;refine Qi [16] (by kernel_rfl) rfl ⟨.inr (.inr (Qk hN rfl rfl rfl rfl (by simp) rfl rfl (QS _) (by simp;omega) rfl rfl rfl rfl ?_)),trivial⟩
     change AU _ _ _ _ _ _ _ _;refine yP 17 rfl (Wd rfl rfl rfl) ?_;refine yP 18 rfl (Xj rfl rfl rfl rfl) ?_;refine Qi [19] (by kernel_rfl) rfl ⟨.inr (.inl (Xs rfl rfl rfl rfl rfl (QP rfl (by simp)) rfl (Nat.le_of_ble_eq_true rfl) rfl rfl rfl rfl ?_)),trivial⟩;change AU _ _ _ _ _ _ _ _;refine yD ?_
     exact JT hok (by first|rfl|(simp only[Cl.less,clC,List.length_append,List.length_map,Nat.zero_add];rfl)) (by first|rfl|(simp only[Cl.less,List.map_append,List.map_take,List.map_drop];rfl)) (fun j hj h0 h3=>by have hi:Qf=1000000:=rfl;have hb:bg j=Qf+j:=rfl;repeat (first|rfl|rw[Qe _ _ (by first|omega|(unfold bg;omega))]|rw[XF,if_neg (by unfold bg;omega)]|rw[List.singleton_append])) rfl rfl rfl rfl ⟨rfl,rfl,rfl,rfl,rfl,rfl,trivial⟩
    refine zl ?_;change AU _ _ _ _ _ _ _ _;refine Xg 15 rfl (by kernel_rfl) (by kernel_rfl) rfl (KI hN (l:=c.net) (f:=fun b=>Ja b) rfl rfl rfl (j+1) (by omega) (by omega) (fun _=>rfl) rfl rfl rfl rfl) ?_;refine Qi [1] (by kernel_rfl) rfl ⟨.inr (.inr (YU hN rfl rfl rfl rfl rfl rfl rfl ?_)),trivial⟩;change AU _ _ _ _ _ _ _ _;refine Qi [8] (by kernel_rfl) rfl ⟨.inr (.inr (Qk hN rfl rfl rfl rfl (by simp) rfl rfl (QS _) (by simp;omega) rfl rfl rfl rfl ?_)),trivial⟩;change AU _ _ _ _ _ _ _ _
    refine Qi [16] (by kernel_rfl) rfl ⟨.inr (.inr (Qk hN rfl rfl rfl rfl (by simp) rfl rfl (QS _) (by simp;omega) rfl rfl rfl rfl ?_)),trivial⟩;change AU _ _ _ _ _ _ _ _;refine yP 17 rfl (Wd rfl rfl rfl) ?_;refine yP 18 rfl (Xj rfl rfl rfl rfl) ?_;refine Qi [19] (by kernel_rfl) rfl ⟨.inr (.inl (Xs rfl rfl rfl rfl rfl (QP rfl (by simp)) rfl (Nat.le_of_ble_eq_true rfl) rfl rfl rfl rfl ?_)),trivial⟩;change AU _ _ _ _ _ _ _ _;refine yD ?_
    exact JT hok (by first|rfl|(simp only[Cl.less,clC,List.length_append,List.length_map,Nat.zero_add];rfl)) (by first|rfl|(simp only[Cl.less,List.map_append,List.map_take,List.map_drop];rfl)) (fun j hj h0 h3=>by have hi:Qf=1000000:=rfl;have hb:bg j=Qf+j:=rfl;repeat (first|rfl|rw[Qe _ _ (by first|omega|(unfold bg;omega))]|rw[XF,if_neg (by unfold bg;omega)]|rw[List.singleton_append])) rfl rfl rfl rfl ⟨rfl,rfl,rfl,rfl,rfl,rfl,trivial⟩
   refine zl ?_;change AU _ _ _ _ _ _ _ _;refine Xg 15 rfl (by kernel_rfl) (by kernel_rfl) rfl (KI hN (l:=c.net) (f:=fun b=>Ja b) rfl rfl rfl (j+1) (by omega) (by omega) (fun _=>rfl) rfl rfl rfl rfl) ?_;refine Qi [1,5] (by kernel_rfl) rfl ⟨.inr (.inr (YU hN rfl rfl rfl rfl rfl rfl rfl ?_)),.inl (QG rfl ?_),trivial⟩
   ·change AU _ _ _ _ _ _ _ _;refine yL 5 ?_;refine Xg 7 rfl (by kernel_rfl) (by kernel_rfl) rfl (QeO hN (l:=c.net) (f:=fun b=>Ja b) rfl rfl rfl j hj (by omega) (fun _=>rfl) rfl rfl rfl rfl) ?_;refine Qi [8] (by kernel_rfl) rfl ⟨.inr (.inr (Qk hN rfl rfl rfl rfl (by simp) rfl rfl (QS _) (by simp;omega) rfl rfl rfl rfl ?_)),trivial⟩;change AU _ _ _ _ _ _ _ _;refine Qi [16] (by kernel_rfl) rfl ⟨.inr (.inr (Qk hN rfl rfl rfl rfl (by simp) rfl rfl (QS _) (by simp;omega) rfl rfl rfl rfl ?_)),trivial⟩;change AU _ _ _ _ _ _ _ _
    refine yP 17 rfl (Wd rfl rfl rfl) ?_;refine yP 18 rfl (Xj rfl rfl rfl rfl) ?_;refine Qi [19] (by kernel_rfl) rfl ⟨.inr (.inl (Xs rfl rfl rfl rfl rfl (QP rfl (by simp)) rfl (Nat.le_of_ble_eq_true rfl) rfl rfl rfl rfl ?_)),trivial⟩;change AU _ _ _ _ _ _ _ _;refine yD ?_
    exact JT hok (by first|rfl|(simp only[Cl.less,clC,List.length_append,List.length_map,Nat.zero_add];rfl)) (by first|rfl|(simp only[Cl.less,List.map_append,List.map_take,List.map_drop];rfl)) (fun j hj h0 h3=>by have hi:Qf=1000000:=rfl;have hb:bg j=Qf+j:=rfl;repeat (first|rfl|rw[Qe _ _ (by first|omega|(unfold bg;omega))]|rw[XF,if_neg (by unfold bg;omega)]|rw[List.singleton_append])) rfl rfl rfl rfl ⟨rfl,rfl,rfl,rfl,rfl,rfl,trivial⟩
   refine zl ?_;change AU _ _ _ _ _ _ _ _;refine Xg 7 rfl (by kernel_rfl) (by kernel_rfl) rfl (QeO hN (l:=c.net) (f:=fun b=>Ja b) rfl rfl rfl j hj (by omega) (fun _=>rfl) rfl rfl rfl rfl) ?_;refine Qi [1] (by kernel_rfl) rfl ⟨.inr (.inr (YU hN rfl rfl rfl rfl rfl rfl rfl ?_)),trivial⟩;change AU _ _ _ _ _ _ _ _;refine Qi [8] (by kernel_rfl) rfl ⟨.inr (.inr (Qk hN rfl rfl rfl rfl (by simp) rfl rfl (QS _) (by simp;omega) rfl rfl rfl rfl ?_)),trivial⟩;change AU _ _ _ _ _ _ _ _
   refine Qi [16] (by kernel_rfl) rfl ⟨.inr (.inr (Qk hN rfl rfl rfl rfl (by simp) rfl rfl (QS _) (by simp;omega) rfl rfl rfl rfl ?_)),trivial⟩;change AU _ _ _ _ _ _ _ _;refine yP 17 rfl (Wd rfl rfl rfl) ?_;refine yP 18 rfl (Xj rfl rfl rfl rfl) ?_;refine Qi [19] (by kernel_rfl) rfl ⟨.inr (.inl (Xs rfl rfl rfl rfl rfl (QP rfl (by simp)) rfl (Nat.le_of_ble_eq_true rfl) rfl rfl rfl rfl ?_)),trivial⟩;change AU _ _ _ _ _ _ _ _;refine yD ?_
   exact JT hok (by first|rfl|(simp only[Cl.less,clC,List.length_append,List.length_map,Nat.zero_add];rfl)) (by first|rfl|(simp only[Cl.less,List.map_append,List.map_take,List.map_drop];rfl)) (fun j hj h0 h3=>by have hi:Qf=1000000:=rfl;have hb:bg j=Qf+j:=rfl;repeat (first|rfl|rw[Qe _ _ (by first|omega|(unfold bg;omega))]|rw[XF,if_neg (by unfold bg;omega)]|rw[List.singleton_append])) rfl rfl rfl rfl ⟨rfl,rfl,rfl,rfl,rfl,rfl,trivial⟩
  refine Yy ?_
  have hst:J5 l c x=c.less j:=by
   unfold J5
   rw[if_pos hk13,if_neg (by omega),htj,hm]
   show(if x.k=3 then c.less j else Qde l (if x.k=2 then c else c.less j) m)=_
   rw[if_pos hk3]
  rw[hst];refine QI ?_;refine zP (QD (b:=true) rfl rfl rfl (by simp[hk3])) ?_;refine Xy ?_;refine QC (YI (Qe6 (b:=2) (by decide)) (show(c.less j).ok from hok) (((Xn.self (l:=l) (c:=c.less j) (Qe6 (b:=2) (by decide))).cons (x:=.var 54 (Ja m)) (fun j _=>by have hi:Qf=1000000:=rfl;unfold kμ;split<;>omega)).cons (x:=.var 101 (spC x)) (fun j _=>by have hi:Qf=1000000:=rfl;unfold kμ;split<;>omega)) QsU (t':=[(4,bl true)]) ⟨rfl,rfl,trivial⟩) ?_;refine Qu ?_;change (Xz _ _).ntt=_∧_
  exact Ya rfl rfl rfl rfl rfl X8 (show(c.less j).ok from hok) Qa5 (Xn.self X8)
 skip
 refine QI ?_;refine zP (QD (b:=true) rfl rfl rfl (by simp;omega)) ?_;refine QI ?_;refine zP (QD (b:=true) rfl rfl rfl (by simp;omega)) ?_;refine Xy ?_;refine zP (QD (b:=false) rfl rfl rfl (by simp;omega)) ?_;refine XR ?_;refine zP (QU rfl rfl rfl rfl (by simp) j hj hjl) ?_;refine zP (XJ rfl rfl rfl (by simp) (fun e he=>by obtain⟨b,-,rfl⟩:=List.mem_map.1 he;rfl) j rfl (Qt hm) (r:=.agg (Ja m)) (fun _=>rfl) rfl) ?_;refine QI ?_
 refine JI (⟨[(0,.ptr Qf 0),(3,.ptr 0 0),(8,.ptr 1 0)],[(0,.var 101 (spC x)),(1,.var 54 (Ja m))]++KL l (c.less j) (kμ 2),3⟩) ?_ ?_
 ·refine QK ?_;refine zP (QD (b:=true) rfl rfl rfl (by simp[hk2])) ?_;refine QR ?_;refine QC (Qe3 Qf 8 (bg 3) rfl rfl rfl rfl (by simp) (QS _) (Js _) rfl) ?_;refine Qew 20 rfl (by kernel_rfl) (by kernel_rfl) (fun _ _ h=>h) ?_;refine yM 0 ?_;refine yM 2 ?_;refine Xg 3 rfl (by kernel_rfl) (by kernel_rfl) rfl (Qcs hN rfl rfl rfl rfl rfl rfl rfl) ?_;refine Xg 4 rfl (by kernel_rfl) (by kernel_rfl) rfl (Jp hN rfl rfl rfl rfl rfl rfl rfl rfl) ?_;refine yM 6 ?_;refine yM 9 ?_
  refine Xg 10 rfl (by kernel_rfl) (by kernel_rfl) rfl (Qcs hN rfl rfl rfl rfl rfl rfl rfl) ?_;refine Xg 11 rfl (by kernel_rfl) (by kernel_rfl) rfl (Jp hN rfl rfl rfl rfl rfl rfl rfl rfl) ?_;refine yM 13 ?_;refine Xg 14 rfl (by kernel_rfl) (by kernel_rfl) rfl (Qon hN rfl rfl rfl (by omega) rfl rfl rfl rfl) ?_;refine Qi [1,5,12] (by kernel_rfl) rfl ⟨.inr (.inr (YU hN rfl rfl rfl rfl rfl rfl rfl ?_)),.inl (QG rfl ?_),.inl (QG rfl ?_),trivial⟩
  ·change AU _ _ _ _ _ _ _ _;refine Qi [5,12] (by kernel_rfl) rfl ⟨.inl (QG rfl ?_),.inl (QG rfl ?_),trivial⟩
   ·refine zl ?_;change AU _ _ _ _ _ _ _ _;refine Xg 7 rfl (by kernel_rfl) (by kernel_rfl) rfl (QeO hN (l:=c.net) (f:=fun b=>Ja b) rfl rfl rfl j hj (by omega) (fun _=>rfl) rfl rfl rfl rfl) ?_;refine Qi [8,12] (by kernel_rfl) rfl ⟨.inr (.inr (Qk hN rfl rfl rfl rfl (by simp) rfl rfl (QS _) (by simp;omega) rfl rfl rfl rfl ?_)),.inl (QG rfl ?_),trivial⟩
    ·change AU _ _ _ _ _ _ _ _;refine yL 12 ?_;refine Xg 15 rfl (by kernel_rfl) (by kernel_rfl) rfl (KI hN (l:=c.net) (f:=fun b=>Ja b) rfl rfl rfl (j+1) (by omega) (by omega) (fun _=>rfl) rfl rfl rfl rfl) ?_;refine Qi [16] (by kernel_rfl) rfl ⟨.inr (.inr (Qk hN rfl rfl rfl rfl (by simp) rfl rfl (QS _) (by simp;omega) rfl rfl rfl rfl ?_)),trivial⟩;change AU _ _ _ _ _ _ _ _;refine yP 17 rfl (Wd rfl rfl rfl) ?_;refine yP 18 rfl (Xj rfl rfl rfl rfl) ?_
     refine Qi [19] (by kernel_rfl) rfl ⟨.inr (.inl (Xs rfl rfl rfl rfl rfl (QP rfl (by simp)) rfl (Nat.le_of_ble_eq_true rfl) rfl rfl rfl rfl ?_)),trivial⟩;change AU _ _ _ _ _ _ _ _;refine yD ?_
     exact JT hok (by first|rfl|(simp only[Cl.less,clC,List.length_append,List.length_map,Nat.zero_add];rfl)) (by first|rfl|(simp only[Cl.less,List.map_append,List.map_take,List.map_drop];rfl)) (fun j hj h0 h3=>by have hi:Qf=1000000:=rfl;have hb:bg j=Qf+j:=rfl;repeat (first|rfl|rw[Qe _ _ (by first|omega|(unfold bg;omega))]|rw[XF,if_neg (by unfold bg;omega)]|rw[List.singleton_append])) rfl rfl rfl rfl ⟨rfl,rfl,rfl,rfl,rfl,rfl,trivial⟩
    refine zl ?_;change AU _ _ _ _ _ _ _ _;refine Xg 15 rfl (by kernel_rfl) (by kernel_rfl) rfl (KI hN (l:=c.net) (f:=fun b=>Ja b) rfl rfl rfl (j+1) (by omega) (by omega) (fun _=>rfl) rfl rfl rfl rfl) ?_;refine Qi [8] (by kernel_rfl) rfl ⟨.inr (.inr (Qk hN rfl rfl rfl rfl (by simp) rfl rfl (QS _) (by simp;omega) rfl rfl rfl rfl ?_)),trivial⟩;change AU _ _ _ _ _ _ _ _;refine Qi [16] (by kernel_rfl) rfl ⟨.inr (.inr (Qk hN rfl rfl rfl rfl (by simp) rfl rfl (QS _) (by simp;omega) rfl rfl rfl rfl ?_)),trivial⟩
    change AU _ _ _ _ _ _ _ _;refine yP 17 rfl (Wd rfl rfl rfl) ?_;refine yP 18 rfl (Xj rfl rfl rfl rfl) ?_;refine Qi [19] (by kernel_rfl) rfl ⟨.inr (.inl (Xs rfl rfl rfl rfl rfl (QP rfl (by simp)) rfl (Nat.le_of_ble_eq_true rfl) rfl rfl rfl rfl ?_)),trivial⟩;change AU _ _ _ _ _ _ _ _;refine yD ?_
    exact JT hok (by first|rfl|(simp only[Cl.less,clC,List.length_append,List.length_map,Nat.zero_add];rfl)) (by first|rfl|(simp only[Cl.less,List.map_append,List.map_take,List.map_drop];rfl)) (fun j hj h0 h3=>by have hi:Qf=1000000:=rfl;have hb:bg j=Qf+j:=rfl;repeat (first|rfl|rw[Qe _ _ (by first|omega|(unfold bg;omega))]|rw[XF,if_neg (by unfold bg;omega)]|rw[List.singleton_append])) rfl rfl rfl rfl ⟨rfl,rfl,rfl,rfl,rfl,rfl,trivial⟩
   refine zl ?_;change AU _ _ _ _ _ _ _ _;refine Xg 15 rfl (by kernel_rfl) (by kernel_rfl) rfl (KI hN (l:=c.net) (f:=fun b=>Ja b) rfl rfl rfl (j+1) (by omega) (by omega) (fun _=>rfl) rfl rfl rfl rfl) ?_;refine yL 5 ?_;refine Xg 7 rfl (by kernel_rfl) (by kernel_rfl) rfl (QeO hN (l:=c.net) (f:=fun b=>Ja b) rfl rfl rfl j hj (by omega) (fun _=>rfl) rfl rfl rfl rfl) ?_;refine Qi [8] (by kernel_rfl) rfl ⟨.inr (.inr (Qk hN rfl rfl rfl rfl (by simp) rfl rfl (QS _) (by simp;omega) rfl rfl rfl rfl ?_)),trivial⟩;change AU _ _ _ _ _ _ _ _
   refine Qi [16] (by kernel_rfl) rfl ⟨.inr (.inr (Qk hN rfl rfl rfl rfl (by simp) rfl rfl (QS _) (by simp;omega) rfl rfl rfl rfl ?_)),trivial⟩;change AU _ _ _ _ _ _ _ _;refine yP 17 rfl (Wd rfl rfl rfl) ?_;refine yP 18 rfl (Xj rfl rfl rfl rfl) ?_;refine Qi [19] (by kernel_rfl) rfl ⟨.inr (.inl (Xs rfl rfl rfl rfl rfl (QP rfl (by simp)) rfl (Nat.le_of_ble_eq_true rfl) rfl rfl rfl rfl ?_)),trivial⟩;change AU _ _ _ _ _ _ _ _;refine yD ?_
   exact JT hok (by first|rfl|(simp only[Cl.less,clC,List.length_append,List.length_map,Nat.zero_add];rfl)) (by first|rfl|(simp only[Cl.less,List.map_append,List.map_take,List.map_drop];rfl)) (fun j hj h0 h3=>by have hi:Qf=1000000:=rfl;have hb:bg j=Qf+j:=rfl;repeat (first|rfl|rw[Qe _ _ (by first|omega|(unfold bg;omega))]|rw[XF,if_neg (by unfold bg;omega)]|rw[List.singleton_append])) rfl rfl rfl rfl ⟨rfl,rfl,rfl,rfl,rfl,rfl,trivial⟩
  ·refine zl ?_;change AU _ _ _ _ _ _ _ _;refine Xg 7 rfl (by kernel_rfl) (by kernel_rfl) rfl (QeO hN (l:=c.net) (f:=fun b=>Ja b) rfl rfl rfl j hj (by omega) (fun _=>rfl) rfl rfl rfl rfl) ?_;refine Qi [1,12] (by kernel_rfl) rfl ⟨.inr (.inr (YU hN rfl rfl rfl rfl rfl rfl rfl ?_)),.inl (QG rfl ?_),trivial⟩
   ·change AU _ _ _ _ _ _ _ _;refine Qi [8,12] (by kernel_rfl) rfl ⟨.inr (.inr (Qk hN rfl rfl rfl rfl (by simp) rfl rfl (QS _) (by simp;omega) rfl rfl rfl rfl ?_)),.inl (QG rfl ?_),trivial⟩
    ·change AU _ _ _ _ _ _ _ _;refine yL 12 ?_;refine Xg 15 rfl (by kernel_rfl) (by kernel_rfl) rfl (KI hN (l:=c.net) (f:=fun b=>Ja b) rfl rfl rfl (j+1) (by omega) (by omega) (fun _=>rfl) rfl rfl rfl rfl) ?_;refine Qi [16] (by kernel_rfl) rfl ⟨.inr (.inr (Qk hN rfl rfl rfl rfl (by simp) rfl rfl (QS _) (by simp;omega) rfl rfl rfl rfl ?_)),trivial⟩;change AU _ _ _ _ _ _ _ _;refine yP 17 rfl (Wd rfl rfl rfl) ?_;refine yP 18 rfl (Xj rfl rfl rfl rfl) ?_
     refine Qi [19] (by kernel_rfl) rfl ⟨.inr (.inl (Xs rfl rfl rfl rfl rfl (QP rfl (by simp)) rfl (Nat.le_of_ble_eq_true rfl) rfl rfl rfl rfl ?_)),trivial⟩;change AU _ _ _ _ _ _ _ _;refine yD ?_
     exact JT hok (by first|rfl|(simp only[Cl.less,clC,List.length_append,List.length_map,Nat.zero_add];rfl)) (by first|rfl|(simp only[Cl.less,List.map_append,List.map_take,List.map_drop];rfl)) (fun j hj h0 h3=>by have hi:Qf=1000000:=rfl;have hb:bg j=Qf+j:=rfl;repeat (first|rfl|rw[Qe _ _ (by first|omega|(unfold bg;omega))]|rw[XF,if_neg (by unfold bg;omega)]|rw[List.singleton_append])) rfl rfl rfl rfl ⟨rfl,rfl,rfl,rfl,rfl,rfl,trivial⟩
    refine zl ?_;change AU _ _ _ _ _ _ _ _;refine Xg 15 rfl (by kernel_rfl) (by kernel_rfl) rfl (KI hN (l:=c.net) (f:=fun b=>Ja b) rfl rfl rfl (j+1) (by omega) (by omega) (fun _=>rfl) rfl rfl rfl rfl) ?_;refine Qi [8] (by kernel_rfl) rfl ⟨.inr (.inr (Qk hN rfl rfl rfl rfl (by simp) rfl rfl (QS _) (by simp;omega) rfl rfl rfl rfl ?_)),trivial⟩;change AU _ _ _ _ _ _ _ _;refine Qi [16] (by kernel_rfl) rfl ⟨.inr (.inr (Qk hN rfl rfl rfl rfl (by simp) rfl rfl (QS _) (by simp;omega) rfl rfl rfl rfl ?_)),trivial⟩
    change AU _ _ _ _ _ _ _ _;refine yP 17 rfl (Wd rfl rfl rfl) ?_;refine yP 18 rfl (Xj rfl rfl rfl rfl) ?_;refine Qi [19] (by kernel_rfl) rfl ⟨.inr (.inl (Xs rfl rfl rfl rfl rfl (QP rfl (by simp)) rfl (Nat.le_of_ble_eq_true rfl) rfl rfl rfl rfl ?_)),trivial⟩;change AU _ _ _ _ _ _ _ _;refine yD ?_
    exact JT hok (by first|rfl|(simp only[Cl.less,clC,List.length_append,List.length_map,Nat.zero_add];rfl)) (by first|rfl|(simp only[Cl.less,List.map_append,List.map_take,List.map_drop];rfl)) (fun j hj h0 h3=>by have hi:Qf=1000000:=rfl;have hb:bg j=Qf+j:=rfl;repeat (first|rfl|rw[Qe _ _ (by first|omega|(unfold bg;omega))]|rw[XF,if_neg (by unfold bg;omega)]|rw[List.singleton_append])) rfl rfl rfl rfl ⟨rfl,rfl,rfl,rfl,rfl,rfl,trivial⟩
   refine zl ?_;change AU _ _ _ _ _ _ _ _;refine Xg 15 rfl (by kernel_rfl) (by kernel_rfl) rfl (KI hN (l:=c.net) (f:=fun b=>Ja b) rfl rfl rfl (j+1) (by omega) (by omega) (fun _=>rfl) rfl rfl rfl rfl) ?_;refine Qi [1] (by kernel_rfl) rfl ⟨.inr (.inr (YU hN rfl rfl rfl rfl rfl rfl rfl ?_)),trivial⟩;change AU _ _ _ _ _ _ _ _;refine Qi [8] (by kernel_rfl) rfl ⟨.inr (.inr (Qk hN rfl rfl rfl rfl (by simp) rfl rfl (QS _) (by simp;omega) rfl rfl rfl rfl ?_)),trivial⟩;change AU _ _ _ _ _ _ _ _
   refine Qi [16] (by kernel_rfl) rfl ⟨.inr (.inr (Qk hN rfl rfl rfl rfl (by simp) rfl rfl (QS _) (by simp;omega) rfl rfl rfl rfl ?_)),trivial⟩;change AU _ _ _ _ _ _ _ _;refine yP 17 rfl (Wd rfl rfl rfl) ?_;refine yP 18 rfl (Xj rfl rfl rfl rfl) ?_;refine Qi [19] (by kernel_rfl) rfl ⟨.inr (.inl (Xs rfl rfl rfl rfl rfl (QP rfl (by simp)) rfl (Nat.le_of_ble_eq_true rfl) rfl rfl rfl rfl ?_)),trivial⟩;change AU _ _ _ _ _ _ _ _;refine yD ?_
   exact JT hok (by first|rfl|(simp only[Cl.less,clC,List.length_append,List.length_map,Nat.zero_add];rfl)) (by first|rfl|(simp only[Cl.less,List.map_append,List.map_take,List.map_drop];rfl)) (fun j hj h0 h3=>by have hi:Qf=1000000:=rfl;have hb:bg j=Qf+j:=rfl;repeat (first|rfl|rw[Qe _ _ (by first|omega|(unfold bg;omega))]|rw[XF,if_neg (by unfold bg;omega)]|rw[List.singleton_append])) rfl rfl rfl rfl ⟨rfl,rfl,rfl,rfl,rfl,rfl,trivial⟩
  refine zl ?_;change AU _ _ _ _ _ _ _ _;refine Xg 15 rfl (by kernel_rfl) (by kernel_rfl) rfl (KI hN (l:=c.net) (f:=fun b=>Ja b) rfl rfl rfl (j+1) (by omega) (by omega) (fun _=>rfl) rfl rfl rfl rfl) ?_;refine Qi [1,5] (by kernel_rfl) rfl ⟨.inr (.inr (YU hN rfl rfl rfl rfl rfl rfl rfl ?_)),.inl (QG rfl ?_),trivial⟩
  ·change AU _ _ _ _ _ _ _ _;refine yL 5 ?_;refine Xg 7 rfl (by kernel_rfl) (by kernel_rfl) rfl (QeO hN (l:=c.net) (f:=fun b=>Ja b) rfl rfl rfl j hj (by omega) (fun _=>rfl) rfl rfl rfl rfl) ?_;refine Qi [8] (by kernel_rfl) rfl ⟨.inr (.inr (Qk hN rfl rfl rfl rfl (by simp) rfl rfl (QS _) (by simp;omega) rfl rfl rfl rfl ?_)),trivial⟩;change AU _ _ _ _ _ _ _ _;refine Qi [16] (by kernel_rfl) rfl ⟨.inr (.inr (Qk hN rfl rfl rfl rfl (by simp) rfl rfl (QS _) (by simp;omega) rfl rfl rfl rfl ?_)),trivial⟩;change AU _ _ _ _ _ _ _ _
   refine yP 17 rfl (Wd rfl rfl rfl) ?_;refine yP 18 rfl (Xj rfl rfl rfl rfl) ?_;refine Qi [19] (by kernel_rfl) rfl ⟨.inr (.inl (Xs rfl rfl rfl rfl rfl (QP rfl (by simp)) rfl (Nat.le_of_ble_eq_true rfl) rfl rfl rfl rfl ?_)),trivial⟩;change AU _ _ _ _ _ _ _ _;refine yD ?_
   exact JT hok (by first|rfl|(simp only[Cl.less,clC,List.length_append,List.length_map,Nat.zero_add];rfl)) (by first|rfl|(simp only[Cl.less,List.map_append,List.map_take,List.map_drop];rfl)) (fun j hj h0 h3=>by have hi:Qf=1000000:=rfl;have hb:bg j=Qf+j:=rfl;repeat (first|rfl|rw[Qe _ _ (by first|omega|(unfold bg;omega))]|rw[XF,if_neg (by unfold bg;omega)]|rw[List.singleton_append])) rfl rfl rfl rfl ⟨rfl,rfl,rfl,rfl,rfl,rfl,trivial⟩
  refine zl ?_;change AU _ _ _ _ _ _ _ _;refine Xg 7 rfl (by kernel_rfl) (by kernel_rfl) rfl (QeO hN (l:=c.net) (f:=fun b=>Ja b) rfl rfl rfl j hj (by omega) (fun _=>rfl) rfl rfl rfl rfl) ?_;refine Qi [1] (by kernel_rfl) rfl ⟨.inr (.inr (YU hN rfl rfl rfl rfl rfl rfl rfl ?_)),trivial⟩;change AU _ _ _ _ _ _ _ _;refine Qi [8] (by kernel_rfl) rfl ⟨.inr (.inr (Qk hN rfl rfl rfl rfl (by simp) rfl rfl (QS _) (by simp;omega) rfl rfl rfl rfl ?_)),trivial⟩;change AU _ _ _ _ _ _ _ _
  refine Qi [16] (by kernel_rfl) rfl ⟨.inr (.inr (Qk hN rfl rfl rfl rfl (by simp) rfl rfl (QS _) (by simp;omega) rfl rfl rfl rfl ?_)),trivial⟩;change AU _ _ _ _ _ _ _ _;refine yP 17 rfl (Wd rfl rfl rfl) ?_;refine yP 18 rfl (Xj rfl rfl rfl rfl) ?_;refine Qi [19] (by kernel_rfl) rfl ⟨.inr (.inl (Xs rfl rfl rfl rfl rfl (QP rfl (by simp)) rfl (Nat.le_of_ble_eq_true rfl) rfl rfl rfl rfl ?_)),trivial⟩;change AU _ _ _ _ _ _ _ _;refine yD ?_
  exact JT hok (by first|rfl|(simp only[Cl.less,clC,List.length_append,List.length_map,Nat.zero_add];rfl)) (by first|rfl|(simp only[Cl.less,List.map_append,List.map_take,List.map_drop];rfl)) (fun j hj h0 h3=>by have hi:Qf=1000000:=rfl;have hb:bg j=Qf+j:=rfl;repeat (first|rfl|rw[Qe _ _ (by first|omega|(unfold bg;omega))]|rw[XF,if_neg (by unfold bg;omega)]|rw[List.singleton_append])) rfl rfl rfl rfl ⟨rfl,rfl,rfl,rfl,rfl,rfl,trivial⟩
 refine Yy ?_
 have hst:J5 l c x=Qde l (c.less j) m:=by
  unfold J5
  rw[if_pos hk13,if_neg (by omega),htj,hm]
  show(if x.k=3 then c.less j else Qde l (if x.k=2 then c else c.less j) m)=_
  rw[if_neg hk3,if_neg hk2]
 rw[hst];refine QI ?_;refine zP (QD (b:=false) rfl rfl rfl (by simp[hk3])) ?_;refine QI ?_
 refine QdL hN (c:=(c.less j)) (by exact(hw.less j).ok) (c':=Qde l (c.less j) m) (Qc7 (by exact(hw.less j).ok)) (QtF (hw.less j) hmo) X8 (fun _=>rfl) rfl (fun _=>rfl) (fun _=>rfl) (.fn _ _ _ _ rfl rfl) (ν:=(kμ 2)) (Qe6 (b:=2) (by decide)) (((Xn.self (l:=l) (c:=c.less j) (Qe6 (b:=2) (by decide))).cons (x:=.var 54 (Ja m)) (fun j _=>by have hi:Qf=1000000:=rfl;unfold kμ;split<;>omega)).cons (x:=.var 101 (spC x)) (fun j _=>by have hi:Qf=1000000:=rfl;unfold kμ;split<;>omega)) (by decide) Qrp (fun j _ h=>QiE (Qc7 (by exact(hw.less j).ok)) QtI Qsp h) rfl rfl rfl rfl (fun H2 hcl2 _=>?_)
 refine QI ?_;refine QC (YI (QkC X8 (Qe6 (b:=2) (by decide)) (QvL (by decide)) (by decide)) (Qc7 (show(c.less j).ok from hok)) hcl2 (Qov QsU) (t':=[(4,bl true)]) ⟨rfl,rfl,trivial⟩) ?_;refine Qu ?_;change (Xz _ _).ntt=_∧_;exact Ya rfl rfl rfl rfl rfl X8 (Qc7 (show(c.less j).ok from hok)) Qa5 (Xn.self X8)
end Go.Proofs.YtnkkokmmeplbgaaGreat
