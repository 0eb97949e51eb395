/-
  Contracts: a node, the other cases: begin alone, end into a 
-/
import Derived.Test.YtnkkokmmeplbgaaGreatN3
import Derived.Test.YtnkkokmmeplbgaaGreatA13
namespace Go.Proofs.YtnkkokmmeplbgaaGreat
set_option maxRecDepth 100000
set_option maxHeartbeats 1000000
open Go.RowKit
theorem QuB (l:Qv)(s:Nd)(hc:QJ l=0)(h1:1≤s.n)(h2:s.n≤12)(hs0:0≤s.self)(hs1:s.self<12)(hn0:0≤s.num)(hn1:s.num≤1000000)(ha:El l 50000 s.acc)(hwt:El l 50000 s.wt)(hl:El l 100000 s.lrn)(hq:Qav (Jv l s) (Ju l s)=true):GX Tryz.prog 80 [.ptr Qf 0] [(Qf,.var 131 (XP l s Jw))] (Qba (J4 (Jv l s) (Ju l s) Jn++Qa2 (Xv l (Jv l s) (Ju l s)))) [(Qf,.var 131 (XP l (Xv l (Jv l s) (Ju l s)) Jw))] 5:=by
 have hH:JK [(Qf,.var 131 (XP l s Jw))]:=JK.of rfl
 have hv:El l 100000 (Qs l s.acc s.wt):=ha.join (Q9 hc) (by omega) hwt
 have cPl:=WZ l s Jw [] hH hc (ha.up (by decide)) (hwt.up (by decide))
 have hln:(Xv l (Jv l s) (Ju l s)).n=s.n:=rfl
 refine Xt [2] Tryz.func80 rfl rfl 33 Tryz.ntmps80 (Nat.le_of_ble_eq_true rfl) ?_
 intro E hN;refine QL ?_;refine QeA [0,1,2,3,4,5,6,7,8,9,10,11,12] 13 [14,15,16] rfl (by kernel_rfl) (by kernel_rfl) ?_;refine XR ?_;refine zp (XH rfl rfl rfl rfl (by exact rfl) (by decide) (by decide) (Qcp s.acc s.wt)) ?_;refine zp (XE hH cPl rfl rfl rfl hH.pp) ?_;refine zp (QaS rfl rfl rfl) ?_;change FK _ _ _ _ _ _;refine QvP hN rfl rfl rfl (fun _=>rfl) rfl rfl rfl rfl rfl ?_;change Q3 _ _ _ _ _ _;refine QL ?_
 refine QC (Qgv 0 (cs':=Jy (QiP l s)) rfl (by repeat (first|exact trivial|refine⟨.inl rfl,?_⟩|refine⟨.inr ⟨rfl,rfl⟩,?_⟩))) ?_;refine QI ?_;refine zP (YO [(Qf,Qf),(Qf+1,0)] (QaJ l s (.ptr (Qf+1) 0) [((Qf+1),.var 137 (Jy (QiP l s)))] (JK.of rfl) hc) rfl rfl rfl rfl ⟨rfl,rfl,rfl,rfl,rfl,rfl,rfl,rfl,trivial⟩ rfl) ?_;refine Xy ?_
 refine Yd hN [(Qf,Qf),((Qf+1),0)] (QkU l { s with wt:=Qy l } (QiP l s) hc hs0 hs1 hn0 hn1) (.fn _ _ _ _ rfl rfl) rfl rfl rfl ⟨rfl,rfl,rfl,rfl,rfl,rfl,trivial⟩ rfl ⟨rfl,rfl,trivial⟩ rfl rfl rfl rfl rfl rfl rfl rfl ?_;refine QK ?_
 refine Yd hN [(Qf,Qf),((Qf+1),0)] (QfA l (Jv l s) (Ju l s) [] (JK.of rfl) hc h1 h2 hv Jn 98 [] (fun i _=>QfT (JK.of rfl) (i:Int)) rfl rfl rfl) (.fn _ _ _ _ rfl rfl) rfl rfl rfl ⟨rfl,rfl,rfl,rfl,rfl,rfl,trivial⟩ rfl ⟨Qkc (Js _),rfl,rfl,trivial⟩ rfl (Qic (Js _) rfl rfl) rfl rfl rfl rfl rfl rfl ?_;refine XL ?_
 refine Yd hN [(Qf,Qf),((Qf+1),0)] (Qpc l (Jv l s) (Ju l s) hc h1 h2 hl hv hq ((KJ _ _).2 rfl)) (.fn _ _ _ _ rfl rfl) rfl rfl rfl ⟨rfl,rfl,rfl,rfl,rfl,rfl,trivial⟩ rfl ⟨rfl,rfl,trivial⟩ rfl rfl rfl rfl rfl rfl rfl rfl ?_
 refine XA hN rfl rfl rfl (by rw[List.length_map]) rfl rfl (QS _) (by rw[List.length_map,List.length_map];have h8:=(show(J4 (Jv l s) (Ju l s) Jn).length≤s.n.toNat from Qbs ..);have h9:=(show(Qa2 (Xv l (Jv l s) (Ju l s))).length≤s.n.toNat from hln▸Qcy _);refine⟨?_,?_⟩<;>omega) rfl rfl rfl rfl ?_;refine zT ?_;refine QC (JU 2 2 rfl rfl (by rw[List.length_append,List.length_map,List.length_map]) (by rw[←List.map_append];exact QS _) (by rw[←List.map_append];exact Js _) rfl) ?_;refine Qu ?_
 change (Xz _ _).ntt=_∧_;refine Wb rfl ?_ rfl rfl rfl ⟨rfl,rfl,rfl,trivial⟩;exact congrArg (fun z=>AV.sl z none) (List.map_append (f:=fun b:Kb=>Ja b) ..).symm
theorem QoG (l:Qv)(s:Nd)(p:Pp)(hc:QJ l=0)(h1:2≤s.n)(h2:s.n≤12)(hs0:0≤s.self)(hs1:s.self<12)(hn0:0≤s.num)(hn1:s.num≤1000000)(ha:El l 50000 s.acc)(hwt:El l 50000 s.wt)(hw:eqV s.wt (Qy l)=false):GX Tryz.prog 87 [.ptr Qf 0] [(Qf,.var 131 (XP l s (.ptr (Qf+1) 0))),((Qf+1),.var 137 (Jy p))] (Qba (J4 (Jv l s) (Ju l s) Jn)) [(Qf,.var 131 (XP l (Jv l s) (.ptr 0 0))),(0,.var 137 (Jy (Ju l s))),((Qf+1),.var 137 (Jy p))] 3:=by
 refine Xt [2] Tryz.func87 rfl rfl 17 Tryz.ntmps87 (Nat.le_of_ble_eq_true rfl) ?_
 intro E hN;refine Qbp ?_;refine zD 8 ?_;refine Jl ?_;refine zP (Qd (fcb (QeB l s.wt hc) hw) rfl rfl rfl) ?_;refine XL ?_;refine Yd hN [(Qf,Qf)] (Qpr l s hc h1 h2 hs0 hs1 hn0 hn1 ha hwt) (.fn _ _ _ _ rfl rfl) rfl rfl rfl ⟨rfl,rfl,rfl,trivial⟩ rfl ⟨rfl,rfl,trivial⟩ rfl rfl rfl rfl rfl rfl rfl rfl ?_;refine zT ?_;refine Qu ?_;change (Xz _ _).ntt=_∧_;refine Wb rfl ?_ rfl rfl rfl ⟨rfl,rfl,rfl,rfl,rfl,rfl,rfl,rfl,rfl,trivial⟩
 rfl
theorem Qu4 (l:Qv)(s:Nd)(p:Pp)(hc:QJ l=0)(h1:2≤s.n)(h2:s.n≤12)(hs0:0≤s.self)(hs1:s.self<12)(hn0:0≤s.num)(hn1:s.num≤1000000)(ha:El l 50000 s.acc)(hwt:El l 50000 s.wt)(hl:El l 100000 s.lrn)(hv:El l 100000 p.v)(hq:Qav s p=true)(hw:eqV s.wt (Qy l)=false):GX Tryz.prog 86 [.ptr Qf 0] [(Qf,.var 131 (XP l s (.ptr (Qf+1) 0))),((Qf+1),.var 137 (Jy p))] (Qba (Qa2 (Xv l s p)++J4 (Jv l (Xv l s p)) (Ju l (Xv l s p)) Jn)) [(Qf,.var 131 (XP l (Jv l (Xv l s p)) (.ptr 2 0))),(2,.var 137 (Jy (Ju l (Xv l s p)))),((Qf+1),.var 137 (Jy p))] 5:=by
 have hH:JK [(Qf,.var 131 (XP l s (.ptr (Qf+1) 0))),((Qf+1),.var 137 (Jy p))]:=JK.of rfl
 have hn':(Xv l s p).n=s.n:=by first|exact rfl|assumption|(unfold Xv;dsimp only;split<;>assumption)
 have hl':El l 100000 (Xv l s p).lrn:=by first|exact rfl|assumption|(unfold Xv;dsimp only;split<;>assumption)
 have hw':eqV (Xv l s p).wt (Qy l)=false:=by first|exact rfl|assumption|(unfold Xv;dsimp only;split<;>assumption)
 have hn1':2≤(Xv l s p).n:=by first|exact rfl|assumption|(unfold Xv;dsimp only;split<;>assumption)
 have hn2':(Xv l s p).n≤12:=by first|exact rfl|assumption|(unfold Xv;dsimp only;split<;>assumption)
 have hs0':0≤(Xv l s p).self:=by first|exact rfl|assumption|(unfold Xv;dsimp only;split<;>assumption)
 have hs1':(Xv l s p).self<12:=by first|exact rfl|assumption|(unfold Xv;dsimp only;split<;>assumption)
 have hm0':0≤(Xv l s p).num:=by first|exact rfl|assumption|(unfold Xv;dsimp only;split<;>assumption)
 have hm1':(Xv l s p).num≤1000000:=by first|exact rfl|assumption|(unfold Xv;dsimp only;split<;>assumption)
 have ha':El l 50000 (Xv l s p).acc:=by first|exact rfl|assumption|(unfold Xv;dsimp only;split<;>assumption)
 have hwt':El l 50000 (Xv l s p).wt:=by first|exact rfl|assumption|(unfold Xv;dsimp only;split<;>assumption)
 have h1':1≤s.n:=by omega
 refine Xt [2] Tryz.func86 rfl rfl 60 Tryz.ntmps86 (Nat.le_of_ble_eq_true rfl) ?_
 intro E hN;refine Qmp ?_;refine Qq (fun x:{k:Nat // k≤12}=>⟨[(0,.ptr Qf 0),(3,i64 (QbD p.ack x.1:Nat)),(13,.agg (Qvs p)),(14,i64 (x.1:Nat))],[(Qf,.var 131 (XP l s (.ptr (Qf+1) 0))),((Qf+1),.var 137 (Jy p))],0⟩) (fun x=>12-x.1) (⟨0,Nat.zero_le _⟩) ?_ ?_
 ·exact Qa rfl (Ks trivial) ⟨rfl,rfl,rfl,rfl,rfl,rfl,trivial⟩
 rintro⟨k,hk⟩;dsimp only;refine QL ?_
 refine zq ?_ ?_<;>intro h10
 ·have hlt:k<12:=Int.ofNat_lt.1 (by simpa using h10)
  refine QL ?_;refine zP (Qol rfl rfl rfl k rfl hlt rfl (QkG hlt)) ?_;refine XL ?_
  refine zq ?_ ?_<;>intro h11
  ·have hy:p.ack k=true:=h11
   refine QR ?_;refine zP (WM rfl rfl rfl (by first|omega|(have:=Qdp p.ack k;omega))) ?_;refine QI ?_;refine zP (WM rfl rfl rfl (by first|omega|(have:=Qdp p.ack k;omega))) ?_;refine zM ?_;refine Qc ?_;exact⟨⟨k+1,hlt⟩,Qa rfl (X2 ⟨(Y5 (by dsimp only;first|(rw[QeC hy];omega)|(rw[Qgz hy]))),rfl,rfl,rfl,JC,rfl,trivial⟩) ⟨rfl,rfl,rfl,rfl,rfl,rfl,trivial⟩,by dsimp only;omega⟩
  have hy:p.ack k=false:=h11
  refine QR ?_;refine zP (WM rfl rfl rfl (by first|omega|(have:=Qdp p.ack k;omega))) ?_;refine zM ?_;refine Qc ?_;exact⟨⟨k+1,hlt⟩,Qa rfl (X2 ⟨(Y5 (by dsimp only;first|(rw[QeC hy];omega)|(rw[Qgz hy]))),rfl,rfl,rfl,JC,rfl,trivial⟩) ⟨rfl,rfl,rfl,rfl,rfl,rfl,trivial⟩,by dsimp only;omega⟩
 have hge:¬(k:Int)<12:=by simpa using h10
 obtain rfl:k=12:=by omega
 refine J6 ?_;refine zP (Qd (QhB s.n h1' h2) rfl rfl rfl) ?_;refine zP (QD (b:=false) rfl rfl rfl (by simpa using Qpq hq)) ?_;refine QI ?_;refine JI (⟨[(0,.ptr Qf 0)],[(Qf,.var 131 (XP l (Xv l s p) (.ptr (Qf+1) 0))),((Qf+1),.var 137 (Jy p))],0⟩) ?_ ?_
 ·refine Yy ?_;refine zD 15 ?_;refine QgC ?_;refine zP (Qd (Wl l hc hl.1 hv.1) rfl rfl rfl) ?_;refine zN ?_
  refine zq ?_ ?_<;>intro h26
  rotate_left
  ·have hle:QE l s.lrn p.v=false:=h26
   refine QM ?_;exact Qa rfl (X2 trivial) ⟨(by first|(rw[QfF hle];rfl)|(rw[Qkj hle];rfl)),rfl,rfl,rfl,rfl,rfl,trivial⟩
  have hle:QE l s.lrn p.v=true:=h26
  refine JF ?_;refine Qc ?_;exact Qa rfl (X2 trivial) ⟨(by first|(rw[QfF hle];rfl)|(rw[Qkj hle];rfl)),rfl,rfl,rfl,rfl,rfl,trivial⟩
 refine QI ?_;refine QfC hN (JK.of (H:=[(Qf,.var 131 (XP l (Xv l s p) (.ptr (Qf+1) 0))),((Qf+1),.var 137 (Jy p))]) rfl) (Js _) (Qkb l (Xv l s p) (.ptr (Qf+1) 0) [((Qf+1),.var 137 (Jy p))] (JK.of rfl) hc (by omega) hn2' hl') (.fn _ _ _ _ rfl rfl) rfl (fun _ _ h=>h) rfl rfl rfl rfl rfl rfl ?_;refine XL ?_
 refine Yd hN [(Qf,Qf),((Qf+1),(Qf+1))] (QoG l (Xv l s p) p hc hn1' hn2' hs0' hs1' hm0' hm1' ha' hwt' hw') (.fn _ _ _ _ rfl rfl) rfl rfl rfl ⟨rfl,rfl,rfl,rfl,rfl,rfl,trivial⟩ rfl ⟨rfl,rfl,rfl,trivial⟩ rfl rfl rfl rfl rfl rfl rfl rfl ?_
 refine XA hN rfl rfl rfl (by rw[List.length_map]) rfl rfl (QS _) (by rw[List.length_map,List.length_map];have h8:=(show(Qa2 (Xv l s p)).length≤s.n.toNat from hn'▸Qcy _);have h9:=(show(J4 (Jv l (Xv l s p)) (Ju l (Xv l s p)) Jn).length≤s.n.toNat from hn'▸Qbs ..);refine⟨?_,?_⟩<;>omega) rfl rfl rfl rfl ?_;refine zT ?_;refine QC (JU 2 1 rfl rfl (by rw[List.length_append,List.length_map,List.length_map]) (by rw[←List.map_append];exact QS _) (by rw[←List.map_append];exact Js _) rfl) ?_
 refine Qu ?_;change (Xz _ _).ntt=_∧_;refine Wb rfl ?_ rfl rfl rfl ⟨rfl,rfl,rfl,rfl,rfl,rfl,rfl,rfl,rfl,trivial⟩;exact congrArg (fun z=>AV.sl z none) (List.map_append (f:=fun b:Kb=>Ja b) ..).symm
theorem Qp0 (l:Qv)(s:Nd)(p:Pp)(v:Qz)(hc:QJ l=0)(hw:El l 40000 s.wt)(hv:Xr l v=true)(he:El l 1000 v):GX Tryz.prog 40 [.ptr Qf 0,.agg (QO v)] [(Qf,.var 131 (XP l s (.ptr (Qf+1) 0))),((Qf+1),.var 137 (Jy p))] (.tup [.sl [] none,i64 0]) [(Qf,.var 131 (XP l { s with wt:=Qs l s.wt v } (.ptr (Qf+1) 0))),((Qf+1),.var 137 (Jy p))] 1:=by
 have hH:JK [(Qf,.var 131 (XP l s (.ptr (Qf+1) 0))),((Qf+1),.var 137 (Jy p))]:=JK.of rfl
 refine Xt [4,5] Tryz.func40 rfl rfl 31 Tryz.ntmps40 (Nat.le_of_ble_eq_true rfl) ?_
 intro E hN;refine Jl ?_;refine zD 6 ?_;refine QL ?_;refine zp (Qd (fcb (QcS l v) hv) rfl rfl rfl) ?_;refine QL ?_;refine zD 11 ?_;refine Xy ?_;refine zp (XH rfl rfl rfl rfl (by exact rfl) (by decide) (by decide) (Qcp s.wt v)) ?_;refine zp (XE hH (WZ l s (.ptr (Qf+1) 0) [((Qf+1),.var 137 (Jy p))] hH hc (hw.up (by decide)) (he.up (by decide))) rfl rfl rfl hH.pp) ?_;refine X5 ?_;refine zP (Y0 rfl (by kernel_rfl) rfl rfl (.inr ⟨_,_,_,_,rfl,rfl,rfl⟩) (.inr ⟨rfl,rfl⟩)) ?_;refine Xy ?_;refine QC (QcI 4 rfl) ?_
 refine Qu ?_;change (Xz _ _).ntt=_∧_;refine Wb rfl ?_ rfl rfl rfl ⟨rfl,rfl,rfl,rfl,rfl,rfl,trivial⟩
 rfl
theorem Qqc (l:Qv)(s:Nd)(v:Qz)(hc:QJ l=0)(h1:1≤s.n)(h2:s.n≤12)(hs0:0≤s.self)(hs1:s.self<12)(hn0:0≤s.num)(hn1:s.num≤1000000)(ha:El l 50000 s.acc)(hw:El l 40000 s.wt)(hl:El l 100000 s.lrn)(hv:Xr l v=true)(he:El l 1000 v)(hq:Qav (Jv l { s with wt:=Qs l s.wt v }) (Ju l { s with wt:=Qs l s.wt v })=true):GX Tryz.prog 40 [.ptr Qf 0,.agg (QO v)] [(Qf,.var 131 (XP l s Jw))] (.tup [Qba (J4 (Jv l { s with wt:=Qs l s.wt v }) (Ju l { s with wt:=Qs l s.wt v }) Jn++Qa2 (Xv l (Jv l { s with wt:=Qs l s.wt v }) (Ju l { s with wt:=Qs l s.wt v }))),i64 0]) [(Qf,.var 131 (XP l (Xv l (Jv l { s with wt:=Qs l s.wt v }) (Ju l { s with wt:=Qs l s.wt v })) Jw))] 6:=by
 have hH:JK [(Qf,.var 131 (XP l s Jw))]:=JK.of rfl
 have hj:El l 50000 (Qs l s.wt v):=(hw.join (Q9 hc) (by omega) he).up (by decide)
 refine Xt [4,5] Tryz.func40 rfl rfl 31 Tryz.ntmps40 (Nat.le_of_ble_eq_true rfl) ?_
 intro E hN;refine Jl ?_;refine zD 6 ?_;refine QL ?_;refine zp (Qd (fcb (QcS l v) hv) rfl rfl rfl) ?_;refine QL ?_;refine zD 11 ?_;refine Xy ?_;refine zp (XH rfl rfl rfl rfl (by exact rfl) (by decide) (by decide) (Qcp s.wt v)) ?_;refine zp (XE hH (WZ l s Jw [] hH hc (hw.up (by decide)) (he.up (by decide))) rfl rfl rfl hH.pp) ?_;refine X5 ?_;refine zP (Y0 rfl (by kernel_rfl) rfl rfl (.inl ⟨rfl,rfl⟩) (.inr ⟨rfl,rfl⟩)) ?_;refine XL ?_
 refine Yd hN [(Qf,Qf)] (QuB l { s with wt:=Qs l s.wt v } hc h1 h2 hs0 hs1 hn0 hn1 ha hj hl hq) (.fn _ _ _ _ rfl rfl) rfl rfl rfl ⟨rfl,rfl,rfl,trivial⟩ rfl ⟨rfl,trivial⟩ rfl rfl rfl rfl rfl rfl rfl rfl ?_;refine QI ?_;refine Qu ?_;change (Xz _ _).ntt=_∧_;refine Wb rfl ?_ rfl rfl rfl ⟨rfl,rfl,rfl,trivial⟩
 rfl
theorem QqB (l:Qv)(s:Nd)(p:Pp)(m:Kb)(hc:QJ l=0)(hk:m.k=1)(hok:Wy l s m=0)(ha:El l 40000 s.acc)(hm:El l 40000 m.v):GX Tryz.prog 42 [.ptr Qf 0,.agg (Ja m)] [(Qf,.var 131 (XP l s (.ptr (Qf+1) 0))),((Qf+1),.var 137 (Jy p))] (.tup [Qba [Qg9 l s m],i64 0]) [(Qf,.var 131 (XP l { s with acc:=Qs l s.acc m.v } (.ptr (Qf+1) 0))),((Qf+1),.var 137 (Jy p))] 2:=by
 have hH:JK [(Qf,.var 131 (XP l s (.ptr (Qf+1) 0))),((Qf+1),.var 137 (Jy p))]:=JK.of rfl
 have hj:El l 100000 (Qs l s.acc m.v):=(ha.join (Q9 hc) (by omega) hm).up (by decide)
 refine Xt [4,5] Tryz.func42 rfl rfl 156 Tryz.ntmps42 (Nat.le_of_ble_eq_true rfl) ?_
 intro E hN;refine X5 ?_;refine zP (XE hH (by have h:=WC l s (.ptr (Qf+1) 0) [((Qf+1),.var 137 (Jy p))] hH m;rwa [hok] at h) rfl rfl rfl hH.pp) ?_;refine XR ?_;refine zD 14 ?_;refine QK ?_;refine zp (Y0 rfl (by kernel_rfl) rfl rfl (.inr ⟨_,_,_,_,rfl,rfl,rfl⟩) (.inr ⟨rfl,rfl⟩)) ?_;refine Qf2 ?_;refine zP (QD (b:=true) rfl rfl rfl (by simpa using hk)) ?_;refine QK ?_;refine Qis [([0,1,2,3,4,5,6,7,8],9)] [10] (by kernel_rfl) (by kernel_rfl) rfl ?_;refine⟨_,rfl,?_⟩;refine Jl ?_;refine zp (QaS rfl rfl rfl) ?_
 change FK _ _ _ _ _ _;refine Qkz hN rfl rfl rfl rfl rfl rfl rfl ?_;change Q3 _ _ _ _ _ _;refine QI ?_;refine zD 11 ?_;refine XR ?_;refine zp (Qd (Wl l hc ha.1 hm.1) rfl rfl rfl) ?_;refine QI ?_;refine zD 12 ?_;refine Jl ?_;refine zp (XH rfl rfl rfl rfl (by exact rfl) (by decide) (by decide) (Qcp s.acc m.v)) ?_;refine zp (XE hH (WZ l s (.ptr (Qf+1) 0) [((Qf+1),.var 137 (Jy p))] hH hc (ha.up (by decide)) (hm.up (by decide))) rfl rfl rfl hH.pp) ?_;refine XR ?_
 refine zq ?_ ?_<;>intro h31
 rotate_left
 ·have hle:QE l s.acc m.v=true:=by simpa using h31
  refine QK ?_;refine zP (Q0 rfl rfl rfl rfl (by exact rfl) (by decide) (by decide)) ?_;refine QI ?_;refine Qu ?_;change (Xz _ _).ntt=_∧_;refine Wb rfl ?_ rfl rfl rfl ⟨rfl,rfl,rfl,rfl,rfl,rfl,trivial⟩
  rw[Qg9,hle];rfl
 have hle:QE l s.acc m.v=false:=by simpa using h31
 refine XL ?_;refine zP (YO [] (YT l { s with acc:=Qs l s.acc m.v } (.ptr (Qf+1) 0) [((Qf+1),.var 137 (Jy p))] (JK.of rfl) hc hj) rfl rfl rfl rfl ⟨rfl,rfl,rfl,rfl,rfl,rfl,rfl,rfl,trivial⟩ rfl) ?_;refine Jl ?_;refine zP (Q0 rfl rfl rfl rfl (by exact rfl) (by decide) (by decide)) ?_;refine QI ?_;refine Qu ?_;change (Xz _ _).ntt=_∧_;refine Wb rfl ?_ rfl rfl rfl ⟨rfl,rfl,rfl,rfl,rfl,rfl,trivial⟩
 rw[Qg9,hle];rfl
theorem Qp3 (l:Qv)(s:Nd)(R:List (Nat×Qj))(hH:JK ((Qf,.var 131 (XP l s Jw))::R))(m:Kb)(hk:m.k=2∨m.k=3)(hok:Wy l s m=0):GC Tryz.prog 42 [.ptr Qf 0,.agg (Ja m)] ((Qf,.var 131 (XP l s Jw))::R) (.tup [.sl [] none,i64 0]) ((Qf,.var 131 (XP l s Jw))::R):=by
 refine Yn [4,5] Tryz.func42 rfl rfl 156 Tryz.ntmps42 (Nat.le_of_ble_eq_true rfl) ?_
 intro E hN;refine X5 ?_;refine zP (XE hH (by have h:=WC l s Jw R hH m;rwa [hok] at h) rfl rfl rfl hH.pp) ?_;refine XR ?_;refine zD 14 ?_;refine QK ?_;refine zp (Y0 rfl (by kernel_rfl) rfl rfl (.inl ⟨rfl,rfl⟩) (.inr ⟨rfl,rfl⟩)) ?_;refine Qf2 ?_;refine zP (QD (b:=false) rfl rfl rfl (by simp;omega)) ?_;refine Jl ?_
 refine zq ?_ ?_<;>intro h11
 ·refine X5 ?_;refine Qu ?_;change (Xz _ _).fzt=some _∧_;refine Qdz hH hH.pp rfl ?_
  rfl
 refine zG ?_;refine zP (QD (b:=true) rfl rfl rfl (by simp_all)) ?_;refine WT ?_;refine Qu ?_;change (Xz _ _).fzt=some _∧_;refine Qdz hH hH.pp rfl ?_
 rfl
theorem Qqx (l:Qv)(s:Nd)(p:Pp)(m:Kb)(hk:m.k=2∨m.k=3)(hok:Wy l s m=0)(hn:¬m.n=s.num):GC Tryz.prog 42 [.ptr Qf 0,.agg (Ja m)] [(Qf,.var 131 (XP l s (.ptr (Qf+1) 0))),((Qf+1),.var 137 (Jy p))] (.tup [.sl [] none,i64 0]) [(Qf,.var 131 (XP l s (.ptr (Qf+1) 0))),((Qf+1),.var 137 (Jy p))]:=by
 have hH:JK [(Qf,.var 131 (XP l s (.ptr (Qf+1) 0))),((Qf+1),.var 137 (Jy p))]:=JK.of rfl
 refine Yn [4,5] Tryz.func42 rfl rfl 156 Tryz.ntmps42 (Nat.le_of_ble_eq_true rfl) ?_
 intro E hN;refine X5 ?_;refine zP (XE hH (by have h:=WC l s (.ptr (Qf+1) 0) [((Qf+1),.var 137 (Jy p))] hH m;rwa [hok] at h) rfl rfl rfl hH.pp) ?_;refine XR ?_;refine zD 14 ?_;refine QK ?_;refine zp (Y0 rfl (by kernel_rfl) rfl rfl (.inr ⟨_,_,_,_,rfl,rfl,rfl⟩) (.inr ⟨rfl,rfl⟩)) ?_;refine Xy ?_;refine zp (QD (b:=false) rfl rfl rfl (by simpa using hn)) ?_;refine JF ?_;refine zP (QD (b:=false) rfl rfl rfl (by simp;omega)) ?_;refine Jl ?_
 refine zq ?_ ?_<;>intro h15
 ·refine X5 ?_;refine Qu ?_;change (Xz _ _).fzt=some _∧_;refine Qdz hH hH.pp rfl ?_
  rfl
 refine zG ?_;refine zP (QD (b:=true) rfl rfl rfl (by simp_all)) ?_;refine WT ?_;refine Qu ?_;change (Xz _ _).fzt=some _∧_;refine Qdz hH hH.pp rfl ?_
 rfl
theorem QsT (l:Qv)(s:Nd)(p:Pp)(m:Kb)(hk:m.k=2)(hok:Wy l s m=0)(h1:1≤s.n)(h2:s.n≤12)(hmine:m.n=s.num)(hq:Qav s { p with ack:=upN p.ack m.f.toNat true }=false):GX Tryz.prog 42 [.ptr Qf 0,.agg (Ja m)] [(Qf,.var 131 (XP l s (.ptr (Qf+1) 0))),((Qf+1),.var 137 (Jy p))] (.tup [.sl [] none,i64 0]) [(Qf,.var 131 (XP l s (.ptr (Qf+1) 0))),((Qf+1),.var 137 (Jy { p with ack:=upN p.ack m.f.toNat true }))] 1:=by
 have hH:JK [(Qf,.var 131 (XP l s (.ptr (Qf+1) 0))),((Qf+1),.var 137 (Jy p))]:=JK.of rfl
 obtain⟨-,-,f0,f1,-,-⟩:=Qay hok;have hf12:m.f.toNat<12:=by omega
 refine Xt [4,5] Tryz.func42 rfl rfl 156 Tryz.ntmps42 (Nat.le_of_ble_eq_true rfl) ?_
 intro E hN;refine X5 ?_;refine zP (XE hH (by have h:=WC l s (.ptr (Qf+1) 0) [((Qf+1),.var 137 (Jy p))] hH m;rwa [hok] at h) rfl rfl rfl hH.pp) ?_;refine XR ?_;refine zD 14 ?_;refine QK ?_;refine zp (Y0 rfl (by kernel_rfl) rfl rfl (.inr ⟨_,_,_,_,rfl,rfl,rfl⟩) (.inr ⟨rfl,rfl⟩)) ?_;refine Xy ?_;refine zp (QD (b:=true) rfl rfl rfl (by simpa using hmine)) ?_;refine JF ?_;refine zP (QD (b:=false) rfl rfl rfl (by simp[hk])) ?_;refine QL ?_;refine zP (QD (b:=true) rfl rfl rfl (by simpa using hk)) ?_;refine J6 ?_
 refine zD 9 ?_;refine Jl ?_;refine zp (Qml rfl rfl rfl m.f.toNat (by omega) hf12 rfl rfl) ?_;refine WE rfl rfl rfl rfl rfl rfl (Qo4 hf12) rfl rfl rfl (QkM hf12) ?_;refine QK ?_;refine zP (YO [] (QoI l s { p with ack:=upN p.ack m.f.toNat true } h1 h2 hq) rfl rfl rfl rfl ⟨rfl,rfl,rfl,rfl,rfl,rfl,rfl,rfl,trivial⟩ rfl) ?_;refine QI ?_;refine Qu ?_;change (Xz _ _).ntt=_∧_;refine Wb rfl ?_ rfl rfl rfl ⟨rfl,rfl,rfl,rfl,rfl,rfl,trivial⟩
 rfl
theorem Qtb (l:Qv)(s:Nd)(p:Pp)(m:Kb)(hc:QJ l=0)(hk:m.k=2)(hok:Wy l s m=0)(h1:2≤s.n)(h2:s.n≤12)(hs0:0≤s.self)(hs1:s.self<12)(hn0:0≤s.num)(hn1:s.num≤1000000)(ha:El l 50000 s.acc)(hwt:El l 50000 s.wt)(hmine:m.n=s.num)(hl:El l 100000 s.lrn)(hv:El l 100000 p.v)(hq:Qav s { p with ack:=upN p.ack m.f.toNat true }=true)(hw:eqV s.wt (Qy l)=false):GX Tryz.prog 42 [.ptr Qf 0,.agg (Ja m)] [(Qf,.var 131 (XP l s (.ptr (Qf+1) 0))),((Qf+1),.var 137 (Jy p))] (.tup [Qba (Qa2 (Xv l s p)++J4 (Jv l (Xv l s p)) (Ju l (Xv l s p)) Jn),i64 0]) [(Qf,.var 131 (XP l (Jv l (Xv l s p)) (.ptr 3 0))),(3,.var 137 (Jy (Ju l (Xv l s p)))),((Qf+1),.var 137 (Jy { p with ack:=upN p.ack m.f.toNat true }))] 6:=by
 have hH:JK [(Qf,.var 131 (XP l s (.ptr (Qf+1) 0))),((Qf+1),.var 137 (Jy p))]:=JK.of rfl
 obtain⟨-,-,f0,f1,-,-⟩:=Qay hok;have hf12:m.f.toNat<12:=by omega
 refine Xt [4,5] Tryz.func42 rfl rfl 156 Tryz.ntmps42 (Nat.le_of_ble_eq_true rfl) ?_
 intro E hN;refine X5 ?_;refine zP (XE hH (by have h:=WC l s (.ptr (Qf+1) 0) [((Qf+1),.var 137 (Jy p))] hH m;rwa [hok] at h) rfl rfl rfl hH.pp) ?_;refine XR ?_;refine zD 14 ?_;refine QK ?_;refine zp (Y0 rfl (by kernel_rfl) rfl rfl (.inr ⟨_,_,_,_,rfl,rfl,rfl⟩) (.inr ⟨rfl,rfl⟩)) ?_;refine Xy ?_;refine zp (QD (b:=true) rfl rfl rfl (by simpa using hmine)) ?_;refine JF ?_;refine zP (QD (b:=false) rfl rfl rfl (by simp[hk])) ?_;refine QL ?_;refine zP (QD (b:=true) rfl rfl rfl (by simpa using hk)) ?_;refine J6 ?_
 refine zD 9 ?_;refine Jl ?_;refine zp (Qml rfl rfl rfl m.f.toNat (by omega) hf12 rfl rfl) ?_;refine WE rfl rfl rfl rfl rfl rfl (Qo4 hf12) rfl rfl rfl (QkM hf12) ?_;refine QK ?_;refine Yd hN [(Qf,Qf),((Qf+1),(Qf+1))] (Qu4 l s { p with ack:=upN p.ack m.f.toNat true } hc h1 h2 hs0 hs1 hn0 hn1 ha hwt hl hv hq hw) (.fn _ _ _ _ rfl rfl) rfl rfl rfl ⟨rfl,rfl,rfl,rfl,rfl,rfl,trivial⟩ rfl ⟨rfl,rfl,rfl,trivial⟩ rfl rfl rfl rfl rfl rfl rfl rfl ?_;refine QI ?_;refine Qu ?_;change (Xz _ _).ntt=_∧_
 refine Wb rfl ?_ rfl rfl rfl ⟨rfl,rfl,rfl,rfl,rfl,rfl,rfl,rfl,rfl,trivial⟩
 rfl
theorem Qsy (l:Qv)(s:Nd)(p:Pp)(m:Kb)(hc:QJ l=0)(hk:m.k=3)(hok:Wy l s m=0)(hmine:m.n=s.num)(hg:El l 100000 p.g)(hm:El l 100000 m.v):GX Tryz.prog 42 [.ptr Qf 0,.agg (Ja m)] [(Qf,.var 131 (XP l s (.ptr (Qf+1) 0))),((Qf+1),.var 137 (Jy p))] (.tup [.sl [] none,i64 0]) [(Qf,.var 131 (XP l s (.ptr (Qf+1) 0))),((Qf+1),.var 137 (Jy { p with g:=Qs l p.g m.v }))] 1:=by
 have hH:JK [(Qf,.var 131 (XP l s (.ptr (Qf+1) 0))),((Qf+1),.var 137 (Jy p))]:=JK.of rfl
 refine Xt [4,5] Tryz.func42 rfl rfl 156 Tryz.ntmps42 (Nat.le_of_ble_eq_true rfl) ?_
 intro E hN;refine X5 ?_;refine zP (XE hH (by have h:=WC l s (.ptr (Qf+1) 0) [((Qf+1),.var 137 (Jy p))] hH m;rwa [hok] at h) rfl rfl rfl hH.pp) ?_;refine XR ?_;refine zD 14 ?_;refine QK ?_;refine zp (Y0 rfl (by kernel_rfl) rfl rfl (.inr ⟨_,_,_,_,rfl,rfl,rfl⟩) (.inr ⟨rfl,rfl⟩)) ?_;refine Xy ?_;refine zp (QD (b:=true) rfl rfl rfl (by simpa using hmine)) ?_;refine JF ?_;refine zP (QD (b:=false) rfl rfl rfl (by simp[hk])) ?_;refine QL ?_;refine zP (QD (b:=false) rfl rfl rfl (by simp[hk])) ?_;refine QL ?_
 refine zP (QD (b:=true) rfl rfl rfl (by simpa using hk)) ?_;refine Jl ?_;refine zD 18 ?_;refine WT ?_;refine zp (XH rfl rfl rfl rfl (by exact rfl) (by decide) (by decide) (Qcp p.g m.v)) ?_;refine zp (XE hH (WZ l s (.ptr (Qf+1) 0) [((Qf+1),.var 137 (Jy p))] hH hc hg hm) rfl rfl rfl hH.pp) ?_;refine J6 ?_;refine QC (QcI 4 rfl) ?_;refine Qu ?_;change (Xz _ _).ntt=_∧_;refine Wb rfl ?_ rfl rfl rfl ⟨rfl,rfl,rfl,rfl,rfl,rfl,trivial⟩
 rfl
def Jh (l:Qv)(s:Nd)(m:Kb):Nd:={ s with lrn:=if QE l s.lrn m.v then m.v else s.lrn }
theorem QaT {l:Qv}{s:Nd}{m:Kb}(h:QE l s.lrn m.v=true):Jh l s m={ s with lrn:=m.v }:=by rw[Jh,if_pos h]
theorem Qcc {l:Qv}{s:Nd}{m:Kb}(h:QE l s.lrn m.v=false):Jh l s m=s:=by rw[Jh,if_neg (by rw[h];decide)]
theorem Qqr (l:Qv)(s:Nd)(m:Kb)(hc:QJ l=0)(hk:m.k=4)(hok:Wy l s m=0)(hl:El l 100000 s.lrn)(hm:El l 100000 m.v):GX Tryz.prog 42 [.ptr Qf 0,.agg (Ja m)] [(Qf,.var 131 (XP l s Jw))] (.tup [.sl [] none,i64 0]) [(Qf,.var 131 (XP l (Jh l s m) Jw))] 1:=by
 have hH:JK [(Qf,.var 131 (XP l s Jw))]:=JK.of rfl
 refine Xt [4,5] Tryz.func42 rfl rfl 156 Tryz.ntmps42 (Nat.le_of_ble_eq_true rfl) ?_
 intro E hN;refine X5 ?_;refine zP (XE hH (by have h:=WC l s Jw [] hH m;rwa [hok] at h) rfl rfl rfl hH.pp) ?_;refine XR ?_;refine zD 14 ?_;refine QK ?_;refine zp (Y0 rfl (by kernel_rfl) rfl rfl (.inl ⟨rfl,rfl⟩) (.inr ⟨rfl,rfl⟩)) ?_;refine Qf2 ?_;refine zP (QD (b:=false) rfl rfl rfl (by simp[hk])) ?_;refine QL ?_;refine zP (QD (b:=false) rfl rfl rfl (by simp[hk])) ?_;refine QL ?_;refine zP (QD (b:=false) rfl rfl rfl (by simp[hk])) ?_;refine QI ?_
 refine JI (⟨[(0,.ptr Qf 0)],[(Qf,.var 131 (XP l (Jh l s m) Jw))],1⟩) ?_ ?_
 ·refine Yy ?_;refine zD 10 ?_;refine XR ?_;refine zP (Qd (Wl l hc hl.1 hm.1) rfl rfl rfl) ?_;refine zN ?_
  refine zq ?_ ?_<;>intro h17
  ·have hle:QE l s.lrn m.v=true:=h17
   refine QL ?_;refine zP (XE hH (YT l s Jw [] hH hc hm) rfl rfl rfl hH.pp) ?_;refine QI ?_;refine Qc ?_;exact Qa rfl (X2 trivial) ⟨(by first|(rw[QaT hle];rfl)|(rw[Qcc hle];rfl)),rfl,rfl,trivial⟩
  have hle:QE l s.lrn m.v=false:=h17
  refine QM ?_;exact Qa rfl (X2 trivial) ⟨(by first|(rw[QaT hle];rfl)|(rw[Qcc hle];rfl)),rfl,rfl,trivial⟩
 refine Yy ?_;refine zD 22 ?_;refine QK ?_;refine zp (Y0 rfl (by kernel_rfl) rfl rfl (.inl ⟨rfl,rfl⟩) (.inr ⟨rfl,rfl⟩)) ?_;refine Qha ?_;refine QR ?_;refine QC (QcI 4 rfl) ?_;refine Qu ?_;change (Xz _ _).ntt=_∧_;refine Wb rfl ?_ rfl rfl rfl ⟨rfl,rfl,rfl,trivial⟩
 rfl
theorem QqR (l:Qv)(s:Nd)(p:Pp)(m:Kb)(hc:QJ l=0)(hk:m.k=4)(hok:Wy l s m=0)(hl:El l 100000 s.lrn)(hm:El l 100000 m.v)(hv:QA p.v l=true)(hle2:QE l p.v (Jh l s m).lrn=false):GX Tryz.prog 42 [.ptr Qf 0,.agg (Ja m)] [(Qf,.var 131 (XP l s (.ptr (Qf+1) 0))),((Qf+1),.var 137 (Jy p))] (.tup [.sl [] none,i64 0]) [(Qf,.var 131 (XP l (Jh l s m) (.ptr (Qf+1) 0))),((Qf+1),.var 137 (Jy p))] 1:=by
 have hH:JK [(Qf,.var 131 (XP l s (.ptr (Qf+1) 0))),((Qf+1),.var 137 (Jy p))]:=JK.of rfl
 have hl':El l 100000 (Jh l s m).lrn:=by unfold Jh;dsimp only;split<;>assumption
 refine Xt [4,5] Tryz.func42 rfl rfl 156 Tryz.ntmps42 (Nat.le_of_ble_eq_true rfl) ?_
 intro E hN;refine X5 ?_;refine zP (XE hH (by have h:=WC l s (.ptr (Qf+1) 0) [((Qf+1),.var 137 (Jy p))] hH m;rwa [hok] at h) rfl rfl rfl hH.pp) ?_;refine XR ?_;refine zD 14 ?_;refine QK ?_;refine zp (Y0 rfl (by kernel_rfl) rfl rfl (.inr ⟨_,_,_,_,rfl,rfl,rfl⟩) (.inr ⟨rfl,rfl⟩)) ?_;refine Qf2 ?_;refine zP (QD (b:=false) rfl rfl rfl (by simp[hk])) ?_;refine QL ?_;refine zP (QD (b:=false) rfl rfl rfl (by simp[hk])) ?_;refine QL ?_;refine zP (QD (b:=false) rfl rfl rfl (by simp[hk])) ?_;refine QI ?_
 refine JI (⟨[(0,.ptr Qf 0)],[(Qf,.var 131 (XP l (Jh l s m) (.ptr (Qf+1) 0))),((Qf+1),.var 137 (Jy p))],1⟩) ?_ ?_
 ·refine Yy ?_;refine zD 10 ?_;refine XR ?_;refine zP (Qd (Wl l hc hl.1 hm.1) rfl rfl rfl) ?_;refine zN ?_
  refine zq ?_ ?_<;>intro h22
  ·have hle:QE l s.lrn m.v=true:=h22
   refine QL ?_;refine zP (XE hH (YT l s (.ptr (Qf+1) 0) [((Qf+1),.var 137 (Jy p))] hH hc hm) rfl rfl rfl hH.pp) ?_;refine QI ?_;refine Qc ?_;exact Qa rfl (X2 trivial) ⟨(by first|(rw[QaT hle];rfl)|(rw[Qcc hle];rfl)),rfl,rfl,rfl,rfl,rfl,trivial⟩
  have hle:QE l s.lrn m.v=false:=h22
  refine QM ?_;exact Qa rfl (X2 trivial) ⟨(by first|(rw[QaT hle];rfl)|(rw[Qcc hle];rfl)),rfl,rfl,rfl,rfl,rfl,trivial⟩
 refine Yy ?_;refine zD 22 ?_;refine QK ?_;refine zp (Y0 rfl (by kernel_rfl) rfl rfl (.inr ⟨_,_,_,_,rfl,rfl,rfl⟩) (.inr ⟨rfl,rfl⟩)) ?_;refine QbP ?_;refine zp (Qd (fcb (Wl l hc hv hl'.1) hle2) rfl rfl rfl) ?_;refine J6 ?_;refine QC (QcI 4 rfl) ?_;refine Qu ?_;change (Xz _ _).ntt=_∧_;refine Wb rfl ?_ rfl rfl rfl ⟨rfl,rfl,rfl,rfl,rfl,rfl,trivial⟩
 rfl
theorem Qqj (l:Qv)(s:Nd)(p:Pp)(m:Kb)(hc:QJ l=0)(hk:m.k=4)(hok:Wy l s m=0)(hl:El l 100000 s.lrn)(hm:El l 100000 m.v)(hv:QA p.v l=true)(hle2:QE l p.v (Jh l s m).lrn=true)(hw:eqV (Jh l s m).wt (Qy l)=true):GX Tryz.prog 42 [.ptr Qf 0,.agg (Ja m)] [(Qf,.var 131 (XP l s (.ptr (Qf+1) 0))),((Qf+1),.var 137 (Jy p))] (.tup [.sl [] none,i64 0]) [(Qf,.var 131 (XP l (Jh l s m) Jw)),((Qf+1),.var 137 (Jy p))] 1:=by
 have hH:JK [(Qf,.var 131 (XP l s (.ptr (Qf+1) 0))),((Qf+1),.var 137 (Jy p))]:=JK.of rfl
 have hl':El l 100000 (Jh l s m).lrn:=by unfold Jh;dsimp only;split<;>assumption
 refine Xt [4,5] Tryz.func42 rfl rfl 156 Tryz.ntmps42 (Nat.le_of_ble_eq_true rfl) ?_
 intro E hN;refine X5 ?_;refine zP (XE hH (by have h:=WC l s (.ptr (Qf+1) 0) [((Qf+1),.var 137 (Jy p))] hH m;rwa [hok] at h) rfl rfl rfl hH.pp) ?_;refine XR ?_;refine zD 14 ?_;refine QK ?_;refine zp (Y0 rfl (by kernel_rfl) rfl rfl (.inr ⟨_,_,_,_,rfl,rfl,rfl⟩) (.inr ⟨rfl,rfl⟩)) ?_;refine Qf2 ?_;refine zP (QD (b:=false) rfl rfl rfl (by simp[hk])) ?_;refine QL ?_;refine zP (QD (b:=false) rfl rfl rfl (by simp[hk])) ?_;refine QL ?_;refine zP (QD (b:=false) rfl rfl rfl (by simp[hk])) ?_;refine QI ?_
 refine JI (⟨[(0,.ptr Qf 0)],[(Qf,.var 131 (XP l (Jh l s m) (.ptr (Qf+1) 0))),((Qf+1),.var 137 (Jy p))],1⟩) ?_ ?_
 ·refine Yy ?_;refine zD 10 ?_;refine XR ?_;refine zP (Qd (Wl l hc hl.1 hm.1) rfl rfl rfl) ?_;refine zN ?_
  refine zq ?_ ?_<;>intro h22
  ·have hle:QE l s.lrn m.v=true:=h22
   refine QL ?_;refine zP (XE hH (YT l s (.ptr (Qf+1) 0) [((Qf+1),.var 137 (Jy p))] hH hc hm) rfl rfl rfl hH.pp) ?_;refine QI ?_;refine Qc ?_;exact Qa rfl (X2 trivial) ⟨(by first|(rw[QaT hle];rfl)|(rw[Qcc hle];rfl)),rfl,rfl,rfl,rfl,rfl,trivial⟩
  have hle:QE l s.lrn m.v=false:=h22
  refine QM ?_;exact Qa rfl (X2 trivial) ⟨(by first|(rw[QaT hle];rfl)|(rw[Qcc hle];rfl)),rfl,rfl,rfl,rfl,rfl,trivial⟩
 refine Yy ?_;refine zD 22 ?_;refine QK ?_;refine zp (Y0 rfl (by kernel_rfl) rfl rfl (.inr ⟨_,_,_,_,rfl,rfl,rfl⟩) (.inr ⟨rfl,rfl⟩)) ?_;refine QbP ?_;refine zp (Qd (fcb (Wl l hc hv hl'.1) hle2) rfl rfl rfl) ?_;refine XL ?_;refine Yd hN [(Qf,Qf),((Qf+1),(Qf+1))] (Qpp l (Jh l s m) p hc hw) (.fn _ _ _ _ rfl rfl) rfl rfl rfl ⟨rfl,rfl,rfl,rfl,rfl,rfl,trivial⟩ rfl ⟨rfl,rfl,trivial⟩ rfl rfl rfl rfl rfl rfl rfl rfl ?_;refine QI ?_;refine Qu ?_;change (Xz _ _).ntt=_∧_;refine Wb rfl ?_ rfl rfl rfl ⟨rfl,rfl,rfl,rfl,rfl,rfl,trivial⟩
 rfl
theorem QqN (l:Qv)(s:Nd)(p:Pp)(m:Kb)(hc:QJ l=0)(hk:m.k=4)(hok:Wy l s m=0)(hl:El l 100000 s.lrn)(hm:El l 100000 m.v)(hv:QA p.v l=true)(hle2:QE l p.v (Jh l s m).lrn=true)(hw:eqV (Jh l s m).wt (Qy l)=false)(h1:2≤(Jh l s m).n)(h2:(Jh l s m).n≤12)(hs0:0≤(Jh l s m).self)(hs1:(Jh l s m).self<12)(hn0:0≤(Jh l s m).num)(hn1:(Jh l s m).num≤1000000)(ha:El l 50000 (Jh l s m).acc)(hwt:El l 50000 (Jh l s m).wt):GX Tryz.prog 42 [.ptr Qf 0,.agg (Ja m)] [(Qf,.var 131 (XP l s (.ptr (Qf+1) 0))),((Qf+1),.var 137 (Jy p))] (.tup [Qba (J4 (Jv l (Jh l s m)) (Ju l (Jh l s m)) Jn),i64 0]) [(Qf,.var 131 (XP l (Jv l (Jh l s m)) (.ptr 1 0))),(1,.var 137 (Jy (Ju l (Jh l s m)))),((Qf+1),.var 137 (Jy p))] 4:=by
 have hH:JK [(Qf,.var 131 (XP l s (.ptr (Qf+1) 0))),((Qf+1),.var 137 (Jy p))]:=JK.of rfl
 have hl':El l 100000 (Jh l s m).lrn:=by unfold Jh;dsimp only;split<;>assumption
 refine Xt [4,5] Tryz.func42 rfl rfl 156 Tryz.ntmps42 (Nat.le_of_ble_eq_true rfl) ?_
 intro E hN;refine X5 ?_;refine zP (XE hH (by have h:=WC l s (.ptr (Qf+1) 0) [((Qf+1),.var 137 (Jy p))] hH m;rwa [hok] at h) rfl rfl rfl hH.pp) ?_;refine XR ?_;refine zD 14 ?_;refine QK ?_;refine zp (Y0 rfl (by kernel_rfl) rfl rfl (.inr ⟨_,_,_,_,rfl,rfl,rfl⟩) (.inr ⟨rfl,rfl⟩)) ?_;refine Qf2 ?_;refine zP (QD (b:=false) rfl rfl rfl (by simp[hk])) ?_;refine QL ?_;refine zP (QD (b:=false) rfl rfl rfl (by simp[hk])) ?_;refine QL ?_;refine zP (QD (b:=false) rfl rfl rfl (by simp[hk])) ?_;refine QI ?_
 refine JI (⟨[(0,.ptr Qf 0)],[(Qf,.var 131 (XP l (Jh l s m) (.ptr (Qf+1) 0))),((Qf+1),.var 137 (Jy p))],1⟩) ?_ ?_
 ·refine Yy ?_;refine zD 10 ?_;refine XR ?_;refine zP (Qd (Wl l hc hl.1 hm.1) rfl rfl rfl) ?_;refine zN ?_
  refine zq ?_ ?_<;>intro h22
  ·have hle:QE l s.lrn m.v=true:=h22
   refine QL ?_;refine zP (XE hH (YT l s (.ptr (Qf+1) 0) [((Qf+1),.var 137 (Jy p))] hH hc hm) rfl rfl rfl hH.pp) ?_;refine QI ?_;refine Qc ?_;exact Qa rfl (X2 trivial) ⟨(by first|(rw[QaT hle];rfl)|(rw[Qcc hle];rfl)),rfl,rfl,rfl,rfl,rfl,trivial⟩
  have hle:QE l s.lrn m.v=false:=h22
  refine QM ?_;exact Qa rfl (X2 trivial) ⟨(by first|(rw[QaT hle];rfl)|(rw[Qcc hle];rfl)),rfl,rfl,rfl,rfl,rfl,trivial⟩
 refine Yy ?_;refine zD 22 ?_;refine QK ?_;refine zp (Y0 rfl (by kernel_rfl) rfl rfl (.inr ⟨_,_,_,_,rfl,rfl,rfl⟩) (.inr ⟨rfl,rfl⟩)) ?_;refine QbP ?_;refine zp (Qd (fcb (Wl l hc hv hl'.1) hle2) rfl rfl rfl) ?_;refine XL ?_;refine Yd hN [(Qf,Qf),((Qf+1),(Qf+1))] (QoG l (Jh l s m) p hc h1 h2 hs0 hs1 hn0 hn1 ha hwt hw) (.fn _ _ _ _ rfl rfl) rfl rfl rfl ⟨rfl,rfl,rfl,rfl,rfl,rfl,trivial⟩ rfl ⟨rfl,rfl,rfl,trivial⟩ rfl rfl rfl rfl rfl rfl rfl rfl ?_;refine QI ?_;refine Qu ?_;change (Xz _ _).ntt=_∧_
 refine Wb rfl ?_ rfl rfl rfl ⟨rfl,rfl,rfl,rfl,rfl,rfl,rfl,rfl,rfl,trivial⟩
 rfl
theorem QrH (l:Qv)(s:Nd)(hc:QJ l=0)(h1:1≤s.n)(h2:s.n≤12)(hl:El l 100000 s.lrn)(hw:eqV s.lrn (Qy l)=false):GC Tryz.prog 44 [.ptr Qf 0] [(Qf,.var 131 (XP l s Jw))] (Qba (Qa2 s)) [(Qf,.var 131 (XP l s Jw))]:=by
 have hH:JK [(Qf,.var 131 (XP l s Jw))]:=JK.of rfl
 refine Yn [2] Tryz.func44 rfl rfl 73 Tryz.ntmps44 (Nat.le_of_ble_eq_true rfl) ?_
 intro E hN;refine QbP ?_;refine zD 13 ?_;refine zl ?_;refine zp (Y0 rfl (by kernel_rfl) rfl rfl (.inl ⟨rfl,rfl⟩) (.inl ⟨rfl,rfl⟩)) ?_;refine J6 ?_;refine zp (Qd (fcb (QeB l s.lrn hc) hw) rfl rfl rfl) ?_;refine Xy ?_;refine zP (Y0 rfl (by kernel_rfl) rfl rfl (.inl ⟨rfl,rfl⟩) (.inl ⟨rfl,rfl⟩)) ?_;refine XL ?_;refine QfC hN hH (Js _) (Qkb l s Jw [] hH hc h1 h2 hl) (.fn _ _ _ _ rfl rfl) rfl hH.pp rfl rfl rfl rfl rfl rfl ?_;refine zT ?_;refine QC (JU 2 2 rfl rfl (by rw[List.length_map]) (QS _) (Js _) rfl) ?_;refine Qu ?_
 change (Xz _ _).fzt=some _∧_;refine Qd1 rfl ?_ rfl ?_ rfl
 all_goals rfl
theorem QrC (l:Qv)(s:Nd)(p:Pp)(hc:QJ l=0)(h1:1≤s.n)(h2:s.n≤12)(hs0:0≤s.self)(hs1:s.self<12)(hn0:0≤s.num)(hn1:s.num≤1000000)(hr0:0≤p.ref)(hr1:p.ref≤1000000)(hv:El l 30000 p.v)(hg:El l 30000 p.g)(ha:El l 30000 s.acc)(hle:QE l p.g p.v=false):GX Tryz.prog 44 [.ptr Qf 0] [(Qf,.var 131 (XP l s (.ptr (Qf+1) 0))),((Qf+1),.var 137 (Jy p))] (Qba (J4 (QbO s { p with v:=Qs l (Qs l p.v p.g) s.acc,ref:=p.ref+1 }) (QdJ l s { p with v:=Qs l (Qs l p.v p.g) s.acc,ref:=p.ref+1 }) Jn)) [(Qf,.var 131 (XP l (QbO s { p with v:=Qs l (Qs l p.v p.g) s.acc,ref:=p.ref+1 }) (.ptr (Qf+1) 0))),((Qf+1),.var 137 (Jy (QdJ l s { p with v:=Qs l (Qs l p.v p.g) s.acc,ref:=p.ref+1 })))] 3:=by
 have hH:JK [(Qf,.var 131 (XP l s (.ptr (Qf+1) 0))),((Qf+1),.var 137 (Jy p))]:=JK.of rfl
 have hj:El l 100000 (Qs l (Qs l p.v p.g) s.acc):=((hv.join (Q9 hc) (by omega) hg).join (Q9 hc) (by omega) ha).up (by decide)
 refine Xt [2] Tryz.func44 rfl rfl 73 Tryz.ntmps44 (Nat.le_of_ble_eq_true rfl) ?_
 intro E hN;refine QbP ?_;refine zD 13 ?_;refine zl ?_;refine zp (Y0 rfl (by kernel_rfl) rfl rfl (.inr ⟨_,_,_,_,rfl,rfl,rfl⟩) (.inl ⟨rfl,rfl⟩)) ?_;refine QkJ ?_;refine zP (Y0 rfl (by kernel_rfl) rfl rfl (.inr ⟨_,_,_,_,rfl,rfl,rfl⟩) (.inl ⟨rfl,rfl⟩)) ?_;refine QK ?_;refine zD 13 ?_;refine JF ?_;refine zp (Qd (fcb (Wl l hc hg.1 hv.1) hle) rfl rfl rfl) ?_;refine QL ?_;refine zD 18 ?_;refine WT ?_;refine zp (XH rfl rfl rfl rfl (by exact rfl) (by decide) (by decide) (QvC p.v p.g s.acc)) ?_
 refine zp (XE hH (QpR l s (.ptr (Qf+1) 0) [((Qf+1),.var 137 (Jy p))] hH hc (hv.up (by decide)) (hg.up (by decide)) (ha.up (by decide))) rfl rfl rfl hH.pp) ?_;refine Qfe ?_;refine Yd hN [(Qf,Qf),((Qf+1),(Qf+1))] (QkU l s { p with v:=Qs l (Qs l p.v p.g) s.acc,ref:=p.ref+1 } hc hs0 hs1 hn0 hn1) (.fn _ _ _ _ rfl rfl) rfl rfl rfl ⟨rfl,rfl,rfl,rfl,rfl,rfl,trivial⟩ rfl ⟨rfl,rfl,trivial⟩ rfl rfl rfl rfl rfl rfl rfl rfl ?_;refine QK ?_
 refine Yd hN [(Qf,Qf),((Qf+1),(Qf+1))] (QfA l (QbO s { p with v:=Qs l (Qs l p.v p.g) s.acc,ref:=p.ref+1 }) (QdJ l s { p with v:=Qs l (Qs l p.v p.g) s.acc,ref:=p.ref+1 }) [] (JK.of rfl) hc h1 h2 hj Jn 98 [] (fun i _=>QfT (JK.of rfl) (i:Int)) rfl rfl rfl) (.fn _ _ _ _ rfl rfl) rfl rfl rfl ⟨rfl,rfl,rfl,rfl,rfl,rfl,trivial⟩ rfl ⟨Qkc (Js _),rfl,rfl,trivial⟩ rfl (Qic (Js _) rfl rfl) rfl rfl rfl rfl rfl rfl ?_;refine zT ?_
 refine QC (JU 2 2 rfl rfl (by rw[List.length_map]) (QS _) (Js _) rfl) ?_;refine Qu ?_;change (Xz _ _).ntt=_∧_;refine Wb rfl ?_ rfl rfl rfl ⟨rfl,rfl,rfl,rfl,rfl,rfl,trivial⟩
 rfl
end Go.Proofs.YtnkkokmmeplbgaaGreat
