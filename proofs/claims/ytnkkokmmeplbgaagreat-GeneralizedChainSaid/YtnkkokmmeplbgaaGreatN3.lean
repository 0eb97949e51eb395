/-
  Contracts: a new node; what a node without a proposal answer
-/
import Derived.Test.YtnkkokmmeplbgaaGreatN2
import Derived.Test.YtnkkokmmeplbgaaGreatA11
namespace Go.Proofs.YtnkkokmmeplbgaaGreat
set_option maxRecDepth 100000
set_option maxHeartbeats 1000000
open Go.RowKit
theorem Qsv (l:Qv)(s:Nd)(R:List (Nat×Qj))(hH:JK ((Qf,.var 131 (XP l s Jw))::R)):GC Tryz.prog 46 [.ptr Qf 0] ((Qf,.var 131 (XP l s Jw))::R) (.tup [.agg (QO Qz.zero),i64 0,bl false]) ((Qf,.var 131 (XP l s Jw))::R):=by
 refine WP [.c 2 30 4 true,.t 3,.t 4] ⟨⟨inferInstance,rfl⟩,trivial⟩ Tryz.func46 rfl rfl 24 Tryz.ntmps46 (Nat.le_of_ble_eq_true rfl) ?_
 intro E hN;refine Qbp ?_;refine zP (Y0 rfl (by kernel_rfl) rfl rfl (.inl ⟨rfl,rfl⟩) (.inl ⟨rfl,rfl⟩)) ?_;refine J6 ?_;refine Qu ?_;change (resY _ _).bind AV.fzt=some _∧_;refine Qfm hH hH.pp rfl ?_
 rfl
theorem Quy (l:Qv)(s:Nd)(R:List (Nat×Qj))(hH:JK ((Qf,.var 131 (XP l s Jw))::R)):GC Tryz.prog 48 [.ptr Qf 0] ((Qf,.var 131 (XP l s Jw))::R) (i64 0) ((Qf,.var 131 (XP l s Jw))::R):=by
 refine Yn [2] Tryz.func48 rfl rfl 15 Tryz.ntmps48 (Nat.le_of_ble_eq_true rfl) ?_
 intro E hN;refine X5 ?_;refine zP (Y0 rfl (by kernel_rfl) rfl rfl (.inl ⟨rfl,rfl⟩) (.inl ⟨rfl,rfl⟩)) ?_;refine XL ?_;refine Qu ?_;change (Xz _ _).fzt=some _∧_;refine Qdz hH hH.pp rfl ?_
 rfl
theorem Qsw (l:Qv)(s:Nd)(R:List (Nat×Qj))(hH:JK ((Qf,.var 131 (XP l s Jw))::R))(hc:QJ l=0)(hw:eqV s.lrn (Qy l)=true):GC Tryz.prog 44 [.ptr Qf 0] ((Qf,.var 131 (XP l s Jw))::R) (.sl [] none) ((Qf,.var 131 (XP l s Jw))::R):=by
 refine Yn [2] Tryz.func44 rfl rfl 73 Tryz.ntmps44 (Nat.le_of_ble_eq_true rfl) ?_
 intro E hN;refine QbP ?_;refine zD 13 ?_;refine zl ?_;refine zp (Y0 rfl (by kernel_rfl) rfl rfl (.inl ⟨rfl,rfl⟩) (.inl ⟨rfl,rfl⟩)) ?_;refine J6 ?_;refine zp (Qd (fcb (QeB l s.lrn hc) hw) rfl rfl rfl) ?_;refine Jl ?_;refine Qu ?_;change (Xz _ _).fzt=some _∧_;refine Qdz hH hH.pp rfl ?_
 rfl
theorem Qs5 (l:Qv)(s:Nd)(p:Pp)(i:Nat)(hi:i<12):GC Tryz.prog 96 [i64 i,.ptr (Qf+2) 0] [(Qf,.var 131 (XP l s (.ptr (Qf+1) 0))),((Qf+1),.var 137 (Jy p)),(Qf+2,.var 129 [.ptr (Qf+1) 0])] (bl (!p.ack i)) [(Qf,.var 131 (XP l s (.ptr (Qf+1) 0))),((Qf+1),.var 137 (Jy p)),(Qf+2,.var 129 [.ptr (Qf+1) 0])]:=by
 have hH:JK [(Qf,.var 131 (XP l s (.ptr (Qf+1) 0))),((Qf+1),.var 137 (Jy p)),(Qf+2,.var 129 [.ptr (Qf+1) 0])]:=JK.of rfl
 refine Yn [3] Tryz.func96 rfl rfl 11 Tryz.ntmps96 (Nat.le_of_ble_eq_true rfl) ?_
 intro E hN;refine XR ?_;refine zP (Qml rfl rfl rfl i rfl hi rfl rfl) ?_;refine zP (Xc rfl rfl (QxD hi rfl) rfl rfl) ?_;refine QI ?_;refine Qu ?_;change (Xz _ _).fzt=some _∧_;refine Qdz hH hH.pp rfl ?_
 rfl
theorem QlR (l:Qv)(s:Nd)(p:Pp)(hc:QJ l=0)(h1:1≤s.n)(h2:s.n≤12)(hv:El l 100000 p.v)(hg:QA p.g l=true)(hle:QE l p.g p.v=true):GC Tryz.prog 44 [.ptr Qf 0] [(Qf,.var 131 (XP l s (.ptr (Qf+1) 0))),((Qf+1),.var 137 (Jy p))] (Qba (J4 s p (fun i => !p.ack i))) [(Qf,.var 131 (XP l s (.ptr (Qf+1) 0))),((Qf+1),.var 137 (Jy p))]:=by
 have hH:JK [(Qf,.var 131 (XP l s (.ptr (Qf+1) 0))),((Qf+1),.var 137 (Jy p))]:=JK.of rfl
 refine Yn [2] Tryz.func44 rfl rfl 73 Tryz.ntmps44 (Nat.le_of_ble_eq_true rfl) ?_
 intro E hN;refine QbP ?_;refine zD 13 ?_;refine zl ?_;refine zp (Y0 rfl (by kernel_rfl) rfl rfl (.inr ⟨_,_,_,_,rfl,rfl,rfl⟩) (.inl ⟨rfl,rfl⟩)) ?_;refine QkJ ?_;refine zP (Y0 rfl (by kernel_rfl) rfl rfl (.inr ⟨_,_,_,_,rfl,rfl,rfl⟩) (.inl ⟨rfl,rfl⟩)) ?_;refine QK ?_;refine zD 13 ?_;refine JF ?_;refine zp (Qd (fcb (Wl l hc hg hv.1) hle) rfl rfl rfl) ?_;refine XL ?_;refine zP (QnB rfl rfl) ?_
 refine Yd hN [(Qf,Qf),((Qf+1),(Qf+1)),((Qf+2),0)] (QfA l s p [(Qf+2,.var 129 [.ptr (Qf+1) 0])] (JK.of rfl) hc h1 h2 hv (fun i => !p.ack i) 96 [.ptr (Qf+2) 0] (fun i hi=>Qs5 l s p i hi) rfl rfl rfl) (.fn _ _ _ _ rfl rfl) rfl rfl rfl ⟨rfl,rfl,rfl,rfl,rfl,rfl,rfl,rfl,rfl,trivial⟩ rfl ⟨Qkc (Js _),rfl,rfl,rfl,trivial⟩ rfl (QsM (Js _) rfl rfl rfl) rfl rfl rfl rfl rfl rfl ?_;refine zT ?_
 refine QC (JU 2 2 rfl rfl (by rw[List.length_map]) (QS _) (Js _) rfl) ?_;refine Qu ?_;change (Xz _ _).fzt=some _∧_;refine QwJ rfl ?_ rfl ?_ rfl rfl ?_ rfl
 all_goals rfl
def Qbh (l:Qv)(n self:Int):Nd:=⟨n,self,Qy l,Qy l,Qy l,0⟩
def Qj7 (n self:Int):Nd:=⟨n,self,Qz.zero,Qz.zero,Qz.zero,0⟩
theorem QkS (l:Qv)(n self:Int)(hc:QJ l=0)(h1:1≤n)(h2:n≤12)(hs0:0≤self)(hs1:self<n):FN Tryz.prog 38 [.agg (Q7 l),i64 n,i64 self] 131 (XP l (Qbh l n self) Jw) (i64 0):=by
 refine QqP 6 7 Tryz.func38 rfl rfl 50 Tryz.ntmps38 (Nat.le_of_ble_eq_true rfl) ?_
 intro E hN;refine XR ?_;refine zP (Qd (QcB l) rfl rfl rfl) ?_;refine QR ?_
 refine zc 12 ?_ ?_<;>intro h7
 ·refine Qvv ?_;refine Qu ?_
  exfalso
  first|(simp_all;done)|(simp_all;omega)
 refine QK ?_
 refine zc 16 ?_ ?_<;>intro h8
 ·refine QeV ?_;refine Qu ?_
  exfalso
  first|(simp_all;done)|(simp_all;omega)
 refine QK ?_
 refine zc 20 ?_ ?_<;>intro h9
 ·refine QgC ?_;refine Qu ?_
  exfalso
  first|(simp_all;done)|(simp_all;omega)
 refine QK ?_
 refine zc 24 ?_ ?_<;>intro h10
 ·refine X5 ?_;refine Qu ?_
  exfalso
  first|(simp_all;done)|(simp_all;omega)
 refine QL ?_
 refine zq ?_ ?_<;>intro h11
 ·refine QL ?_;refine Qu ?_
  exfalso
  first|(simp_all;done)|(simp_all;omega)
 refine X5 ?_;refine QC (Qgv 1 (cs':=XP l (Qj7 n self) Jw) rfl (by repeat (first|exact trivial|refine⟨.inl rfl,?_⟩|refine⟨.inr ⟨rfl,rfl⟩,?_⟩))) ?_;refine QL ?_;refine zP (YO [(Qf,1)] (QaJ l (Qj7 n self) Jw [] (JK.of rfl) hc) rfl rfl rfl rfl ⟨rfl,rfl,rfl,rfl,trivial⟩ rfl) ?_;refine zM ?_;refine zP (YO [(Qf,1)] (QaJ l (Qj7 n self) Jw [] (JK.of rfl) hc) rfl rfl rfl rfl ⟨rfl,rfl,rfl,rfl,trivial⟩ rfl) ?_;refine zM ?_
 refine zP (YO [(Qf,1)] (QaJ l (Qj7 n self) Jw [] (JK.of rfl) hc) rfl rfl rfl rfl ⟨rfl,rfl,rfl,rfl,trivial⟩ rfl) ?_;refine QbP ?_;refine Qu ?_;exact⟨1,_,_,rfl,rfl,rfl,rfl,rfl⟩
theorem Quh (l:Qv)(n self:Int)(hbad:¬QJ l=0∨n<1∨12<n∨self<0∨n≤self):FC Tryz.prog 38 [.agg (Q7 l),i64 n,i64 self] (.tup [.p (.pointer none),i64 1]):=by
 refine Qg [6,7] Tryz.func38 rfl rfl 50 Tryz.ntmps38 (Nat.le_of_ble_eq_true rfl) ?_
 intro E hN;refine XR ?_;refine zP (Qd (QcB l) rfl rfl rfl) ?_;refine QR ?_
 refine zc 12 ?_ ?_<;>intro h7
 ·refine QpI ?_;refine zQ ?_
  rfl
 refine QK ?_
 refine zc 16 ?_ ?_<;>intro h8
 ·refine Qfe ?_;refine zQ ?_
  rfl
 refine QK ?_
 refine zc 20 ?_ ?_<;>intro h9
 ·refine WT ?_;refine zQ ?_
  rfl
 refine QK ?_
 refine zc 24 ?_ ?_<;>intro h10
 ·refine XR ?_;refine zQ ?_
  rfl
 refine QL ?_
 refine zq ?_ ?_<;>intro h11
 ·refine QK ?_;refine zQ ?_
  rfl
 exfalso
 first|(simp_all;done)|(simp_all;omega)
theorem Qjt (l:Qv)(s:Nd)(v:Qz)(hc:QJ l=0)(h1:2≤s.n)(h2:s.n≤12)(hs0:0≤s.self)(hs1:s.self<12)(hn0:0≤s.num)(hn1:s.num≤1000000)(ha:El l 50000 s.acc)(hw:El l 40000 s.wt)(hv:Xr l v=true)(he:El l 1000 v):GX Tryz.prog 40 [.ptr Qf 0,.agg (QO v)] [(Qf,.var 131 (XP l s Jw))] (.tup [Qba (J4 (Jv l { s with wt:=Qs l s.wt v }) (Ju l { s with wt:=Qs l s.wt v }) Jn),i64 0]) [(Qf,.var 131 (XP l (Jv l { s with wt:=Qs l s.wt v }) (.ptr 1 0))),(1,.var 137 (Jy (Ju l { s with wt:=Qs l s.wt v })))] 4:=by
 have hH:JK [(Qf,.var 131 (XP l s Jw))]:=JK.of rfl
 have hj:El l 50000 (Qs l s.wt v):=(hw.join (Q9 hc) (by omega) he).up (by decide)
 refine Xt [4,5] Tryz.func40 rfl rfl 31 Tryz.ntmps40 (Nat.le_of_ble_eq_true rfl) ?_
 intro E hN;refine Jl ?_;refine zD 6 ?_;refine QL ?_;refine zp (Qd (fcb (QcS l v) hv) rfl rfl rfl) ?_;refine QL ?_;refine zD 11 ?_;refine Xy ?_;refine zp (XH rfl rfl rfl rfl (by exact rfl) (by decide) (by decide) (Qcp s.wt v)) ?_;refine zp (XE hH (WZ l s Jw [] hH hc (hw.up (by decide)) (he.up (by decide))) rfl rfl rfl hH.pp) ?_;refine X5 ?_;refine zP (Y0 rfl (by kernel_rfl) rfl rfl (.inl ⟨rfl,rfl⟩) (.inr ⟨rfl,rfl⟩)) ?_;refine XL ?_
 refine Yd hN [(Qf,Qf)] (Qpr l { s with wt:=Qs l s.wt v } hc h1 h2 hs0 hs1 hn0 hn1 ha hj) (.fn _ _ _ _ rfl rfl) rfl rfl rfl ⟨rfl,rfl,rfl,trivial⟩ rfl ⟨rfl,rfl,trivial⟩ rfl rfl rfl rfl rfl rfl rfl rfl ?_;refine QI ?_;refine Qu ?_;change (Xz _ _).ntt=_∧_;refine Wb rfl ?_ rfl rfl rfl ⟨rfl,rfl,rfl,rfl,rfl,rfl,trivial⟩
 rfl
theorem QdD {a b:Bool}(h:a=b):some (bl a)=some (bl b):=by rw[h]
def cB1 (m:Kb):Bool:=decide (m.k<1)||decide (m.k > 4)
def cB2 (s:Nd)(m:Kb):Bool:=decide (m.f<0)||decide (m.f≥s.n)||(m.f==s.self)||(m.t != s.self)
def cB3 (m:Kb):Bool:=(m.k==4)&&(m.n != 0)
def cB4 (m:Kb):Bool:=(m.k != 4)&&decide (m.n<1)
def cB5 (m:Kb):Bool:=(m.k==2) && !eqV m.v Qz.zero
def cB6 (l:Qv)(m:Kb):Bool:=(m.k != 2) && !Xr l m.v
def QeZ (s:Nd)(m:Kb):Bool:=cB1 m||cB2 s m||cB3 m||cB4 m||cB5 m
def Wy (l:Qv)(s:Nd)(m:Kb):Int:=if QeZ s m then 1 else if cB6 l m then 4 else 0
theorem QuU {l:Qv}{s:Nd}{m:Kb}(h:Wy l s m=0):QeZ s m=false∧cB6 l m=false:=by
 unfold Wy at h
 cases h1:QeZ s m<;>cases h2:cB6 l m<;>simp_all
theorem Qay {l:Qv}{s:Nd}{m:Kb}(h:Wy l s m=0):1≤m.k∧m.k≤4∧0≤m.f∧m.f<s.n∧m.f≠s.self∧m.t=s.self:=by
 have h1:=(QuU h).1
 simp[QeZ,cB1,cB2] at h1
 omega
theorem WC (l:Qv)(s:Nd)(x:AV)(R:List (Nat×Qj))(hH:JK ((Qf,.var 131 (XP l s x))::R))(m:Kb):GC Tryz.prog 83 [.ptr Qf 0,.agg (Ja m)] ((Qf,.var 131 (XP l s x))::R) (i64 (Wy l s m)) ((Qf,.var 131 (XP l s x))::R):=by
 refine Yn [4] Tryz.func83 rfl rfl 84 Tryz.ntmps83 (Nat.le_of_ble_eq_true rfl) ?_
 intro E hN;refine Xy ?_;refine JI (⟨[(0,.ptr Qf 0),(3,.ptr 0 0),(5,bl (QeZ s m))],(0,.var 54 (Ja m))::((Qf,.var 131 (XP l s x))::R),1⟩) ?_ ?_
 ·refine JI (⟨[(0,.ptr Qf 0),(3,.ptr 0 0),(5,bl (cB1 m))],(0,.var 54 (Ja m))::((Qf,.var 131 (XP l s x))::R),1⟩) ?_ ?_
  ·refine QL ?_
   refine zc 9 ?_ ?_<;>intro h6
   ·refine QL ?_;refine Qc ?_;exact Xw (pre:=[(0,_)]) hH rfl rfl ⟨rfl,rfl,rfl,rfl,(QdD (by simp_all [cB1]<;>(intros;omega))),rfl,trivial⟩ ⟨rfl,rfl,rfl,trivial⟩ hH.pp
   refine QL ?_;refine Qc ?_;exact Xw (pre:=[(0,_)]) hH rfl rfl ⟨rfl,rfl,rfl,rfl,(QdD (by simp_all [cB1]<;>(intros;omega))),rfl,trivial⟩ ⟨rfl,rfl,rfl,trivial⟩ hH.pp
  refine zq ?_ ?_<;>intro h12
  ·refine QM ?_;exact Xw (pre:=[(0,_)]) hH rfl rfl ⟨rfl,rfl,rfl,rfl,(QdD (by simp_all [QeZ,cB5]<;>(intros;omega))),rfl,trivial⟩ ⟨rfl,rfl,rfl,trivial⟩ hH.pp
  refine JI (⟨[(0,.ptr Qf 0),(3,.ptr 0 0),(5,bl (cB2 s m))],(0,.var 54 (Ja m))::((Qf,.var 131 (XP l s x))::R),1⟩) ?_ ?_
  ·refine zD 30 ?_;refine QK ?_
   refine zd 17 ?_ ?_<;>intro h15
   ·refine Qha ?_;refine QI ?_;refine Qc ?_;exact Xw (pre:=[(0,_)]) hH rfl rfl ⟨rfl,rfl,rfl,rfl,(QdD (by simp_all [cB2]<;>(intros;omega))),rfl,trivial⟩ ⟨rfl,rfl,rfl,trivial⟩ hH.pp
   refine J6 ?_
   refine zd 26 ?_ ?_<;>intro h20
   ·refine Qfe ?_;refine Qc ?_;exact Xw (pre:=[(0,_)]) hH rfl rfl ⟨rfl,rfl,rfl,rfl,(QdD (by simp_all [cB2]<;>(intros;omega))),rfl,trivial⟩ ⟨rfl,rfl,rfl,trivial⟩ hH.pp
   refine J6 ?_
   refine zd 35 ?_ ?_<;>intro h25
   ·refine J6 ?_;refine Qc ?_;exact Xw (pre:=[(0,_)]) hH rfl rfl ⟨rfl,rfl,rfl,rfl,(QdD (by simp_all [cB2]<;>(intros;omega))),rfl,trivial⟩ ⟨rfl,rfl,rfl,trivial⟩ hH.pp
   refine J6 ?_;refine Qc ?_;exact Xw (pre:=[(0,_)]) hH rfl rfl ⟨rfl,rfl,rfl,rfl,(QdD (by simp_all [cB2]<;>(intros;omega))),rfl,trivial⟩ ⟨rfl,rfl,rfl,trivial⟩ hH.pp
  refine zq ?_ ?_<;>intro h33
  ·refine QM ?_;exact Xw (pre:=[(0,_)]) hH rfl rfl ⟨rfl,rfl,rfl,rfl,(QdD (by simp_all [QeZ,cB5]<;>(intros;omega))),rfl,trivial⟩ ⟨rfl,rfl,rfl,trivial⟩ hH.pp
  refine JI (⟨[(0,.ptr Qf 0),(3,.ptr 0 0),(5,bl (cB3 m))],(0,.var 54 (Ja m))::((Qf,.var 131 (XP l s x))::R),1⟩) ?_ ?_
  ·refine QL ?_
   refine zc 47 ?_ ?_<;>intro h36
   ·refine QL ?_;refine Qc ?_;exact Xw (pre:=[(0,_)]) hH rfl rfl ⟨rfl,rfl,rfl,rfl,(QdD (by simp_all [cB3]<;>(intros;omega))),rfl,trivial⟩ ⟨rfl,rfl,rfl,trivial⟩ hH.pp
   refine QL ?_;refine Qc ?_;exact Xw (pre:=[(0,_)]) hH rfl rfl ⟨rfl,rfl,rfl,rfl,(QdD (by simp_all [cB3]<;>(intros;omega))),rfl,trivial⟩ ⟨rfl,rfl,rfl,trivial⟩ hH.pp
  refine zq ?_ ?_<;>intro h42
  ·refine QM ?_;exact Xw (pre:=[(0,_)]) hH rfl rfl ⟨rfl,rfl,rfl,rfl,(QdD (by simp_all [QeZ,cB5]<;>(intros;omega))),rfl,trivial⟩ ⟨rfl,rfl,rfl,trivial⟩ hH.pp
  refine JI (⟨[(0,.ptr Qf 0),(3,.ptr 0 0),(5,bl (cB4 m))],(0,.var 54 (Ja m))::((Qf,.var 131 (XP l s x))::R),1⟩) ?_ ?_
  ·refine QL ?_
   refine zc 55 ?_ ?_<;>intro h45
   ·refine QL ?_;refine Qc ?_;exact Xw (pre:=[(0,_)]) hH rfl rfl ⟨rfl,rfl,rfl,rfl,(QdD (by simp_all [cB4]<;>(intros;omega))),rfl,trivial⟩ ⟨rfl,rfl,rfl,trivial⟩ hH.pp
   refine QL ?_;refine Qc ?_;exact Xw (pre:=[(0,_)]) hH rfl rfl ⟨rfl,rfl,rfl,rfl,(QdD (by simp_all [cB4]<;>(intros;omega))),rfl,trivial⟩ ⟨rfl,rfl,rfl,trivial⟩ hH.pp
  refine zq ?_ ?_<;>intro h51
  ·refine QM ?_;exact Xw (pre:=[(0,_)]) hH rfl rfl ⟨rfl,rfl,rfl,rfl,(QdD (by simp_all [QeZ,cB5]<;>(intros;omega))),rfl,trivial⟩ ⟨rfl,rfl,rfl,trivial⟩ hH.pp
  refine QL ?_
  refine zc 63 ?_ ?_<;>intro h54
  ·refine QR ?_;refine uP (XT h54) (QaS rfl rfl rfl) ?_;refine uP (XT h54) (Qd (Qgo m.v Qz.zero) rfl rfl rfl) ?_;refine QI ?_;refine Qc ?_;exact Xw (pre:=[(0,_)]) hH rfl rfl ⟨rfl,rfl,rfl,rfl,(QdD (by simp_all [QeZ,cB5]<;>(intros;omega))),rfl,trivial⟩ ⟨rfl,rfl,rfl,trivial⟩ hH.pp
  refine Xy ?_;refine Qc ?_;exact Xw (pre:=[(0,_)]) hH rfl rfl ⟨rfl,rfl,rfl,rfl,(QdD (by simp_all [QeZ,cB5]<;>(intros;omega))),rfl,trivial⟩ ⟨rfl,rfl,rfl,trivial⟩ hH.pp
 refine zq ?_ ?_<;>intro h61
 ·refine QK ?_;refine Qu ?_;change (Xz _ _).fzt=some _∧_;refine Qdz hH hH.pp rfl ?_
  simp_all [Wy]
 refine JI (⟨[(0,.ptr Qf 0),(3,.ptr 0 0),(70,bl (cB6 l m))],(0,.var 54 (Ja m))::((Qf,.var 131 (XP l s x))::R),1⟩) ?_ ?_
 ·refine zD 13 ?_;refine QK ?_
  refine zd 74 ?_ ?_<;>intro h64
  ·refine XL ?_;refine vP (XT h64) (Qd (QcS l m.v) rfl rfl rfl) ?_;refine QI ?_;refine Qc ?_;exact Xw (pre:=[(0,_)]) hH rfl rfl ⟨rfl,rfl,rfl,rfl,(QdD (by simp_all [cB6]<;>(intros;omega))),rfl,trivial⟩ ⟨rfl,rfl,rfl,trivial⟩ hH.pp
  refine XR ?_;refine Qc ?_;exact Xw (pre:=[(0,_)]) hH rfl rfl ⟨rfl,rfl,rfl,rfl,(QdD (by simp_all [cB6]<;>(intros;omega))),rfl,trivial⟩ ⟨rfl,rfl,rfl,trivial⟩ hH.pp
 refine zq ?_ ?_<;>intro h72
 ·refine QK ?_;refine Qu ?_;change (Xz _ _).fzt=some _∧_;refine Qdz hH hH.pp rfl ?_
  simp_all [Wy]
 refine QL ?_;refine Qu ?_;change (Xz _ _).fzt=some _∧_;refine Qdz hH hH.pp rfl ?_
 simp_all [Wy]
def Qg9 (l:Qv)(s:Nd)(m:Kb):Kb:=if QE l s.acc m.v then⟨2,s.self,m.f,m.n,Qz.zero⟩ else⟨3,s.self,m.f,m.n,Qs l s.acc m.v⟩
theorem Qja (l:Qv)(s:Nd)(m:Kb)(hc:QJ l=0)(hk:m.k=1)(hok:Wy l s m=0)(ha:El l 40000 s.acc)(hm:El l 40000 m.v):GX Tryz.prog 42 [.ptr Qf 0,.agg (Ja m)] [(Qf,.var 131 (XP l s Jw))] (.tup [Qba [Qg9 l s m],i64 0]) [(Qf,.var 131 (XP l { s with acc:=Qs l s.acc m.v } Jw))] 2:=by
 have hH:JK [(Qf,.var 131 (XP l s Jw))]:=JK.of rfl
 have hj:El l 100000 (Qs l s.acc m.v):=(ha.join (Q9 hc) (by omega) hm).up (by decide)
 refine Xt [4,5] Tryz.func42 rfl rfl 156 Tryz.ntmps42 (Nat.le_of_ble_eq_true rfl) ?_
 intro E hN;refine X5 ?_;refine zP (XE hH (by have h:=WC l s Jw [] hH m;rwa [hok] at h) rfl rfl rfl hH.pp) ?_;refine XR ?_;refine zD 14 ?_;refine QK ?_;refine zp (Y0 rfl (by kernel_rfl) rfl rfl (.inl ⟨rfl,rfl⟩) (.inr ⟨rfl,rfl⟩)) ?_;refine Qf2 ?_;refine zP (QD (b:=true) rfl rfl rfl (by simpa using hk)) ?_;refine QK ?_;refine Qis [([0,1,2,3,4,5,6,7,8],9)] [10] (by kernel_rfl) (by kernel_rfl) rfl ?_;refine⟨_,rfl,?_⟩;refine Jl ?_;refine zp (QaS rfl rfl rfl) ?_;change FK _ _ _ _ _ _;refine Qkz hN rfl rfl rfl rfl rfl rfl rfl ?_
 change Q3 _ _ _ _ _ _;refine QI ?_;refine zD 11 ?_;refine XR ?_;refine zp (Qd (Wl l hc ha.1 hm.1) rfl rfl rfl) ?_;refine QI ?_;refine zD 12 ?_;refine Jl ?_;refine zp (XH rfl rfl rfl rfl (by exact rfl) (by decide) (by decide) (Qcp s.acc m.v)) ?_;refine zp (XE hH (WZ l s Jw [] hH hc (ha.up (by decide)) (hm.up (by decide))) rfl rfl rfl hH.pp) ?_;refine XR ?_
 refine zq ?_ ?_<;>intro h26
 rotate_left
 ·have hle:QE l s.acc m.v=true:=by simpa using h26
  refine QK ?_;refine zP (Q0 rfl rfl rfl rfl (by exact rfl) (by decide) (by decide)) ?_;refine QI ?_;refine Qu ?_;change (Xz _ _).ntt=_∧_;refine Wb rfl ?_ rfl rfl rfl ⟨rfl,rfl,rfl,trivial⟩
  rw[Qg9,hle];rfl
 have hle:QE l s.acc m.v=false:=by simpa using h26
 refine XL ?_;refine zP (YO [] (YT l { s with acc:=Qs l s.acc m.v } Jw [] (JK.of rfl) hc hj) rfl rfl rfl rfl ⟨rfl,rfl,rfl,rfl,trivial⟩ rfl) ?_;refine Jl ?_;refine zP (Q0 rfl rfl rfl rfl (by exact rfl) (by decide) (by decide)) ?_;refine QI ?_;refine Qu ?_;change (Xz _ _).ntt=_∧_;refine Wb rfl ?_ rfl rfl rfl ⟨rfl,rfl,rfl,trivial⟩
 rw[Qg9,hle];rfl
theorem Qmm (l:Qv)(s:Nd)(p:Pp)(m:Kb)(hc:QJ l=0)(hk:m.k=2)(hok:Wy l s m=0)(h1:1≤s.n)(h2:s.n≤12)(hmine:m.n=s.num)(hl:El l 100000 s.lrn)(hv:El l 100000 p.v)(hq:Qav s { p with ack:=upN p.ack m.f.toNat true }=true)(hw:eqV s.wt (Qy l)=true):GX Tryz.prog 42 [.ptr Qf 0,.agg (Ja m)] [(Qf,.var 131 (XP l s (.ptr (Qf+1) 0))),((Qf+1),.var 137 (Jy p))] (.tup [Qba (Qa2 (Xv l s p)),i64 0]) [(Qf,.var 131 (XP l (Xv l s p) Jw)),((Qf+1),.var 137 (Jy { p with ack:=upN p.ack m.f.toNat true }))] 3:=by
 have hH:JK [(Qf,.var 131 (XP l s (.ptr (Qf+1) 0))),((Qf+1),.var 137 (Jy p))]:=JK.of rfl
 obtain⟨-,-,f0,f1,-,-⟩:=Qay hok;have hf12:m.f.toNat<12:=by omega
 refine Xt [4,5] Tryz.func42 rfl rfl 156 Tryz.ntmps42 (Nat.le_of_ble_eq_true rfl) ?_
 intro E hN;refine X5 ?_;refine zP (XE hH (by have h:=WC l s (.ptr (Qf+1) 0) [((Qf+1),.var 137 (Jy p))] hH m;rwa [hok] at h) rfl rfl rfl hH.pp) ?_;refine XR ?_;refine zD 14 ?_;refine QK ?_;refine zp (Y0 rfl (by kernel_rfl) rfl rfl (.inr ⟨_,_,_,_,rfl,rfl,rfl⟩) (.inr ⟨rfl,rfl⟩)) ?_;refine Xy ?_;refine zp (QD (b:=true) rfl rfl rfl (by simpa using hmine)) ?_;refine JF ?_;refine zP (QD (b:=false) rfl rfl rfl (by simp[hk])) ?_;refine QL ?_;refine zP (QD (b:=true) rfl rfl rfl (by simpa using hk)) ?_;refine J6 ?_
 refine zD 9 ?_;refine Jl ?_;refine zp (Qml rfl rfl rfl m.f.toNat (by omega) hf12 rfl rfl) ?_;refine WE rfl rfl rfl rfl rfl rfl (Qo4 hf12) rfl rfl rfl (QkM hf12) ?_;refine QK ?_;refine Yd hN [(Qf,Qf),((Qf+1),(Qf+1))] (Qpc l s { p with ack:=upN p.ack m.f.toNat true } hc h1 h2 hl hv hq hw) (.fn _ _ _ _ rfl rfl) rfl rfl rfl ⟨rfl,rfl,rfl,rfl,rfl,rfl,trivial⟩ rfl ⟨rfl,rfl,trivial⟩ rfl rfl rfl rfl rfl rfl rfl rfl ?_;refine QI ?_;refine Qu ?_;change (Xz _ _).ntt=_∧_;refine Wb rfl ?_ rfl rfl rfl ⟨rfl,rfl,rfl,rfl,rfl,rfl,trivial⟩
 rfl
end Go.Proofs.YtnkkokmmeplbgaaGreat
