/-
  Contracts: a node proposes, decides, begins and ends.
-/
import Derived.Test.YtnkkokmmeplbgaaGreatN1
import Derived.Test.YtnkkokmmeplbgaaGreatT5
import Derived.Test.YtnkkokmmeplbgaaGreatA8
import Derived.Test.YtnkkokmmeplbgaaGreatA12
namespace Go.Proofs.YtnkkokmmeplbgaaGreat
set_option maxRecDepth 100000
set_option maxHeartbeats 1000000
open Go.RowKit
theorem quo2 {n:Int}(h1:1≤n)(h2:n≤12):IntKind.i64.wrap ((n-1).tdiv 2)=(n-1) / 2:=by
 rcases(show n=1∨n=2∨n=3∨n=4∨n=5∨n=6∨n=7∨n=8∨n=9∨n=10∨n=11∨n=12 by omega) with rfl|rfl|rfl|rfl|rfl|rfl|rfl|rfl|rfl|rfl|rfl|rfl<;>rfl
def QbD (ack:Nat→Bool)(k:Nat):Nat:=(List.range k).countP ack
theorem QeC {ack:Nat→Bool}{k:Nat}(h:ack k=true):QbD ack (k+1)=QbD ack k+1:=by
 unfold QbD
 rw[List.range_succ,List.countP_append]
 simp[h]
theorem Qgz {ack:Nat→Bool}{k:Nat}(h:ack k=false):QbD ack (k+1)=QbD ack k:=by
 unfold QbD
 rw[List.range_succ,List.countP_append]
 simp[h]
theorem Qdp (ack:Nat→Bool)(k:Nat):QbD ack k≤k:=by
 unfold QbD
 have:=List.countP_le_length (p:=ack) (l:=List.range k)
 rwa [List.length_range] at this
abbrev Qvs (p:Pp):List AV:=[bl (p.ack 0),bl (p.ack 1),bl (p.ack 2),bl (p.ack 3),bl (p.ack 4),bl (p.ack 5),bl (p.ack 6),bl (p.ack 7),bl (p.ack 8),bl (p.ack 9),bl (p.ack 10),bl (p.ack 11)]
theorem QkG {p:Pp}{j:Nat}(h:j<12):(Qvs p)[j]?=some (bl (p.ack j)):=by
 rcases Qoz h with rfl|rfl|rfl|rfl|rfl|rfl|rfl|rfl|rfl|rfl|rfl|rfl<;>rfl
theorem Qwo {s:Nd}{p:Pp}(h:Qav s p=false):(QbD p.ack 12:Int)<QdU s.n:=by
 have h:decide (QdU s.n≤(QbD p.ack 12:Int))=false:=h
 simpa using h
theorem Qpq {s:Nd}{p:Pp}(h:Qav s p=true):¬(QbD p.ack 12:Int)<QdU s.n:=by
 have h:decide (QdU s.n≤(QbD p.ack 12:Int))=true:=h
 simpa using h
theorem QfF {l:Qv}{s:Nd}{p:Pp}(h:QE l s.lrn p.v=true):Xv l s p={ s with lrn:=p.v }:=by rw[Xv,if_pos h]
theorem Qkj {l:Qv}{s:Nd}{p:Pp}(h:QE l s.lrn p.v=false):Xv l s p=s:=by rw[Xv,if_neg (by rw[h];decide)]
theorem Qkc {Ho:List (Nat×Qj)}{es:List (List AV)}(h:∀e∈es,fzs e=some e):es.flatten.all (KH Ho)=true:=List.all_eq_true.2 fun x hx=>QkR (List.all_eq_true.1 (Qcz h) x hx)
section
variable {ρ:List (Nat×Nat)}{r q1 q2 q3 k:Nat}{te T1 T2 T3:TypeId}{es:List (List AV)}{c1 c1' c2 c2' c3 c3':List AV}
theorem Qic (h:∀e∈es,fzs e=some e)(h1:c1.map (Kq ρ)=c1')(h2:c2.map (Kq ρ)=c2'): [(r,Qj.arr te k es),(q1,.var T1 c1),(q2,.var T2 c2)].map (fun p=>(rn ρ p.1,YM ρ p.2))=[(rn ρ r,.arr te k es),(rn ρ q1,.var T1 c1'),(rn ρ q2,.var T2 c2')]:=by
 subst h1 h2
 simp only[List.map_cons,List.map_nil,YM,Qnp h]
theorem QsM (h:∀e∈es,fzs e=some e)(h1:c1.map (Kq ρ)=c1')(h2:c2.map (Kq ρ)=c2')(h3:c3.map (Kq ρ)=c3'): [(r,Qj.arr te k es),(q1,.var T1 c1),(q2,.var T2 c2),(q3,.var T3 c3)].map (fun p=>(rn ρ p.1,YM ρ p.2))=[(rn ρ r,.arr te k es),(rn ρ q1,.var T1 c1'),(rn ρ q2,.var T2 c2'),(rn ρ q3,.var T3 c3')]:=by
 subst h1 h2 h3
 simp only[List.map_cons,List.map_nil,YM,Qnp h]
end
theorem Qld (n:Int)(h1:1≤n)(h2:n≤12):FC Tryz.prog 165 [i64 1,i64 n] (bl true):=by
 refine Qg [4] Tryz.func165 rfl rfl 19 Tryz.ntmps165 (Nat.le_of_ble_eq_true rfl) ?_
 intro E hN;refine WT ?_;refine zP (QD (b:=true) rfl rfl rfl (by simpa using h1)) ?_;refine QI ?_;refine zP (QD (b:=true) rfl rfl rfl (by simpa using h2)) ?_;refine QR ?_;refine zQ ?_
 rfl
theorem Qq1 (n:Int)(h1:1≤n)(h2:n≤12):FC Tryz.prog 166 [i64 1,i64 n] (i64 ((n-1) / 2)):=by
 refine Qg [4] Tryz.func166 rfl rfl 17 Tryz.ntmps166 (Nat.le_of_ble_eq_true rfl) ?_
 intro E hN;refine J6 ?_;refine zP (Qd (Qld n h1 h2) rfl rfl rfl) ?_;refine QgC ?_;refine zP (KV rfl rfl rfl (by omega)) ?_;refine zP (Qx8 rfl rfl rfl (by decide)) ?_;refine zS ?_;refine zQ ?_;exact congrArg (fun z:Int=>i64 z) (quo2 h1 h2)
theorem QhB (n:Int)(h1:1≤n)(h2:n≤12):FC Tryz.prog 131 [i64 1,i64 n] (i64 (QdU n)):=by
 refine Qg [4] Tryz.func131 rfl rfl 14 Tryz.ntmps131 (Nat.le_of_ble_eq_true rfl) ?_
 intro E hN;refine J6 ?_;refine zP (Qd (Qld n h1 h2) rfl rfl rfl) ?_;refine J6 ?_;refine zP (Qd (Qq1 n h1 h2) rfl rfl rfl) ?_;refine zP (KV rfl rfl rfl (by omega)) ?_;refine zS ?_;refine zQ ?_
 rfl
theorem QfA (l:Qv)(s:Nd)(p:Pp)(R:List (Nat×Qj))(hH:JK ((Qf,.var 131 (XP l s (.ptr (Qf+1) 0)))::(Qf+1,.var 137 (Jy p))::R))(hc:QJ l=0)(h1:1≤s.n)(h2:s.n≤12)(hm:El l 100000 p.v)(to:Nat→Bool)(g:FuncId)(caps:List AV)[Xl Tryz.prog g](hF:∀i:Nat,i<12→GC Tryz.prog g (i64 i::caps) ((Qf,.var 131 (XP l s (.ptr (Qf+1) 0)))::(Qf+1,.var 137 (Jy p))::R) (bl (to i)) ((Qf,.var 131 (XP l s (.ptr (Qf+1) 0)))::(Qf+1,.var 137 (Jy p))::R))(hcap:caps.all QbK=true)(hcap2:okId 2 (.fn g caps)=true)(hcb:QbK (.fn g caps)=true):GX Tryz.prog 95 [.ptr Qf 0,.fn g caps] ((Qf,.var 131 (XP l s (.ptr (Qf+1) 0)))::(Qf+1,.var 137 (Jy p))::R) (.own 1 (J4 s p to).length) ((1,(.arr 54 8 ((J4 s p to).map fun b=>Ja b)))::((Qf,.var 131 (XP l s (.ptr (Qf+1) 0)))::(Qf+1,.var 137 (Jy p))::R)) 2:=by
 refine Xt [4] Tryz.func95 rfl rfl 20 Tryz.ntmps95 (Nat.le_of_ble_eq_true rfl) ?_
 intro E hN;refine QL ?_;refine zD 14 ?_;refine JF ?_;refine zp (QaS rfl rfl rfl) ?_;refine zm ?_;refine QfC hN hH (H:=((Qf,.var 131 (XP l s (.ptr (Qf+1) 0)))::(Qf+1,.var 137 (Jy p))::R)) (Js _) (Qpw l s _ _ hH hc h1 h2 ⟨1,0,0,s.num,p.v⟩ (by show ¬(1:Int)=2;decide) hm to g caps hF hcap hcap2) (.fn _ _ _ _ rfl rfl) (by rw[List.all_cons,List.all_cons,List.all_cons,hcb];rfl) hH.pp rfl rfl rfl rfl rfl rfl ?_;refine zT ?_;refine Qu ?_;change (Xz _ _).ntt=_∧_
 refine Qoa hH hH.pp rfl ?_ rfl rfl rfl rfl ?_ rfl (Qc2 _)
 ·rfl
 rfl
theorem Qkb (l:Qv)(s:Nd)(x0:AV)(R:List (Nat×Qj))(hH:JK ((Qf,.var 131 (XP l s x0))::R))(hc:QJ l=0)(h1:1≤s.n)(h2:s.n≤12)(hm:El l 100000 s.lrn):GX Tryz.prog 94 [.ptr Qf 0] ((Qf,.var 131 (XP l s x0))::R) (.own 1 (Qa2 s).length) ((1,(.arr 54 8 ((Qa2 s).map fun b=>Ja b)))::((Qf,.var 131 (XP l s x0))::R)) 2:=by
 refine Xt [2] Tryz.func94 rfl rfl 10 Tryz.ntmps94 (Nat.le_of_ble_eq_true rfl) ?_
 intro E hN;refine JF ?_;refine QfC hN hH (H:=((Qf,.var 131 (XP l s x0))::R)) (Js _) (Qpw l s _ _ hH hc h1 h2 ⟨4,0,0,0,s.lrn⟩ (by show ¬(4:Int)=2;decide) hm Jn 98 [] (fun i _=>QfT hH (i:Int)) rfl rfl) (.fn _ _ _ _ rfl rfl) rfl hH.pp rfl rfl rfl rfl rfl rfl ?_;refine zT ?_;refine Qu ?_;change (Xz _ _).ntt=_∧_;refine Qoa hH hH.pp rfl ?_ rfl rfl rfl rfl ?_ rfl (Qc2 _)
 ·rfl
 rfl
theorem QkU (l:Qv)(s:Nd)(p:Pp)(hc:QJ l=0)(hs0:0≤s.self)(hs1:s.self<12)(hn0:0≤s.num)(hn1:s.num≤1000000):GX Tryz.prog 97 [.ptr Qf 0] [(Qf,.var 131 (XP l s (.ptr (Qf+1) 0))),((Qf+1),.var 137 (Jy p))] (.tup []) [(Qf,.var 131 (XP l (QbO s p) (.ptr (Qf+1) 0))),((Qf+1),.var 137 (Jy (QdJ l s p)))] 0:=by
 have hH:JK [(Qf,.var 131 (XP l s (.ptr (Qf+1) 0))),((Qf+1),.var 137 (Jy p))]:=JK.of rfl
 have h12:s.self.toNat<12:=by omega
 refine Xt [] Tryz.func97 rfl rfl 38 Tryz.ntmps97 (Nat.le_of_ble_eq_true rfl) ?_
 intro E hN;refine JF ?_;refine zP (XE hH (QaJ l s (.ptr (Qf+1) 0) [((Qf+1),.var 137 (Jy p))] hH hc) rfl rfl rfl hH.pp) ?_;refine Qha ?_;refine QL ?_;refine zP (QtR rfl) ?_;refine QK ?_;refine zD 8 ?_;refine Xy ?_;refine zp (Qml rfl rfl rfl s.self.toNat (by omega) h12 rfl rfl) ?_;refine WE rfl rfl rfl rfl rfl rfl (Qo4 (p:={ p with g:=Qy l,ack:=fun _=>false }) h12) rfl rfl rfl (QkM (p:={ p with g:=Qy l,ack:=fun _=>false }) h12) ?_;refine Qc ?_;change (Xz _ _).ntt=_∧_
 refine Wb rfl ?_ rfl rfl rfl ⟨rfl,rfl,rfl,rfl,rfl,rfl,trivial⟩
 rfl
theorem QoI (l:Qv)(s:Nd)(p:Pp)(h1:1≤s.n)(h2:s.n≤12)(hq:Qav s p=false):GC Tryz.prog 86 [.ptr Qf 0] [(Qf,.var 131 (XP l s (.ptr (Qf+1) 0))),((Qf+1),.var 137 (Jy p))] (.sl [] none) [(Qf,.var 131 (XP l s (.ptr (Qf+1) 0))),((Qf+1),.var 137 (Jy p))]:=by
 have hH:JK [(Qf,.var 131 (XP l s (.ptr (Qf+1) 0))),((Qf+1),.var 137 (Jy p))]:=JK.of rfl
 refine Yn [2] Tryz.func86 rfl rfl 60 Tryz.ntmps86 (Nat.le_of_ble_eq_true rfl) ?_
 intro E hN;refine Qmp ?_;refine Qq (fun x:{k:Nat // k≤12}=>⟨[(0,.ptr Qf 0),(3,i64 (QbD p.ack x.1:Nat)),(13,.agg (Qvs p)),(14,i64 (x.1:Nat))],[(Qf,.var 131 (XP l s (.ptr (Qf+1) 0))),((Qf+1),.var 137 (Jy p))],0⟩) (fun x=>12-x.1) (⟨0,Nat.zero_le _⟩) ?_ ?_
 ·exact Qa rfl (Ks trivial) ⟨rfl,rfl,rfl,rfl,rfl,rfl,trivial⟩
 rintro⟨k,hk⟩;dsimp only;refine QL ?_
 refine zq ?_ ?_<;>intro h10
 rotate_left
 ·have hge:¬(k:Int)<12:=by simpa using h10
  obtain rfl:k=12:=by omega
  refine J6 ?_;refine zP (Qd (QhB s.n h1 h2) rfl rfl rfl) ?_;refine zP (QD (b:=true) rfl rfl rfl (by simpa using Qwo hq)) ?_;refine XL ?_;refine QC (QcI 2 rfl) ?_;refine Qu ?_;change (Xz _ _).fzt=some _∧_;refine Qdz hH hH.pp rfl ?_
  rfl
 have hlt:k<12:=Int.ofNat_lt.1 (by simpa using h10)
 refine QL ?_;refine zP (Qol rfl rfl rfl k rfl hlt rfl (QkG hlt)) ?_;refine XL ?_
 refine zq ?_ ?_<;>intro h11
 ·have hy:p.ack k=true:=h11
  refine QR ?_;refine zP (WM rfl rfl rfl (by first|omega|(have:=Qdp p.ack k;omega))) ?_;refine QI ?_;refine zP (WM rfl rfl rfl (by first|omega|(have:=Qdp p.ack k;omega))) ?_;refine zM ?_;refine Qc ?_;exact⟨⟨k+1,hlt⟩,Qa rfl (X2 ⟨(Y5 (by dsimp only;first|(rw[QeC hy];omega)|(rw[Qgz hy]))),rfl,rfl,rfl,JC,rfl,trivial⟩) ⟨rfl,rfl,rfl,rfl,rfl,rfl,trivial⟩,by dsimp only;omega⟩
 have hy:p.ack k=false:=h11
 refine QR ?_;refine zP (WM rfl rfl rfl (by first|omega|(have:=Qdp p.ack k;omega))) ?_;refine zM ?_;refine Qc ?_;exact⟨⟨k+1,hlt⟩,Qa rfl (X2 ⟨(Y5 (by dsimp only;first|(rw[QeC hy];omega)|(rw[Qgz hy]))),rfl,rfl,rfl,JC,rfl,trivial⟩) ⟨rfl,rfl,rfl,rfl,rfl,rfl,trivial⟩,by dsimp only;omega⟩
theorem Qpp (l:Qv)(s:Nd)(p:Pp)(hc:QJ l=0)(hw:eqV s.wt (Qy l)=true):GX Tryz.prog 87 [.ptr Qf 0] [(Qf,.var 131 (XP l s (.ptr (Qf+1) 0))),((Qf+1),.var 137 (Jy p))] (.sl [] none) [(Qf,.var 131 (XP l s Jw)),((Qf+1),.var 137 (Jy p))] 0:=by
 refine Xt [2] Tryz.func87 rfl rfl 17 Tryz.ntmps87 (Nat.le_of_ble_eq_true rfl) ?_
 intro E hN;refine Qbp ?_;refine zD 8 ?_;refine Jl ?_;refine zP (Qd (fcb (QeB l s.wt hc) hw) rfl rfl rfl) ?_;refine XL ?_;refine QC (QcI 2 rfl) ?_;refine Qu ?_;change (Xz _ _).ntt=_∧_;refine Wb rfl ?_ rfl rfl rfl ⟨rfl,rfl,rfl,rfl,rfl,rfl,trivial⟩
 rfl
theorem Qpc (l:Qv)(s:Nd)(p:Pp)(hc:QJ l=0)(h1:1≤s.n)(h2:s.n≤12)(hl:El l 100000 s.lrn)(hv:El l 100000 p.v)(hq:Qav s p=true)(hw:eqV s.wt (Qy l)=true):GX Tryz.prog 86 [.ptr Qf 0] [(Qf,.var 131 (XP l s (.ptr (Qf+1) 0))),((Qf+1),.var 137 (Jy p))] (Qba (Qa2 (Xv l s p))) [(Qf,.var 131 (XP l (Xv l s p) Jw)),((Qf+1),.var 137 (Jy p))] 2:=by
 have hH:JK [(Qf,.var 131 (XP l s (.ptr (Qf+1) 0))),((Qf+1),.var 137 (Jy p))]:=JK.of rfl
 have hl':El l 100000 (Xv l s p).lrn:=by unfold Xv;dsimp only;split<;>assumption
 have hw':eqV (Xv l s p).wt (Qy l)=true:=hw
 have hn1':1≤(Xv l s p).n:=h1
 have hn2':(Xv l s p).n≤12:=h2
 refine Xt [2] Tryz.func86 rfl rfl 60 Tryz.ntmps86 (Nat.le_of_ble_eq_true rfl) ?_
 intro E hN;refine Qmp ?_;refine Qq (fun x:{k:Nat // k≤12}=>⟨[(0,.ptr Qf 0),(3,i64 (QbD p.ack x.1:Nat)),(13,.agg (Qvs p)),(14,i64 (x.1:Nat))],[(Qf,.var 131 (XP l s (.ptr (Qf+1) 0))),((Qf+1),.var 137 (Jy p))],0⟩) (fun x=>12-x.1) (⟨0,Nat.zero_le _⟩) ?_ ?_
 ·exact Qa rfl (Ks trivial) ⟨rfl,rfl,rfl,rfl,rfl,rfl,trivial⟩
 rintro⟨k,hk⟩;dsimp only;refine QL ?_
 refine zq ?_ ?_<;>intro h10
 ·have hlt:k<12:=Int.ofNat_lt.1 (by simpa using h10)
  refine QL ?_;refine zP (Qol rfl rfl rfl k rfl hlt rfl (QkG hlt)) ?_;refine XL ?_
  refine zq ?_ ?_<;>intro h11
  ·have hy:p.ack k=true:=h11
   refine QR ?_;refine zP (WM rfl rfl rfl (by first|omega|(have:=Qdp p.ack k;omega))) ?_;refine QI ?_;refine zP (WM rfl rfl rfl (by first|omega|(have:=Qdp p.ack k;omega))) ?_;refine zM ?_;refine Qc ?_;exact⟨⟨k+1,hlt⟩,Qa rfl (X2 ⟨(Y5 (by dsimp only;first|(rw[QeC hy];omega)|(rw[Qgz hy]))),rfl,rfl,rfl,JC,rfl,trivial⟩) ⟨rfl,rfl,rfl,rfl,rfl,rfl,trivial⟩,by dsimp only;omega⟩
  have hy:p.ack k=false:=h11
  refine QR ?_;refine zP (WM rfl rfl rfl (by first|omega|(have:=Qdp p.ack k;omega))) ?_;refine zM ?_;refine Qc ?_;exact⟨⟨k+1,hlt⟩,Qa rfl (X2 ⟨(Y5 (by dsimp only;first|(rw[QeC hy];omega)|(rw[Qgz hy]))),rfl,rfl,rfl,JC,rfl,trivial⟩) ⟨rfl,rfl,rfl,rfl,rfl,rfl,trivial⟩,by dsimp only;omega⟩
 have hge:¬(k:Int)<12:=by simpa using h10
 obtain rfl:k=12:=by omega
 refine J6 ?_;refine zP (Qd (QhB s.n h1 h2) rfl rfl rfl) ?_;refine zP (QD (b:=false) rfl rfl rfl (by simpa using Qpq hq)) ?_;refine QI ?_;refine JI (⟨[(0,.ptr Qf 0)],[(Qf,.var 131 (XP l (Xv l s p) (.ptr (Qf+1) 0))),((Qf+1),.var 137 (Jy p))],0⟩) ?_ ?_
 ·refine Yy ?_;refine zD 15 ?_;refine QgC ?_;refine zP (Qd (Wl l hc hl.1 hv.1) rfl rfl rfl) ?_;refine zN ?_
  refine zq ?_ ?_<;>intro h26
  rotate_left
  ·have hle:QE l s.lrn p.v=false:=h26
   refine QM ?_;exact Qa rfl (X2 trivial) ⟨(by first|(rw[QfF hle];rfl)|(rw[Qkj hle];rfl)),rfl,rfl,rfl,rfl,rfl,trivial⟩
  have hle:QE l s.lrn p.v=true:=h26
  refine JF ?_;refine Qc ?_;exact Qa rfl (X2 trivial) ⟨(by first|(rw[QfF hle];rfl)|(rw[Qkj hle];rfl)),rfl,rfl,rfl,rfl,rfl,trivial⟩
 refine QI ?_;refine QfC hN (JK.of (H:=[(Qf,.var 131 (XP l (Xv l s p) (.ptr (Qf+1) 0))),((Qf+1),.var 137 (Jy p))]) rfl) (Js _) (Qkb l (Xv l s p) (.ptr (Qf+1) 0) [((Qf+1),.var 137 (Jy p))] (JK.of rfl) hc hn1' hn2' hl') (.fn _ _ _ _ rfl rfl) rfl (fun _ _ h=>h) rfl rfl rfl rfl rfl rfl ?_;refine XL ?_
 refine Yd hN [(Qf,Qf),((Qf+1),(Qf+1))] (Qpp l (Xv l s p) p hc hw') (.fn _ _ _ _ rfl rfl) rfl rfl rfl ⟨rfl,rfl,rfl,rfl,rfl,rfl,trivial⟩ rfl ⟨rfl,rfl,trivial⟩ rfl rfl rfl rfl rfl rfl rfl rfl ?_;refine XA hN rfl rfl rfl (by rw[List.length_map]) rfl rfl rfl (by rw[List.length_map];have:=Qcy (Xv l s p);refine⟨?_,?_⟩<;>simp<;>omega) rfl rfl rfl rfl ?_;refine zT ?_
 refine QC (JU 2 1 rfl rfl (by rw[List.append_nil,List.length_map,List.length_nil];rfl) (by rw[List.append_nil];exact QS _) (by rw[List.append_nil];exact Js _) rfl) ?_;rw[List.append_nil];refine Qu ?_;change (Xz _ _).ntt=_∧_;refine Wb rfl ?_ rfl rfl rfl ⟨rfl,rfl,rfl,rfl,rfl,rfl,trivial⟩
 rfl
theorem Qou {j:Nat}(h:j<12):QnU (upN (fun _=>false) j true)=1:=by
 rcases Qoz h with rfl|rfl|rfl|rfl|rfl|rfl|rfl|rfl|rfl|rfl|rfl|rfl<;>decide
theorem QpA {s:Nd}{p:Pp}{l:Qv}(h2:2≤s.n)(hs0:0≤s.self)(hs1:s.self<12):Qav (QbO s p) (QdJ l s p)=false:=by
 show decide (QdU s.n≤(QnU (upN (fun _=>false) s.self.toNat true):Int))=false
 rw[Qou (by omega)]
 unfold QdU
 simp
 omega
theorem Qpr (l:Qv)(s:Nd)(hc:QJ l=0)(h1:2≤s.n)(h2:s.n≤12)(hs0:0≤s.self)(hs1:s.self<12)(hn0:0≤s.num)(hn1:s.num≤1000000)(ha:El l 50000 s.acc)(hwt:El l 50000 s.wt):GX Tryz.prog 80 [.ptr Qf 0] [(Qf,.var 131 (XP l s Jw))] (Qba (J4 (Jv l s) (Ju l s) Jn)) [(Qf,.var 131 (XP l (Jv l s) (.ptr 0 0))),(0,.var 137 (Jy (Ju l s)))] 3:=by
 have hH:JK [(Qf,.var 131 (XP l s Jw))]:=JK.of rfl
 have hv:El l 100000 (Qs l s.acc s.wt):=ha.join (Q9 hc) (by omega) hwt
 have cPl:=WZ l s Jw [] hH hc (ha.up (by decide)) (hwt.up (by decide))
 refine Xt [2] Tryz.func80 rfl rfl 33 Tryz.ntmps80 (Nat.le_of_ble_eq_true rfl) ?_
 intro E hN;refine QL ?_;refine QeA [0,1,2,3,4,5,6,7,8,9,10,11,12] 13 [14,15,16] rfl (by kernel_rfl) (by kernel_rfl) ?_;refine XR ?_;refine zp (XH rfl rfl rfl rfl (by exact rfl) (by decide) (by decide) (Qcp s.acc s.wt)) ?_;refine zp (XE hH cPl rfl rfl rfl hH.pp) ?_;refine zp (QaS rfl rfl rfl) ?_;change FK _ _ _ _ _ _;refine QvP hN rfl rfl rfl (fun _=>rfl) rfl rfl rfl rfl rfl ?_;change Q3 _ _ _ _ _ _;refine QL ?_
 refine QC (Qgv 0 (cs':=Jy (QiP l s)) rfl (by repeat (first|exact trivial|refine⟨.inl rfl,?_⟩|refine⟨.inr ⟨rfl,rfl⟩,?_⟩))) ?_;refine QI ?_;refine zP (YO [(Qf,Qf),(Qf+1,0)] (QaJ l s (.ptr (Qf+1) 0) [((Qf+1),.var 137 (Jy (QiP l s)))] (JK.of rfl) hc) rfl rfl rfl rfl ⟨rfl,rfl,rfl,rfl,rfl,rfl,rfl,rfl,trivial⟩ rfl) ?_;refine Xy ?_
 refine Yd hN [(Qf,Qf),((Qf+1),0)] (QkU l { s with wt:=Qy l } (QiP l s) hc hs0 hs1 hn0 hn1) (.fn _ _ _ _ rfl rfl) rfl rfl rfl ⟨rfl,rfl,rfl,rfl,rfl,rfl,trivial⟩ rfl ⟨rfl,rfl,trivial⟩ rfl rfl rfl rfl rfl rfl rfl rfl ?_;refine QK ?_
 refine Yd hN [(Qf,Qf),((Qf+1),0)] (QfA l (Jv l s) (Ju l s) [] (JK.of rfl) hc (by show 1≤s.n;omega) h2 hv Jn 98 [] (fun i _=>QfT (JK.of rfl) (i:Int)) rfl rfl rfl) (.fn _ _ _ _ rfl rfl) rfl rfl rfl ⟨rfl,rfl,rfl,rfl,rfl,rfl,trivial⟩ rfl ⟨Qkc (Js _),rfl,rfl,trivial⟩ rfl (Qic (Js _) rfl rfl) rfl rfl rfl rfl rfl rfl ?_;refine XL ?_
 refine zP (YO [(Qf,Qf),(Qf+1,0)] (QoI l (Jv l s) (Ju l s) (by show 1≤s.n;omega) h2 (QpA h1 hs0 hs1)) rfl rfl rfl rfl ⟨rfl,rfl,rfl,rfl,rfl,rfl,rfl,rfl,trivial⟩ rfl) ?_;refine XA hN rfl rfl rfl (by rw[List.length_map]) rfl rfl rfl (by rw[List.length_map];have h3:(J4 (Jv l s) (Ju l s) Jn).length≤s.n.toNat:=Qbs ..;refine⟨?_,?_⟩<;>simp<;>omega) rfl rfl rfl rfl ?_;refine zT ?_
 refine QC (JU 2 2 rfl rfl (by rw[List.append_nil,List.length_map,List.length_nil];rfl) (by rw[List.append_nil];exact QS _) (by rw[List.append_nil];exact Js _) rfl) ?_;rw[List.append_nil];refine Qu ?_;change (Xz _ _).ntt=_∧_;refine Wb rfl ?_ rfl rfl rfl ⟨rfl,rfl,rfl,rfl,rfl,rfl,trivial⟩
 rfl
end Go.Proofs.YtnkkokmmeplbgaaGreat
